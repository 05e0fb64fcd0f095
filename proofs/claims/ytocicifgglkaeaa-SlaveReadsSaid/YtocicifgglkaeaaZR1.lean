/- The words, contracts and walks that this claim leans on, put together by a program of this session (part 1). -/
import Derived.Test.YtocicifgglkaeaaZR0
import Derived.Test.YtocicifgglkaeaaProg
import Derived.Laws.StructEq
import Derived.MapKept
import Derived.Laws.CopyOwn
section
namespace Go.Proofs.Ytocicifgglkaeaa.PPduSizes
open Go.RowKit Go.Proofs.YtocicifgglkaeaaW.PrintWords Go.Proofs.YtocicifgglkaeaaW.PrintLast Go.Proofs.YtocicifgglkaeaaW.PrintMore
attribute [local go_sem] max2_int min2_int max_two min_two max_three min_three max_four min_four   
set_option linter.unusedVariables false
set_option linter.unusedSimpArgs false
theorem info3 : (Try.prog.info? 3).map (fun i => (i.zero, i.size, i.bytes)) = some (some (.int .i64 0), 1, 8) := by kernel_rfl
end Go.Proofs.Ytocicifgglkaeaa.PPduSizes
end

section
namespace Go.Proofs.Ytocicifgglkaeaa.Core
open Go.RowKit Go.Proofs.YtocicifgglkaeaaW.PrintWords Go.Proofs.YtocicifgglkaeaaW.PrintLast Go.Proofs.YtocicifgglkaeaaW.PrintMore
set_option linter.unusedVariables false
set_option linter.unusedSimpArgs false
structure Ext (M : Nat → Prop) (w w' : World) : Prop where
  os : w'.os = w.os
  tape : w'.tape = w.tape
  output : w'.output = w.output
  size : w.heap.size ≤ w'.heap.size
  block : ∀ k, k < w.heap.size → ¬ M k → w'.heap[k]? = w.heap[k]?
structure Ever (M : Nat → Prop) (w : World) (P : World → Prop) : Prop where
  at_ : ∀ w', Ext M w w' → P w'
section
variable {M M' : Nat → Prop} {w w1 w2 W : World} {P Q : World → Prop}
theorem Ext.refl (M : Nat → Prop) (w : World) : Ext M w w := ⟨rfl, rfl, rfl, Nat.le_refl _, fun _ _ _ => rfl⟩
theorem Ext.trans (h : Ext M w w1) (k : Ext M w1 w2) : Ext M w w2 :=
  ⟨k.os.trans h.os, k.tape.trans h.tape, k.output.trans h.output, Nat.le_trans h.size k.size, fun i hi hm => (k.block i (Nat.lt_of_lt_of_le hi h.size) hm).trans (h.block i hi hm)⟩
theorem Ext.mono (h : Ext M w w1) (hm : ∀ k, k < w.heap.size → M k → M' k) : Ext M' w w1 := ⟨h.os, h.tape, h.output, h.size, fun i hi hn => h.block i hi (fun a => hn (hm i hi a))⟩
theorem Ext.of_below (h : Below w.heap.size w w1) : Ext M w w1 := ⟨h.os, h.tape, h.output, h.size, fun i hi _ => h.block i hi⟩
theorem Ext.then_below (h : Ext M w w1) (k : Below w1.heap.size w1 w2) : Ext M w w2 := h.trans (.of_below k)
theorem Ext.alloc (h : Ext M w W) (o : Obj) : Ext M w (W.alloc o) := h.then_below (below_alloc (Below.refl _ _) o)
theorem Ext.drew (h : Ext M w W) : Ext M w W.drew := h.then_below (below_drew1 (Below.refl _ _))
theorem Ext.set (h : Ext M w W) {g j : Nat} (hg : M g) (v : Value) : Ext M w (W.setCell ⟨g, j, none⟩ v) :=
  h.trans ⟨rfl, rfl, rfl, by simp [World.setCell], fun k _ hk => Below.heap_setCell _ _ _ _ (fun e => hk (by simpa using e ▸ hg))⟩
theorem Ext.grown (h : Ext M w W) {row : Option Nat} (hg : W.grownBy w1 row) (hr : ∀ k, row = some k → M k ∨ w.heap.size ≤ k) : Ext M w w1 :=
  ⟨hg.os.trans h.os, hg.tape.trans h.tape, hg.output.trans h.output, Nat.le_trans h.size hg.size, fun k hk hm => (hg.block k (Nat.lt_of_lt_of_le hk h.size) (fun e => by rcases hr k e.symm with a | a; exact hm a; omega)).trans (h.block k hk hm)⟩
theorem Ext.below (h : Ext M w W) (hM : ∀ k, M k → w.heap.size ≤ k) : Below w.heap.size w W := ⟨h.os, h.tape, h.output, h.size, fun k hk => h.block k hk (fun a => by have := hM k a; omega)⟩
theorem Ext.grow (h : Ext M w W) (k : Ext M' W w2) (hM : ∀ k, M' k → M k ∨ w.heap.size ≤ k) : Ext M w w2 :=
  ⟨k.os.trans h.os, k.tape.trans h.tape, k.output.trans h.output, Nat.le_trans h.size k.size, fun i hi hm => (k.block i (Nat.lt_of_lt_of_le hi h.size) (fun a => by rcases hM i a with b | b; exact hm b; omega)).trans (h.block i hi hm)⟩
theorem Ext.setg {g j : Nat} (h : Ext (fun k => k = g) w W) (v : Value) : Ext (fun k => k = g) w (W.setCell ⟨g, j, none⟩ v) := Ext.set h (M := fun k => k = g) rfl v
theorem Ever.now (h : Ever M w P) : P w := h.at_ w (Ext.refl _ _)
theorem Ever.step (h : Ever M w P) (k : Ext M w w1) : Ever M w1 P := ⟨fun w2 h2 => h.at_ w2 (k.trans h2)⟩
theorem Ever.grow (h : Ever M w P) (k : Ext M w w1) (hM : ∀ k, M' k → M k ∨ w.heap.size ≤ k) : Ever M' w1 P := ⟨fun w2 h2 => h.at_ w2 (k.grow h2 hM)⟩
theorem Ever.imp (h : Ever M w P) (k : ∀ w, P w → Q w) : Ever M w Q := ⟨fun w1 h1 => k _ (h.at_ w1 h1)⟩
theorem Ever.and (h : Ever M w P) (k : Ever M w Q) : Ever M w (fun w => P w ∧ Q w) := ⟨fun w1 h1 => ⟨h.at_ w1 h1, k.at_ w1 h1⟩⟩
theorem Ever.old (h : P w) (hb : ∀ w1, Below w.heap.size w w1 → P w1) (hM : ∀ k, M k → w.heap.size ≤ k) : Ever M w P := ⟨fun w1 h1 => hb w1 (h1.below hM)⟩
theorem Ever.C {α : Type} {d : Kd α} {A : Option Addr} {n : Nat} {xs : List α} (h : d.C w A n xs) (hM : ∀ k, M k → w.heap.size ≤ k) : Ever M w (fun W => d.C W A n xs) := .old h (fun _ hb => Kd.C_below h hb) hM
theorem Ever.R {α : Type} {d : Kd α} {e base : Nat} {ok : Nat → Prop} {A : Option Addr} {n c : Nat} {xs : List α} (h : d.R e w base ok (.slice A n c) xs) (hM : ∀ k, M k → k < base) : Ever M w (fun W => d.C W A xs.length xs) := by
  refine ⟨fun w1 h1 => ?_⟩
  have h2 : d.R e w1 base (fun k => ok k ∧ base ≤ k ∧ k < w.heap.size ∧ ∃ q, q ∈ e :: d.E ∧ ∃ cells, w.heap[k]? = some (.cells cells q (0, 0))) (.slice A n c) xs :=
    Kd.R_move (Kd.R_bound h) (fun k hk => h1.block k hk.2.2.1 (fun a => by have := hM k a; have := hk.2.1; omega))
  exact (Kd.R_reads' h2).2.2
theorem Ever.blk {g : Nat} {o : Obj} (h : w.heap[g]? = some o) (hM : ¬ M g) : Ever M w (fun W => W.heap[g]? = some o) := ⟨fun w1 h1 => (h1.block g (blk_lt h) hM).trans h⟩
theorem Ever.nil {α : Type} (d : Kd α) : Ever M w (fun W => d.C W none ([] : List α).length []) := ⟨fun w1 _ => Kd.C_nil d w1⟩
end
section
variable {α : Type} {enc : α → Value} {h1 : ∀ x, (enc x).oneCell' = true} {M : Nat → Prop} {w : World} {A : Option Addr}
theorem Ever.take {d : Kd α} {xs : List α} (h : Ever M w (fun W => d.C W A xs.length xs)) {m : Nat} (hm : m ≤ xs.length) : Ever M w (fun W => d.C W A (xs.take m).length (xs.take m)) := h.imp (fun _ k => Kd.C_take k hm)
end
def Mv (M : Nat → Prop) (v : Value) (k : Nat) : Prop := M k ∨ some k = v.ownBlock
def OwnE {α : Type} (d : Kd α) (M : Nat → Prop) (e : TypeId) (base : Nat) (W : World) (v : Value) (xs : List α) : Prop :=
  ∃ inner, W.ownsRow base e d.sz v xs.length inner ∧ Reps (fun x cs => Ever (Mv M v) W (fun W => d.K W x cs)) d.sz xs inner
section
variable {α : Type} {d : Kd α} {M M' : Nat → Prop} {e : TypeId} {base : Nat} {W w1 : World} {v v1 : Value} {xs : List α} {P : World → Prop}
theorem OwnE.nil (d : Kd α) (M : Nat → Prop) (e : TypeId) (base : Nat) (W : World) : OwnE d M e base W (.slice none 0 0) [] := ⟨[], own_nil W base e d.sz, Reps.none _ _⟩
theorem OwnE.slice (h : OwnE d M e base W v xs) : ∃ A c, v = .slice A xs.length c := by obtain ⟨i, h, _⟩ := h; exact own_slice h
theorem OwnE.step (h : OwnE d M e base W v xs) (k : Ext (Mv M v) W w1) (hv : ∀ k, v.ownBlock = some k → w1.heap[k]? = W.heap[k]?) : OwnE d M e base w1 v xs := by
  obtain ⟨i, h1, h2⟩ := h
  exact ⟨i, own_move h1 hv, h2.imp_ (fun _ _ h => h.step k)⟩
theorem OwnE.below (h : OwnE d M e base W v xs) (k : Below W.heap.size W w1) : OwnE d M e base w1 v xs := by
  obtain ⟨i, h1, h2⟩ := h
  exact ⟨i, pw_own_below h1 k, h2.imp_ (fun _ _ h => h.step (.of_below k))⟩
theorem OwnE.ext (h : OwnE d M e base W v xs) (k : Ext M W w1) (hM : ∀ k, v.ownBlock = some k → ¬ M k) : OwnE d M e base w1 v xs := by
  have h0 := h
  obtain ⟨i, h1, h2⟩ := h0
  exact h.step (k.mono (fun _ _ a => .inl a)) (fun b hb => k.block b (own_lt h1 b hb) (hM b hb))
theorem OwnE.lt (h : OwnE d M e base W v xs) (k : Nat) (hk : v.ownBlock = some k) : k < W.heap.size := by obtain ⟨i, h1, _⟩ := h; exact own_lt h1 k hk
theorem OwnE.view (h : OwnE d M e base W v xs) (hM : ∀ k, v.ownBlock = some k → ¬ M k) : ∃ A c, v = .slice A xs.length c ∧ xs.length ≤ c ∧ Ever M W (fun W => d.C W A xs.length xs) := by
  obtain ⟨i, h1, h2⟩ := h
  obtain ⟨A, c, rfl⟩ := own_slice h1
  refine ⟨A, c, rfl, own_cap h1, ⟨fun w1 k => ?_⟩⟩
  have h3 : w1.ownsRow base e d.sz (.slice A xs.length c) xs.length i := own_move h1 (fun b hb => k.block b (own_lt h1 b hb) (hM b hb))
  have h4 : Reps (d.K w1) d.sz xs i := h2.imp_ (fun _ _ h => h.at_ _ (k.mono (fun _ _ a => .inl a)))
  obtain ⟨A', c', e', h5⟩ := own_reads_row h3 h4 rfl
  cases e'
  exact h5
theorem Mv_grow {W w1 : World} (hat : v1.ownBlock = v.ownBlock ∨ ∃ b, v1.ownBlock = some b ∧ W.heap.size ≤ b) (k : Nat) (h : Mv M v1 k) : Mv M v k ∨ W.heap.size ≤ k := by
  rcases h with h | h
  · exact .inl (.inl h)
  · rcases hat with a | ⟨b, a, hb⟩
    · exact .inl (.inr (h.trans a))
    · rw [a] at h; injection h with h; exact .inr (by omega)
theorem Ext.of_grown (h : W.grownBy w1 v.ownBlock) : Ext (Mv M v) W w1 := ⟨h.os, h.tape, h.output, h.size, fun k hk hm => h.block k hk (fun e => hm (.inr e))⟩
end
section
variable {P : Program} {ops : Array Oper} {rest : List Oper} {o : Oper} {a : Act} {Q : Exit → Act → World → Prop} {α : Type}
theorem ev_append_rows (d : Kd α) {M : Nat → Prop} {w0 W : World} (base : Nat) (hgd : o.guard = none) (s x : Operand) (t e : TypeId) (z : Value) (bytes : Nat)
    (ho : o.op = .call { callee := .builtin .append, args := #[s, x], argTypes := #[t, t] })
    (ht : P.underlying t = some (.slice e)) (hinfo : (P.info? e).map (fun i => (i.zero, i.size, i.bytes)) = some (some z, d.sz, bytes)) (hz : z.cells.size = d.sz) (hs0 : 0 < d.sz) (hb0 : 0 < bytes)
    (v : Value) (xs ys : List α) (A : Option Addr) (m c : Nat) (hs : a.eval s = v) (hx : a.eval x = .slice A m c)
    (HO : OwnE d M e base W v xs) (HR : ReadsRow (fun x cs => cs.length = d.sz ∧ (∀ u ∈ cs, u.oneCell' = true) ∧ Ever (Mv M v) W (fun W => d.K W x cs)) d.sz W A m ys)
    (HB : Below base w0 W) (hbase : base ≤ W.heap.size) (hl : (xs.length + m) * bytes ≤ 140737488355328)
    (h : ∀ v1 w1, OwnE d M e base w1 v1 (xs ++ ys) → Below base w0 w1 → W.grownBy w1 v.ownBlock → (v1.ownBlock = v.ownBlock ∨ ∃ b, v1.ownBlock = some b ∧ W.heap.size ≤ b) → wpList P ops Q rest (a.put o.dst v1) w1) :
    wpList P ops Q (o :: rest) a W := by
  obtain ⟨i0, hi, hzz⟩ := Option.map_eq_some_iff.1 hinfo
  simp only [Prod.mk.injEq] at hzz
  obtain ⟨hz0, hz1, hz2⟩ := hzz
  have hm : ys.length = m := HR.1
  have hlen : xs.length + m ≤ 140737488355328 := Nat.le_trans (Nat.le_mul_of_pos_right _ hb0) hl
  obtain ⟨inner, hown, hr⟩ := HO
  rcases A with _ | ad
  · have h0 : m = 0 := by
      rcases Nat.eq_zero_or_pos m with h0 | h0
      · exact h0
      · obtain ⟨ad, h, _⟩ := HR.2.2 h0
        cases h
    subst h0
    obtain rfl : ys = [] := List.eq_nil_of_length_eq_zero hm
    have hrun : (Builtin.append_ #[t, t] o.type #[v, .slice none 0 c]).run P W = .ok v W := by
      rcases hown.2 with ⟨rfl, hn⟩ | ⟨g, cap, cur, rfl, _, _, hnc, _⟩
      · simp [Builtin.append_, run_underlying ht, sizeOf, typeInfo, hi, Builtin.lenOf, Builtin.firstCells]
      · simp [Builtin.append_, run_underlying ht, sizeOf, typeInfo, hi, Builtin.lenOf, Builtin.firstCells, hnc, storeCells]
    refine wpList_plain hgd fun K hK => ?_
    unfold Oper.wp execOp
    simp only [ho, resolve, invoke, builtin, Sem.run_bind, Sem.run_pure, Result.andThen_ok, List.map_toArray, List.map_cons, List.map_nil, hs, hx, hrun]
    exact hK _ _ (h v W (by rw [List.append_nil]; exact ⟨inner, hown, hr⟩) HB (World.grownBy.refl W _) (.inl rfl))
  · obtain ⟨news, hnr, hnc⟩ := ReadsRow.inner_ HR
    have hone : ∀ u ∈ news, u.oneCell' = true := by
      intro u hu
      obtain ⟨q, hq, rfl⟩ := List.mem_iff_getElem.1 hu
      have hql : q / d.sz < ys.length := by
        rw [Nat.div_lt_iff_lt_mul hs0]
        rw [← hnr.1]
        exact hq
      have hc := hnr.2 (q / d.sz) _ (List.getElem?_eq_getElem hql)
      refine hc.2.1 _ ?_
      rw [List.mem_iff_getElem?]
      refine ⟨q % d.sz, ?_⟩
      rw [List.getElem?_take, if_pos (Nat.mod_lt _ hs0), List.getElem?_drop, Nat.mul_comm, Nat.div_add_mod, List.getElem?_eq_getElem hq]
    refine wpList_append_own_at W hgd s x t ho base e i0 z d.sz bytes ht hi hz0 hz1 hz2 hz hs0 v xs.length inner hs hown ad m c news hx (by rw [hnr.1, hm]) hnc hone (by simp only [maxLen]; omega) hl hbase (fun v1 w1 h1 h3 _ h4 => ?_)
    have h4' : v1.ownBlock = v.ownBlock ∨ ∃ b, v1.ownBlock = some b ∧ W.heap.size ≤ b := by
      rcases h4 with a | a
      · exact .inl a
      · exact .inr ⟨_, a, Nat.le_refl _⟩
    have hE : Ext (Mv M v) W w1 := Ext.of_grown h3
    refine h v1 w1 ⟨inner ++ news, by rw [List.length_append, hm]; exact h1, ?_⟩ (HB.grown h3 hbase (own_base hown)) h3 h4'
    exact Kd.reps_append (hr.imp_ (fun _ _ k => k.grow hE (Mv_grow (w1 := w1) h4'))) (hnr.imp_ (fun _ _ k => k.2.2.grow hE (Mv_grow (w1 := w1) h4')))
end
def RowE {α : Type} (d : Kd α) (M : Nat → Prop) (W : World) (A : Option Addr) (n : Nat) (xs : List α) : Prop :=
  xs.length = n ∧ n ≤ 9223372036854775807 ∧ (0 < n → ∃ ad inner, A = some ad ∧ Reps (fun x cs => (cs.length = d.sz ∧ ∀ u ∈ cs, u.oneCell' = true) ∧ Ever M W (fun W => d.K W x cs)) d.sz xs inner ∧ Ever M W (fun W => ∀ i u, inner[i]? = some u → W.cell? (ad.add i) = some u))
section
variable {α : Type} {d : Kd α} {M M' : Nat → Prop} {W w1 : World} {A : Option Addr} {n : Nat} {xs : List α}
theorem RowE.elems (h : RowE d M W A n xs) : ReadsRow (fun x cs => cs.length = d.sz ∧ (∀ u ∈ cs, u.oneCell' = true) ∧ Ever M W (fun W => d.K W x cs)) d.sz W A n xs := by
  refine ⟨h.1, h.2.1, fun hn => ?_⟩
  obtain ⟨ad, inner, rfl, h1, h2⟩ := h.2.2 hn
  refine ⟨ad, rfl, fun j p hj => ⟨(inner.drop (j * d.sz)).take d.sz, (h1.2 j p hj).1.1, ⟨(h1.2 j p hj).1.1, (h1.2 j p hj).1.2, (h1.2 j p hj).2⟩, fun i u hu => ?_⟩⟩
  · refine h2.now _ u ?_
    rw [List.getElem?_take] at hu
    split at hu
    · rw [List.getElem?_drop] at hu
      exact hu
    · cases hu
theorem RowE.grow (h : RowE d M W A n xs) (k : Ext M W w1) (hM : ∀ k, M' k → M k ∨ W.heap.size ≤ k) : RowE d M' w1 A n xs := by
  refine ⟨h.1, h.2.1, fun hn => ?_⟩
  obtain ⟨ad, inner, rfl, h1, h2⟩ := h.2.2 hn
  exact ⟨ad, inner, rfl, h1.imp_ (fun _ _ a => ⟨a.1, a.2.grow k hM⟩), h2.grow k hM⟩
theorem RowE.step (h : RowE d M W A n xs) (k : Ext M W w1) : RowE d M w1 A n xs := h.grow k (fun _ a => .inl a)
theorem RowE.nil : RowE d M W none ([] : List α).length [] := ⟨rfl, by simp, fun h => absurd h (Nat.lt_irrefl 0)⟩
theorem RowE.old (h : d.C W A n xs) (hM : ∀ k, M k → W.heap.size ≤ k) : RowE d M W A n xs := by
  refine ⟨h.1, h.2.1, fun hn => ?_⟩
  obtain ⟨ad, rfl, hc⟩ := h.2.2 hn
  obtain ⟨inner, hr, hcell⟩ := ReadsRow.inner_ h
  refine ⟨ad, inner, rfl, ?_, ?_⟩
  · refine hr.imp_ (fun x cs hk => ⟨⟨d.K_len hk, d.K_one hk⟩, Ever.old hk (fun _ hb => d.K_below hb hk) hM⟩)
  · exact Ever.old hcell (fun _ hb i u hu => pw_cell_below hb (hcell i u hu)) hM
theorem OwnE.row {e : TypeId} {base : Nat} {v : Value} (h : OwnE d M e base W v xs) (hM : ∀ k, v.ownBlock = some k → ¬ M k) : ∃ A c, v = .slice A xs.length c ∧ xs.length ≤ c ∧ RowE d M W A xs.length xs := by
  obtain ⟨i, h1, h2⟩ := h
  obtain ⟨A, c, rfl⟩ := own_slice h1
  have hm := (own_reads_row h1 (h2.imp_ (R' := fun _ _ => True) (fun _ _ _ => trivial)) rfl)
  obtain ⟨A', c', e', hmx⟩ := hm
  cases e'
  refine ⟨A, c, rfl, own_cap h1, rfl, hmx.2.1, fun hn => ?_⟩
  obtain ⟨g, cap, e', _, _⟩ := h1.form hn
  cases e'
  refine ⟨_, i, rfl, h2.imp_ (fun _ _ a => ⟨⟨d.K_len a.now, d.K_one a.now⟩, a.grow (Ext.refl _ _) (fun _ b => .inl (.inl b))⟩), ⟨fun w1 k j u hu => ?_⟩⟩
  exact (own_move h1 (fun b hb => k.block b (own_lt h1 b hb) (hM b hb))).cells rfl j u hu
end
def IsRow {α : Type} (d : Kd α) (M : Nat → Prop) (W : World) (v : Value) (xs : List α) : Prop := ∃ A c, v = .slice A xs.length c ∧ xs.length ≤ c ∧ RowE d M W A xs.length xs
theorem IsRow.grow {α : Type} {d : Kd α} {M M' : Nat → Prop} {W w1 : World} {v : Value} {xs : List α} (h : IsRow d M W v xs) (k : Ext M W w1) (hM : ∀ k, M' k → M k ∨ W.heap.size ≤ k) : IsRow d M' w1 v xs := by
  obtain ⟨A, c, e, hc, h⟩ := h
  exact ⟨A, c, e, hc, h.grow k hM⟩
theorem IsRow.step {α : Type} {d : Kd α} {M : Nat → Prop} {W w1 : World} {v : Value} {xs : List α} (h : IsRow d M W v xs) (k : Ext M W w1) : IsRow d M w1 v xs := h.grow k (fun _ a => .inl a)
theorem new_blk {W : World} {o : Obj} {g : Nat} (hg : g = W.heap.size) : (W.alloc o).heap[g]? = some o := by subst hg; exact heap_alloc_new W o
end Go.Proofs.Ytocicifgglkaeaa.Core
end

section
set_option linter.unusedVariables false
set_option linter.unusedSimpArgs false
namespace Go.Proofs.Ytocicifgglkaeaa.Wk
open Go.RowKit Go.Proofs.YtocicifgglkaeaaW.PrintWords Go.Proofs.YtocicifgglkaeaaW.PrintLast Go.Proofs.YtocicifgglkaeaaW.PrintMore Go.Proofs.Ytocicifgglkaeaa.Core
end Go.Proofs.Ytocicifgglkaeaa.Wk
namespace Go.Proofs.Ytocicifgglkaeaa.Core
open Go.RowKit Go.Proofs.YtocicifgglkaeaaW.PrintWords Go.Proofs.YtocicifgglkaeaaW.PrintLast Go.Proofs.YtocicifgglkaeaaW.PrintMore
section
variable {M M' F : Nat → Prop} {w w1 w2 W W' : World} {P Q : World → Prop} {g : Nat}
theorem Ext.blk {o : Obj} (h : Ext F W W') (hb : W.heap[g]? = some o) (hg : ¬ F g) : W'.heap[g]? = some o := (h.block g (blk_lt hb) hg).trans hb
theorem Ext.sub (h : Ext F W W') (hs : ∀ k, F k → M k) : Ext M W W' := h.mono (fun k _ e => hs k e)
theorem Ext.step (h : Ext M w W) (k : Ext F W W') (hF : ∀ k, F k → M k ∨ w.heap.size ≤ k) : Ext M w W' := h.grow k hF
theorem Ext.stepB (h : Ext M w W) (k : Below W.heap.size W W') : Ext M w W' := h.then_below k
theorem Ext.none_ (h : Below W.heap.size W W') : Ext (fun _ => False) W W' := Ext.of_below h
theorem ne_born {h g n : Nat} (hl : h < n) (hg : g = n) : h ≠ g := by omega
theorem fnew {g : Nat} (hg : g = W.heap.size) (h : w.heap.size ≤ W.heap.size) : ∀ k, k = g → M k ∨ w.heap.size ≤ k := fun k e => .inr (by omega)
theorem fold {g : Nat} (hg : M g) : ∀ k, k = g → M k ∨ w.heap.size ≤ k := fun k e => .inl (by rw [e]; exact hg)
def Ms (gs : List Nat) (k : Nat) : Prop := k ∈ gs
theorem Ms.old {r : Nat} {gs : List Nat} : ∀ k, Ms gs k → Ms (r :: gs) k := fun _ h => List.mem_cons_of_mem _ h
theorem Ms.lt (gs : List Nat) {n n' : Nat} (h : ∀ k, Ms gs k → k < n) (hn : n ≤ n') : ∀ k, Ms gs k → k < n' := fun k hk => Nat.lt_of_lt_of_le (h k hk) hn
theorem rowset {g i : Nat} {v : Int} {k : IntKind} {xs : List Int} {e : TypeId} (hw : W' = W.setCell ⟨g, i, none⟩ (.int k v)) (hb : W.heap[g]? = some (.cells (xs.map (Value.int k)).toArray e (0, 0))) :
    W'.heap[g]? = some (.cells ((xs.set i v).map (Value.int k)).toArray e (0, 0)) ∧ Ext (fun k => k = g) W W' := by
  subst hw
  refine ⟨blk_put hb i _ ?_, (Ext.refl _ _).setg _⟩
  rw [List.map_set, List.setIfInBounds_toArray]
theorem row_cell {g i : Nat} {k : IntKind} {xs : List Int} {e : TypeId} (hb : W.heap[g]? = some (.cells (xs.map (Value.int k)).toArray e (0, 0))) (hi : i < xs.length) : W.cell? ⟨g, i, none⟩ = some (.int k (xs.getD i 0)) := by
  rw [blk_cell hb i]
  simp only [List.getElem?_toArray, List.getElem?_map, List.getD_eq_getElem?_getD, List.getElem?_eq_getElem hi, Option.map_some, Option.getD_some]
theorem put1 {g i : Nat} {v : Value} {cs cs' : Array Value} {T : TypeId} (hw : W' = W.setCell ⟨g, i, none⟩ v) (hb : W.heap[g]? = some (.cells cs T (0, 0))) (hc : cs.setIfInBounds i v = cs') :
    W'.heap[g]? = some (.cells cs' T (0, 0)) ∧ Ext (fun k => k = g) W W' := by
  subst hw
  exact ⟨blk_put hb i v hc, (Ext.refl _ _).setg v⟩
theorem Ever.ofRow {xs : List Int} {k : IntKind} {e : TypeId} {n : Nat} (h : W.heap[g]? = some (.cells (xs.map (Value.int k)).toArray e (0, 0))) (hl : xs.length ≤ 9223372036854775807) (hM : ¬ M g) : Ever M W (fun W => Kd.C (Kd.int k) W (some ⟨g, 0, none⟩) xs.length xs) := by
  refine (Ever.blk h hM).imp (fun W1 h1 => ?_)
  refine Kd.C_of_reads (enc := Value.int k) (d := (0 : Int)) (h1 := fun _ => rfl) (show ReadsInt W1 k _ _ _ from ⟨rfl, hl, fun hn => ⟨_, rfl, fun j hj => ?_⟩⟩)
  have : (⟨g, 0, none⟩ : Addr).add j = ⟨g, j, none⟩ := by simp [Addr.add] <;> omega
  rw [this, blk_cell h1 j]
  simp only [List.getElem?_toArray, List.getElem?_map, List.getD_eq_getElem?_getD, List.getElem?_eq_getElem hj, Option.map_some, Option.getD_some]
theorem row_C {xs : List Int} {k : IntKind} {e : TypeId} (h : W.heap[g]? = some (.cells (xs.map (Value.int k)).toArray e (0, 0))) (hl : xs.length ≤ 9223372036854775807) : Kd.C (Kd.int k) W (some ⟨g, 0, none⟩) xs.length xs :=
  (Ever.ofRow (M := fun _ => False) (n := 0) h hl (fun a => a)).now
theorem C_cell {xs : List Int} {k : IntKind} {A : Option Addr} (h : Kd.C (Kd.int k) W A xs.length xs) (hn : 0 < xs.length) : ∃ ad, A = some ad ∧ ∀ j, j < xs.length → W.cell? (ad.add j) = some (.int k (xs.getD j 0)) := (Kd.reads_of_C h).2.2 hn
end
end Go.Proofs.Ytocicifgglkaeaa.Core
namespace Go.Proofs.Ytocicifgglkaeaa.Wk
open Go.RowKit Go.Proofs.YtocicifgglkaeaaW.PrintWords Go.Proofs.YtocicifgglkaeaaW.PrintLast Go.Proofs.YtocicifgglkaeaaW.PrintMore Go.Proofs.Ytocicifgglkaeaa.Core
section
variable {P : Program} {ops : Array Oper} {rest : List Oper} {o : Oper} {a : Act} {Q : Exit → Act → World → Prop} {W : World} {Kc : Act → World → Prop}
theorem run_mk (W : World) {t e : TypeId} {k : IntKind} (ht : P.underlying t = some (.slice e)) (bytes : Nat) (hinfo : (P.info? e).map (fun i => (i.zero, i.size, i.bytes)) = some (some (.int k 0), 1, bytes)) (hb0 : 0 < bytes) (hb8 : bytes ≤ 8) (n : Int) (h0 : 0 ≤ n) (hn : n ≤ 4294967296) :
    ∃ W', (Instr.makeSlice t (.int .i64 n) (.int .i64 n)).run P W = .ok (.slice (some ⟨W.heap.size, 0, none⟩) n.toNat n.toNat) W' ∧
      W'.heap[W.heap.size]? = some (.cells ((List.replicate n.toNat (0 : Int)).map (Value.int k)).toArray e (0, 0)) ∧ Below W.heap.size W W' := by
  obtain ⟨m, rfl⟩ := Int.eq_ofNat_of_zero_le h0
  obtain ⟨i0, hi, hzz⟩ := Option.map_eq_some_iff.1 hinfo
  simp only [Prod.mk.injEq] at hzz
  obtain ⟨hz0, hz1, hz2⟩ := hzz
  have hb : i0.bytes * m ≤ 281474976710656 := by
    rw [hz2]
    exact Nat.le_trans (Nat.mul_le_mul hb8 (show m ≤ 4294967296 by omega)) (by decide)
  obtain ⟨W', hrun, hown, hg⟩ := run_make_full (P := P) W 0 t e i0 (.int k 0) 1 ht hi hz0 hz1 .i64 .i64 m hb (by simp only [maxLen]; omega) (Nat.zero_le _)
  refine ⟨W', by simpa using hrun, ?_, ⟨hg.os, hg.tape, hg.output, hg.size, fun k hk => hg.block k hk (by simp)⟩⟩
  obtain ⟨hl, h2⟩ := hown
  rcases h2 with ⟨h3, _⟩ | ⟨g, cap, cur, he, _, hh, _, _, hs, hx⟩
  · cases h3
  · cases he
    have hcur : cur.toList = ((List.replicate m (0 : Int)).map (Value.int k)) := by
      have h4 : cur.toList.take (m * 1) = cur.toList := List.take_of_length_le (by simp [hs])
      rw [h4] at hx
      rw [hx]
      simp [madeCells, Value.cells]
      apply List.ext_getElem
      · simp
      · intro i h1 h2
        simp [Nat.mod_one]
    rw [hh]
    congr 2
    rw [Int.toNat_natCast]
    rw [← hcur]
end
def keyIs (k : Int) (e : MapEntry) : Bool := match e.key with | .int .i64 a => a == k | _ => false
def mget (es : List MapEntry) (k : Int) : Option Value := (es.find? (keyIs k)).map (·.val)
def IntKeys (es : List MapEntry) : Prop := ∀ e ∈ es, ∃ a, e.key = .int .i64 a
structure IsMap (W : World) (m : Nat) (f : Int → Option Value) (n : Nat) : Prop where
  out : ∃ (es : Array MapEntry) (clock : Nat), W.heap[m]? = some (.map es clock) ∧ IntKeys es.toList ∧ es.size ≤ n ∧ ∀ k, mget es.toList k = f k
section
variable {P : Program} {W W' : World} {m n : Nat} {f : Int → Option Value}
theorem IsMap.lt (h : IsMap W m f n) : m < W.heap.size := by obtain ⟨es, c, hb, _⟩ := h.out; exact (Array.getElem?_eq_some_iff.1 hb).1
theorem IsMap.ext {F : Nat → Prop} (h : IsMap W m f n) (k : Ext F W W') (hm : ¬ F m) : IsMap W' m f n := by
  obtain ⟨es, c, hb, h1⟩ := h.out
  exact ⟨es, c, Ext.blk k hb hm, h1⟩
theorem IsMap.mono {n' : Nat} (h : IsMap W m f n) (hn : n ≤ n') : IsMap W m f n' := by
  obtain ⟨es, c, hb, h1, h2, h3⟩ := h.out
  exact ⟨es, c, hb, h1, Nat.le_trans h2 hn, h3⟩
theorem isKey_int (a : Int) : MapKept.IsKey (.int .i64) (.int .i64 a) := by simp [MapKept.IsKey]
theorem keyIs_iff {e : MapEntry} {k : Int} : keyIs k e = true ↔ e.key = .int .i64 k := by
  unfold keyIs
  split
  · rename_i a h; rw [h]; simp
  · rename_i h; constructor
    · intro h1; cases h1
    · intro h1; exact absurd h1 (h k)
theorem mget_none {es : List MapEntry} {k : Int} (h : ∀ e ∈ es, e.key ≠ .int .i64 k) : mget es k = none := by
  unfold mget
  rw [List.find?_eq_none.2 (fun e he h1 => h e he (keyIs_iff.1 h1))]
  rfl
theorem mget_cons (x : MapEntry) (r : List MapEntry) (k : Int) : mget (x :: r) k = if keyIs k x then some x.val else mget r k := by
  unfold mget
  cases h : keyIs k x
  · rw [List.find?_cons_of_neg (by simp [h])]; simp
  · rw [List.find?_cons_of_pos h]; simp
theorem mget_append (l r : List MapEntry) (k : Int) : mget (l ++ r) k = (mget l k).or (mget r k) := by
  unfold mget
  rw [List.find?_append]
  cases l.find? (keyIs k) <;> simp
theorem find_first {k : Int} : ∀ (l : List MapEntry) (i : Nat), IntKeys l → (Instr.findNow (.int .i64) (.int .i64 k) l i = some none ∧ ∀ e ∈ l, e.key ≠ .int .i64 k) ∨
    ∃ j e, Instr.findNow (.int .i64) (.int .i64 k) l i = some (some (i + j, e.val)) ∧ l[j]? = some e ∧ e.key = .int .i64 k ∧ ∀ q, q < j → ∀ e', l[q]? = some e' → e'.key ≠ .int .i64 k
  | [], i, _ => .inl ⟨rfl, by simp⟩
  | x :: r, i, h => by
    obtain ⟨b, hb⟩ := h x (.head _)
    have hs : Instr.sameNow (.int .i64) (.int .i64 k) x.key = some (k == b) := by rw [hb]; simp [Instr.sameNow]
    by_cases e : k = b
    · subst e
      refine .inr ⟨0, x, by simp [Instr.findNow, hs], rfl, hb, fun q hq => by omega⟩
    · have hne : x.key ≠ .int .i64 k := by rw [hb]; intro q; exact e (by simpa using q.symm)
      have hf : Instr.findNow (.int .i64) (.int .i64 k) (x :: r) i = Instr.findNow (.int .i64) (.int .i64 k) r (i + 1) := by
        have hs' : Instr.sameNow (.int .i64) (.int .i64 k) x.key = some false := by rw [hs]; simp [e]
        simp only [Instr.findNow, hs']
      rcases find_first r (i + 1) (fun y hy => h y (.tail _ hy)) with ⟨h1, h2⟩ | ⟨j, e', h1, h2, h3, h4⟩
      · refine .inl ⟨by rw [hf]; exact h1, fun y hy => ?_⟩
        cases hy with
        | head => exact hne
        | tail _ hy => exact h2 y hy
      · refine .inr ⟨j + 1, e', by rw [hf, h1]; congr 3; omega, by simpa using h2, h3, fun q hq e'' he'' => ?_⟩
        cases q with
        | zero => simp at he''; subst he''; exact hne
        | succ q => exact h4 q (by omega) e'' (by simpa using he'')
theorem mget_set {v : Value} {k : Int} : ∀ {l : List MapEntry} {j : Nat} {e e2 : MapEntry}, l[j]? = some e → e.key = .int .i64 k → e2.key = .int .i64 k → e2.val = v → (∀ q, q < j → ∀ e', l[q]? = some e' → e'.key ≠ .int .i64 k) →
    ∀ x, mget (l.set j e2) x = if x = k then some v else mget l x := by
  intro l
  induction l with
  | nil => intro j e e2 h; simp at h
  | cons y r ih =>
    intro j e e2 hj hk hk2 hv hlt x
    cases j with
    | zero =>
      simp at hj
      subst hj
      rw [List.set_cons_zero, mget_cons, mget_cons]
      have a1 : keyIs x e2 = (k == x) := by unfold keyIs; rw [hk2]
      have a2 : keyIs x y = (k == x) := by unfold keyIs; rw [hk]
      rw [a1, a2]
      by_cases h : x = k
      · subst h; simp [hv]
      · have : (k == x) = false := by simpa using fun e => h e.symm
        simp [this, h]
    | succ j =>
      rw [List.set_cons_succ, mget_cons, mget_cons]
      have hy := hlt 0 (by omega) y rfl
      have ih' := ih (j := j) (e := e) (e2 := e2) (by simpa using hj) hk hk2 hv (fun q hq e' he' => hlt (q + 1) (by omega) e' (by simpa using he')) x
      rw [ih']
      by_cases h : x = k
      · subst h
        have : keyIs x y = false := by
          cases hq : keyIs x y
          · rfl
          · exact absurd (keyIs_iff.1 hq) hy
        simp [this]
      · simp [h]
theorem IsMap.update {t kt et : TypeId} (h : IsMap W m f n) (ht : P.underlying t = some (.map kt et)) (hk : P.underlying kt = some (.int .i64)) (k : Int) (v : Value) :
    ∃ W', (Instr.mapUpdate t (.map (some m)) (.int .i64 k) v).run P W = .ok () W' ∧ IsMap W' m (fun j => if j = k then some v else f j) (n + 1) ∧ Ext (fun b => b = m) W W' := by
  obtain ⟨es, c, hb, hi, hn, hf⟩ := h.out
  have hE : ∀ o', Ext (fun b => b = m) W { W with heap := W.heap.setIfInBounds m o' } := fun o' => ⟨rfl, rfl, rfl, by simp, fun b _ hne => (MapKept.heap_set hb).2 b hne⟩
  rcases find_first (k := k) es.toList 0 hi with ⟨h1, h2⟩ | ⟨j, e, h1, h2, h3, h4⟩
  · refine ⟨{ W with heap := W.heap.setIfInBounds m (.map (es.push ⟨.int .i64 k, v, c⟩) (c + 1)) }, by simp [Instr.mapUpdate, run_underlying ht, MapKept.run_getObj_map hb, MapKept.run_checkKey hk (isKey_int k), MapKept.run_findKey hk h1, MapKept.run_setObj_map _ hb, Result.andThen], ⟨_, _, (MapKept.heap_set hb).1, ?_, by simp; omega, fun x => ?_⟩, hE _⟩
    · intro y hy
      simp at hy
      rcases hy with hy | rfl
      · exact hi y (by simpa using hy)
      · exact ⟨k, rfl⟩
    · rw [Array.toList_push, mget_append, ← hf x]
      by_cases hx : x = k
      · subst hx
        rw [mget_none h2, mget_cons]
        simp [keyIs]
      · rw [mget_cons]
        have : keyIs x ⟨.int .i64 k, v, c⟩ = false := by unfold keyIs; simpa using fun e => hx e.symm
        rw [if_neg hx, this]
        simp [mget]
  · have hj : es[j]? = some e := by simpa using h2
    have hl : (es.modify j fun e => { e with key := .int .i64 k, val := v }).toList = es.toList.set j { e with key := .int .i64 k, val := v } := by
      rw [Array.toList_modify, ChangeMaps.modify_eq_set _ _ _ _ h2]
    refine ⟨{ W with heap := W.heap.setIfInBounds m (.map (es.modify j fun e => { e with key := .int .i64 k, val := v }) c) }, by simp [Instr.mapUpdate, run_underlying ht, MapKept.run_getObj_map hb, MapKept.run_checkKey hk (isKey_int k), MapKept.run_findKey hk h1, hj, h3, MapKept.run_keyThatStays (isKey_int k), MapKept.run_setObj_map _ hb, Result.andThen], ⟨_, _, (MapKept.heap_set hb).1, ?_, by simp; omega, fun x => ?_⟩, hE _⟩
    · intro y hy
      rw [hl] at hy
      rcases List.mem_or_eq_of_mem_set hy with hy | rfl
      · exact hi y hy
      · exact ⟨k, rfl⟩
    · rw [hl, mget_set h2 h3 rfl rfl h4 x, hf x]
end
section
variable {P : Program} {ops : Array Oper} {rest : List Oper} {o : Oper} {a : Act} {Q : Exit → Act → World → Prop} {W : World}
end
end Go.Proofs.Ytocicifgglkaeaa.Wk
end

section
namespace Go.Proofs.Ytocicifgglkaeaa.Chk
open Go.RowKit Go.Proofs.YtocicifgglkaeaaW.PrintWords Go.Proofs.YtocicifgglkaeaaW.PrintLast Go.Proofs.YtocicifgglkaeaaW.PrintMore Go.Proofs.Ytocicifgglkaeaa.Core Go.Proofs.Ytocicifgglkaeaa.Wk
set_option linter.unusedVariables false
set_option linter.unusedSimpArgs false
def wB (lo hi n : Int) : Bool := decide (lo ≤ n ∧ n ≤ hi)
def spB (a n : Int) : Bool := decide (0 ≤ a ∧ a ≤ 65535 ∧ a + n ≤ 65536)
def lowB (m : Int) (l : List Int) : Bool := decide (∀ x ∈ l, 0 ≤ x ∧ x ≤ m)
def smB (lo hi m : Int) (l : List Int) : Bool := wB lo hi l.length && lowB m l
theorem wB_yes {lo hi n : Int} (h0 : lo ≤ n) (h1 : n ≤ hi) : wB lo hi n = true := decide_eq_true ⟨h0, h1⟩
theorem wB_no {lo hi n : Int} (h : ¬ (lo ≤ n ∧ n ≤ hi)) : wB lo hi n = false := decide_eq_false h
theorem wB_iff {lo hi n : Int} : wB lo hi n = true ↔ lo ≤ n ∧ n ≤ hi := decide_eq_true_iff
theorem smB_len {lo hi m : Int} {l : List Int} (h : smB lo hi m l = true) : (l.length : Int) ≤ hi := by
  unfold smB at h
  rw [Bool.and_eq_true] at h
  exact (wB_iff.1 h.1).2
theorem low_nil (m : Int) : lowB m [] = true := decide_eq_true (fun x hx => by cases hx)
theorem low_take {m : Int} {l : List Int} {k : Nat} (hk : k < l.length) (h : lowB m (l.take k) = true) (hx : wB 0 m (l.getD k 0) = true) : lowB m (l.take (k + 1)) = true := by
  unfold lowB at h ⊢
  rw [decide_eq_true_eq] at h ⊢
  intro x hx'
  rw [List.take_succ_eq_append_getElem hk, List.mem_append] at hx'
  rcases hx' with hx' | hx'
  · exact h x hx'
  · have e : x = l[k] := by simpa using hx'
    rw [e]
    rw [List.getD_eq_getElem?_getD, List.getElem?_eq_getElem hk] at hx
    exact wB_iff.1 hx
theorem low_bad {m : Int} {l : List Int} {k : Nat} (hk : k < l.length) (hx : wB 0 m (l.getD k 0) = false) : lowB m l = false := by
  unfold lowB
  rw [decide_eq_false_iff_not]
  intro h
  have h1 := h l[k] (List.getElem_mem hk)
  rw [List.getD_eq_getElem?_getD, List.getElem?_eq_getElem hk] at hx
  have := wB_yes (lo := 0) (hi := m) h1.1 h1.2
  rw [Option.getD_some, this] at hx
  cases hx
set_option maxHeartbeats 4000000 in
set_option maxRecDepth 100000 in
theorem within_c (n lo hi : Int) (w : World) : Calls Try.prog 49 #[.int .i64 n, .int .i64 lo, .int .i64 hi] w fun e w' => e = .returned (.bool (wB lo hi n)) ∧ w = w' := by
  by_cases h0 : lo ≤ n
  · have t0 : decide (lo ≤ n) = true := decide_eq_true h0
    by_cases h1 : n ≤ hi
    · have t1 : decide (n ≤ hi) = true := decide_eq_true h1
      rw [wB_yes h0 h1]; clear h0 h1
      go_enter Try.func49, Try.ntmps49
      go_wp2
      go_ret
      exact ⟨rfl, rfl⟩
    · have t1 : decide (n ≤ hi) = false := decide_eq_false h1
      rw [wB_no (fun a => h1 a.2)]; clear h0 h1
      go_enter Try.func49, Try.ntmps49
      go_wp2
      go_ret
      exact ⟨rfl, rfl⟩
  · have t0 : decide (lo ≤ n) = false := decide_eq_false h0
    rw [wB_no (fun a => h0 a.1)]; clear h0
    go_enter Try.func49, Try.ntmps49
    go_wp2
    go_ret
    exact ⟨rfl, rfl⟩
set_option maxHeartbeats 4000000 in
set_option maxRecDepth 100000 in
theorem span_c (a n : Int) (w : World) : Calls Try.prog 50 #[.int .i64 a, .int .i64 n] w fun e w' => e = .returned (.bool (spB a n)) ∧ w = w' := by
  by_cases h0 : wB 0 65535 a = true
  · have hb := wB_iff.1 h0
    have b0 := hb.1; have b1 := hb.2
    by_cases h1 : n ≤ 65536 - a
    · have t1 : decide (n ≤ 65536 - a) = true := decide_eq_true h1
      have hr : Aside0 (spB a n = true) := ⟨decide_eq_true ⟨b0, b1, by omega⟩⟩
      rw [hr.out]; clear h1 hb
      go_enter Try.func50, Try.ntmps50
      go_wp2_with (go_at_call 49; refine (within_c _ _ _ _).mono ?_; rintro e w' ⟨rfl, rfl⟩)
      go_ret
      exact ⟨rfl, rfl⟩
    · have t1 : decide (n ≤ 65536 - a) = false := decide_eq_false h1
      have hr : Aside0 (spB a n = false) := ⟨decide_eq_false (fun a => by omega)⟩
      rw [hr.out]; clear h1 hb
      go_enter Try.func50, Try.ntmps50
      go_wp2_with (go_at_call 49; refine (within_c _ _ _ _).mono ?_; rintro e w' ⟨rfl, rfl⟩)
      go_ret
      exact ⟨rfl, rfl⟩
  · have t0 : wB 0 65535 a = false := by simpa using h0
    have hr : Aside0 (spB a n = false) := ⟨decide_eq_false (fun a => h0 (wB_iff.2 ⟨a.1, a.2.1⟩))⟩
    rw [hr.out]; clear h0
    go_enter Try.func50, Try.ntmps50
    go_wp2_with (go_at_call 49; refine (within_c _ _ _ _).mono ?_; rintro e w' ⟨rfl, rfl⟩)
    go_ret
    exact ⟨rfl, rfl⟩
set_option maxHeartbeats 4000000 in
set_option maxRecDepth 100000 in
theorem all_c (A : Option Addr) (c : Nat) (l : List Int) (m : Int) (w : World) (hV : Kd.C (Kd.int .i64) w A l.length l) : Calls Try.prog 52 #[.slice A l.length c, .int .i64 m] w fun e w' => e = .returned (.bool (lowB m l)) ∧ w = w' := by
  have hmx := hV.2.1
  have HV := Aside0.mk hV
  clear hV
  go_enter Try.func52, Try.ntmps52
  go_wp2_with fail
  go_loop [9] (fun i => ∃ k : Nat, k ≤ l.length ∧ i = .int .i64 k ∧ Aside0 (lowB m (l.take k) = true)) (fun i => l.length - (intOf i).toNat)
  case atStart => exact ⟨0, by omega, rfl, ⟨by rw [List.take_zero]; exact low_nil _⟩⟩
  case round =>
    obtain ⟨k, hk, rfl, HL⟩ := hrel
    by_cases hlt : k < l.length
    · have t1 : decide (k < l.length) = true := decide_eq_true hlt
      have t2 : decide ((k : Int) < (l.length : Int)) = true := decide_eq_true (by omega)
      obtain ⟨ad, rfl, hc0⟩ := C_cell HV.out (by omega)
      have hc := hc0 k hlt
      clear hc0
      obtain ⟨x, hx⟩ : ∃ x, l.getD k 0 = x := ⟨_, rfl⟩
      rw [hx] at hc
      have HX := Aside0.mk hx
      clear hx
      have hkl := hlt
      clear hlt
      by_cases hb : wB 0 m x = true
      · have HB := Aside0.mk hb
        skip
        go_wp2_with (go_at_call 49; refine (within_c _ _ _ _).mono ?_; rintro e w' ⟨rfl, rfl⟩)
        go_round
        case rel => exact ⟨k + 1, by omega, by go_num, ⟨low_take hkl HL.out (by rw [HX.out]; exact HB.out)⟩⟩
        case measure => simp [intOf]; omega
      · have hb' : wB 0 m x = false := by simpa using hb
        have HN : Aside0 (lowB m l = false) := ⟨low_bad hkl (by rw [HX.out]; exact hb')⟩
        clear hb
        go_wp2_with (go_at_call 49; refine (within_c _ _ _ _).mono ?_; rintro e w' ⟨rfl, rfl⟩)
        go_ret
        exact ⟨by rw [HN.out]; rfl, rfl⟩
    · obtain rfl : k = l.length := by omega
      have t1 : decide (l.length < l.length) = false := decide_eq_false (by omega)
      have t2 : decide ((l.length : Int) < (l.length : Int)) = false := decide_eq_false (by omega)
      have hl := HL.out
      rw [List.take_of_length_le (Nat.le_refl _)] at hl
      have HL2 := Aside0.mk hl
      clear hl hlt
      go_wp2_with fail
      go_ret
      exact ⟨by rw [HL2.out]; rfl, rfl⟩
set_option maxHeartbeats 4000000 in
set_option maxRecDepth 100000 in
theorem is_c (n : Int) (w : World) : Calls Try.prog 45 #[.int .i64 n] w fun e w' => e = .returned (.bool (wB 0 65535 n)) ∧ w = w' := by
  by_cases h0 : 0 ≤ n
  · have t0 : decide (0 ≤ n) = true := decide_eq_true h0
    by_cases h1 : n ≤ 65535
    · have t1 : decide (n ≤ 65535) = true := decide_eq_true h1
      rw [wB_yes h0 h1]; clear h0 h1
      go_enter Try.func45, Try.ntmps45
      go_wp2
      go_ret
      exact ⟨rfl, rfl⟩
    · have t1 : decide (n ≤ 65535) = false := decide_eq_false h1
      rw [wB_no (fun a => h1 a.2)]; clear h0 h1
      go_enter Try.func45, Try.ntmps45
      go_wp2
      go_ret
      exact ⟨rfl, rfl⟩
  · have t0 : decide (0 ≤ n) = false := decide_eq_false h0
    rw [wB_no (fun a => h0 a.1)]; clear h0
    go_enter Try.func45, Try.ntmps45
    go_wp2
    go_ret
    exact ⟨rfl, rfl⟩
set_option maxHeartbeats 4000000 in
set_option maxRecDepth 100000 in
theorem words_c (A : Option Addr) (c : Nat) (l : List Int) (w : World) (hV : Kd.C (Kd.int .i64) w A l.length l) : Calls Try.prog 68 #[.slice A l.length c] w fun e w' => e = .returned (.bool (lowB 65535 l)) ∧ w = w' := by
  have hmx := hV.2.1
  have HV := Aside0.mk hV
  clear hV
  go_enter Try.func68, Try.ntmps68
  go_wp2_with fail
  go_loop [3] (fun i => ∃ k : Nat, k ≤ l.length ∧ i = .int .i64 k ∧ Aside0 (lowB 65535 (l.take k) = true)) (fun i => l.length - (intOf i).toNat)
  case atStart => exact ⟨0, by omega, rfl, ⟨by rw [List.take_zero]; exact low_nil _⟩⟩
  case round =>
    obtain ⟨k, hk, rfl, HL⟩ := hrel
    by_cases hlt : k < l.length
    · have t1 : decide (k < l.length) = true := decide_eq_true hlt
      have t2 : decide ((k : Int) < (l.length : Int)) = true := decide_eq_true (by omega)
      obtain ⟨ad, rfl, hc0⟩ := C_cell HV.out (by omega)
      have hc := hc0 k hlt
      clear hc0
      obtain ⟨x, hx⟩ : ∃ x, l.getD k 0 = x := ⟨_, rfl⟩
      rw [hx] at hc
      have HX := Aside0.mk hx
      clear hx
      have hkl := hlt
      clear hlt
      by_cases hb : wB 0 65535 x = true
      · have HB := Aside0.mk hb
        skip
        go_wp2_with (go_at_call 45; refine (is_c _ _).mono ?_; rintro e w' ⟨rfl, rfl⟩)
        go_round
        case rel => exact ⟨k + 1, by omega, by go_num, ⟨low_take hkl HL.out (by rw [HX.out]; exact HB.out)⟩⟩
        case measure => simp [intOf]; omega
      · have hb' : wB 0 65535 x = false := by simpa using hb
        have HN : Aside0 (lowB 65535 l = false) := ⟨low_bad hkl (by rw [HX.out]; exact hb')⟩
        clear hb
        go_wp2_with (go_at_call 45; refine (is_c _ _).mono ?_; rintro e w' ⟨rfl, rfl⟩)
        go_ret
        exact ⟨by rw [HN.out]; rfl, rfl⟩
    · obtain rfl : k = l.length := by omega
      have t1 : decide (l.length < l.length) = false := decide_eq_false (by omega)
      have t2 : decide ((l.length : Int) < (l.length : Int)) = false := decide_eq_false (by omega)
      have hl := HL.out
      rw [List.take_of_length_le (Nat.le_refl _)] at hl
      have HL2 := Aside0.mk hl
      clear hl hlt
      go_wp2_with fail
      go_ret
      exact ⟨by rw [HL2.out]; rfl, rfl⟩
set_option maxHeartbeats 4000000 in
set_option maxRecDepth 100000 in
theorem bits_c (A : Option Addr) (c : Nat) (l : List Int) (w : World) (hV : Kd.C (Kd.int .i64) w A l.length l) : Calls Try.prog 67 #[.slice A l.length c] w fun e w' => e = .returned (.bool (lowB 1 l)) ∧ w = w' := by
  have hmx := hV.2.1
  have HV := Aside0.mk hV
  clear hV
  go_enter Try.func67, Try.ntmps67
  go_wp2_with fail
  go_loop [3] (fun i => ∃ k : Nat, k ≤ l.length ∧ i = .int .i64 k ∧ Aside0 (lowB 1 (l.take k) = true)) (fun i => l.length - (intOf i).toNat)
  case atStart => exact ⟨0, by omega, rfl, ⟨by rw [List.take_zero]; exact low_nil _⟩⟩
  case round =>
    obtain ⟨k, hk, rfl, HL⟩ := hrel
    by_cases hlt : k < l.length
    · have t1 : decide (k < l.length) = true := decide_eq_true hlt
      have t2 : decide ((k : Int) < (l.length : Int)) = true := decide_eq_true (by omega)
      obtain ⟨ad, rfl, hc0⟩ := C_cell HV.out (by omega)
      have hc := hc0 k hlt
      clear hc0
      obtain ⟨x, hx⟩ : ∃ x, l.getD k 0 = x := ⟨_, rfl⟩
      rw [hx] at hc
      have HX := Aside0.mk hx
      clear hx
      have hkl := hlt
      clear hlt
      by_cases hb : wB 0 1 x = true
      · have HB := Aside0.mk hb
        have hb2 := wB_iff.1 hb; clear hb; rcases (show x = 0 ∨ x = 1 by omega) with e | e <;> subst e <;> clear hb2 <;> (first | (have u0 : ((0 : Int) != 0) = false := rfl) | skip)
        all_goals
          go_wp2_with fail
          go_round
          case rel => exact ⟨k + 1, by omega, by go_num, ⟨low_take hkl HL.out (by rw [HX.out]; exact HB.out)⟩⟩
          case measure => simp [intOf]; omega
      · have hb' : wB 0 1 x = false := by simpa using hb
        have HN : Aside0 (lowB 1 l = false) := ⟨low_bad hkl (by rw [HX.out]; exact hb')⟩
        have hb2 : ¬ (0 ≤ x ∧ x ≤ 1) := fun a => hb (wB_iff.2 a)
        have u0 : (x != 0) = true := bne_iff_ne.2 (by omega)
        have u1 : (x != 1) = true := bne_iff_ne.2 (by omega)
        clear hb hb' hb2
        go_wp2_with fail
        go_ret
        exact ⟨by rw [HN.out]; rfl, rfl⟩
    · obtain rfl : k = l.length := by omega
      have t1 : decide (l.length < l.length) = false := decide_eq_false (by omega)
      have t2 : decide ((l.length : Int) < (l.length : Int)) = false := decide_eq_false (by omega)
      have hl := HL.out
      rw [List.take_of_length_le (Nat.le_refl _)] at hl
      have HL2 := Aside0.mk hl
      clear hl hlt
      go_wp2_with fail
      go_ret
      exact ⟨by rw [HL2.out]; rfl, rfl⟩
set_option maxHeartbeats 4000000 in
set_option maxRecDepth 100000 in
theorem some_c (A : Option Addr) (c : Nat) (l : List Int) (lo hi m : Int) (w : World) (hV : Kd.C (Kd.int .i64) w A l.length l) : Calls Try.prog 51 #[.slice A l.length c, .int .i64 lo, .int .i64 hi, .int .i64 m] w fun e w' => e = .returned (.bool (smB lo hi m l)) ∧ w = w' := by
  have HV := Aside0.mk hV
  clear hV
  unfold smB
  by_cases h0 : wB lo hi l.length = true
  · rw [h0, Bool.true_and]
    go_enter Try.func51, Try.ntmps51
    go_wp2_with (first | (go_at_call 49; refine (within_c _ _ _ _).mono ?_; rintro e w' ⟨rfl, rfl⟩) | (go_at_call 52; refine (all_c A c l m _ HV.out).mono ?_; rintro e w' ⟨rfl, rfl⟩))
    go_ret
    exact ⟨rfl, rfl⟩
  · have t0 : wB lo hi l.length = false := by simpa using h0
    rw [t0, Bool.false_and]; clear h0
    go_enter Try.func51, Try.ntmps51
    go_wp2_with (go_at_call 49; refine (within_c _ _ _ _).mono ?_; rintro e w' ⟨rfl, rfl⟩)
    go_ret
    exact ⟨rfl, rfl⟩
def chkB (f a c : Int) (v : List Int) (t n o : Int) : Bool :=
  if f = 1 ∨ f = 2 then t == 0 && n == 0 && o == 0 && (v.length : Int) == 0 && wB 1 2000 c && spB a c
  else if f = 3 ∨ f = 4 then t == 0 && n == 0 && o == 0 && (v.length : Int) == 0 && wB 1 125 c && spB a c
  else if f = 5 then t == 0 && n == 0 && o == 0 && c == 0 && smB 1 1 1 v && spB a 1
  else if f = 6 then t == 0 && n == 0 && o == 0 && c == 0 && smB 1 1 65535 v && spB a 1
  else if f = 15 then t == 0 && n == 0 && o == 0 && c == v.length && smB 1 1968 1 v && spB a v.length
  else if f = 16 then t == 0 && n == 0 && o == 0 && c == v.length && smB 1 123 65535 v && spB a v.length
  else if f = 22 then (v.length : Int) == 0 && t == 0 && c == 0 && spB a 1 && wB 0 65535 n && wB 0 65535 o
  else if f = 23 then n == 0 && o == 0 && wB 1 125 c && spB a c && smB 1 121 65535 v && spB t v.length
  else false
theorem low_two (n o : Int) : lowB 65535 [n, o] = (wB 0 65535 n && wB 0 65535 o) := by
  unfold lowB wB
  rw [Bool.eq_iff_iff, Bool.and_eq_true, decide_eq_true_eq, decide_eq_true_eq, decide_eq_true_eq]
  constructor
  · intro h; exact ⟨h n (by simp), h o (by simp)⟩
  · intro h x hx
    rcases List.mem_cons.1 hx with e | hx
    · rw [e]; exact h.1
    · have e : x = o := by simpa using hx
      rw [e]; exact h.2
end Go.Proofs.Ytocicifgglkaeaa.Chk
end

section
namespace Go.Proofs.Ytocicifgglkaeaa.Chk
open Go.RowKit Go.Proofs.YtocicifgglkaeaaW.PrintWords Go.Proofs.YtocicifgglkaeaaW.PrintLast Go.Proofs.YtocicifgglkaeaaW.PrintMore Go.Proofs.Ytocicifgglkaeaa.Core Go.Proofs.Ytocicifgglkaeaa.Wk
set_option linter.unusedVariables false
set_option linter.unusedSimpArgs false
set_option maxHeartbeats 4000000 in
set_option maxRecDepth 100000 in
theorem chk_1 (a c : Int) (A : Option Addr) (cc : Nat) (v : List Int) (t n o : Int) (w : World) (hV : Kd.C (Kd.int .i64) w A v.length v) : Calls Try.prog 29 #[.agg #[.int .i64 1, .int .i64 a, .int .i64 c, .slice A v.length cc, .int .i64 t, .int .i64 n, .int .i64 o]] w fun e w' => e = .returned (.int .i64 (if chkB 1 a c v t n o then 0 else 1)) ∧ Below w.heap.size w w' := by
  have HV := Aside0.mk hV; clear hV
  by_cases hz0 : (t == 0) = true
  · have z0 : (t == 0) = true := hz0; clear hz0
    by_cases hz1 : (n == 0) = true
    · have z1 : (n == 0) = true := hz1; clear hz1
      by_cases hz2 : (o == 0) = true
      · have z2 : (o == 0) = true := hz2; clear hz2
        by_cases hz3 : ((v.length : Int) == 0) = true
        · have z3 : ((v.length : Int) == 0) = true := hz3; clear hz3
          by_cases hz4 : wB 1 2000 c = true
          · have z4 : wB 1 2000 c = true := hz4; clear hz4
            by_cases hz5 : spB a c = true
            · have z5 : spB a c = true := hz5; clear hz5
              have HR : Aside0 (chkB 1 a c v t n o = true) := ⟨by simp [chkB, z0, z1, z2, z3, z4, z5]⟩
              rw [HR.out]
              go_enter Try.func29, Try.ntmps29
              go_wp2_with (first | (go_at_call 49; refine (within_c _ _ _ _).mono ?_; rintro e w' ⟨rfl, rfl⟩) | (go_at_call 50; refine (span_c _ _ _).mono ?_; rintro e w' ⟨rfl, rfl⟩) | (go_at_call 51; refine (some_c A cc v _ _ _ _ ?hv).mono ?_; (case hv => (with_reducible repeat (first | refine Kd.C_alloc ?_ _ | refine Kd.C_drewN ?_ _ | refine Kd.C_drew ?_)); exact HV.out); rintro e w' ⟨rfl, rfl⟩) | (go_at_call 52; refine (all_c _ _ [n, o] _ _ ?hv).mono ?_; (case hv => exact row_C (xs := [n, o]) (new_blk (by simp)) (by simp)); rintro e w' ⟨rfl, rfl⟩))
              go_ret
              exact ⟨rfl, by repeat (first | exact Below.refl _ _ | apply below_alloc)⟩
            · have z5 : spB a c = false := by simpa using hz5
              clear hz5
              have HR : Aside0 (chkB 1 a c v t n o = false) := ⟨by simp [chkB, z0, z1, z2, z3, z4, z5]⟩
              rw [HR.out]
              go_enter Try.func29, Try.ntmps29
              go_wp2_with (first | (go_at_call 49; refine (within_c _ _ _ _).mono ?_; rintro e w' ⟨rfl, rfl⟩) | (go_at_call 50; refine (span_c _ _ _).mono ?_; rintro e w' ⟨rfl, rfl⟩) | (go_at_call 51; refine (some_c A cc v _ _ _ _ ?hv).mono ?_; (case hv => (with_reducible repeat (first | refine Kd.C_alloc ?_ _ | refine Kd.C_drewN ?_ _ | refine Kd.C_drew ?_)); exact HV.out); rintro e w' ⟨rfl, rfl⟩) | (go_at_call 52; refine (all_c _ _ [n, o] _ _ ?hv).mono ?_; (case hv => exact row_C (xs := [n, o]) (new_blk (by simp)) (by simp)); rintro e w' ⟨rfl, rfl⟩))
              go_ret
              exact ⟨rfl, by repeat (first | exact Below.refl _ _ | apply below_alloc)⟩
          · have z4 : wB 1 2000 c = false := by simpa using hz4
            clear hz4
            have HR : Aside0 (chkB 1 a c v t n o = false) := ⟨by simp [chkB, z0, z1, z2, z3, z4]⟩
            rw [HR.out]
            go_enter Try.func29, Try.ntmps29
            go_wp2_with (first | (go_at_call 49; refine (within_c _ _ _ _).mono ?_; rintro e w' ⟨rfl, rfl⟩) | (go_at_call 50; refine (span_c _ _ _).mono ?_; rintro e w' ⟨rfl, rfl⟩) | (go_at_call 51; refine (some_c A cc v _ _ _ _ ?hv).mono ?_; (case hv => (with_reducible repeat (first | refine Kd.C_alloc ?_ _ | refine Kd.C_drewN ?_ _ | refine Kd.C_drew ?_)); exact HV.out); rintro e w' ⟨rfl, rfl⟩) | (go_at_call 52; refine (all_c _ _ [n, o] _ _ ?hv).mono ?_; (case hv => exact row_C (xs := [n, o]) (new_blk (by simp)) (by simp)); rintro e w' ⟨rfl, rfl⟩))
            go_ret
            exact ⟨rfl, by repeat (first | exact Below.refl _ _ | apply below_alloc)⟩
        · have z3 : ((v.length : Int) == 0) = false := by simpa using hz3
          clear hz3
          have HR : Aside0 (chkB 1 a c v t n o = false) := ⟨by simp [chkB, z0, z1, z2, z3]⟩
          rw [HR.out]
          go_enter Try.func29, Try.ntmps29
          go_wp2_with (first | (go_at_call 49; refine (within_c _ _ _ _).mono ?_; rintro e w' ⟨rfl, rfl⟩) | (go_at_call 50; refine (span_c _ _ _).mono ?_; rintro e w' ⟨rfl, rfl⟩) | (go_at_call 51; refine (some_c A cc v _ _ _ _ ?hv).mono ?_; (case hv => (with_reducible repeat (first | refine Kd.C_alloc ?_ _ | refine Kd.C_drewN ?_ _ | refine Kd.C_drew ?_)); exact HV.out); rintro e w' ⟨rfl, rfl⟩) | (go_at_call 52; refine (all_c _ _ [n, o] _ _ ?hv).mono ?_; (case hv => exact row_C (xs := [n, o]) (new_blk (by simp)) (by simp)); rintro e w' ⟨rfl, rfl⟩))
          go_ret
          exact ⟨rfl, by repeat (first | exact Below.refl _ _ | apply below_alloc)⟩
      · have z2 : (o == 0) = false := by simpa using hz2
        clear hz2
        have HR : Aside0 (chkB 1 a c v t n o = false) := ⟨by simp [chkB, z0, z1, z2]⟩
        rw [HR.out]
        go_enter Try.func29, Try.ntmps29
        go_wp2_with (first | (go_at_call 49; refine (within_c _ _ _ _).mono ?_; rintro e w' ⟨rfl, rfl⟩) | (go_at_call 50; refine (span_c _ _ _).mono ?_; rintro e w' ⟨rfl, rfl⟩) | (go_at_call 51; refine (some_c A cc v _ _ _ _ ?hv).mono ?_; (case hv => (with_reducible repeat (first | refine Kd.C_alloc ?_ _ | refine Kd.C_drewN ?_ _ | refine Kd.C_drew ?_)); exact HV.out); rintro e w' ⟨rfl, rfl⟩) | (go_at_call 52; refine (all_c _ _ [n, o] _ _ ?hv).mono ?_; (case hv => exact row_C (xs := [n, o]) (new_blk (by simp)) (by simp)); rintro e w' ⟨rfl, rfl⟩))
        go_ret
        exact ⟨rfl, by repeat (first | exact Below.refl _ _ | apply below_alloc)⟩
    · have z1 : (n == 0) = false := by simpa using hz1
      clear hz1
      have HR : Aside0 (chkB 1 a c v t n o = false) := ⟨by simp [chkB, z0, z1]⟩
      rw [HR.out]
      go_enter Try.func29, Try.ntmps29
      go_wp2_with (first | (go_at_call 49; refine (within_c _ _ _ _).mono ?_; rintro e w' ⟨rfl, rfl⟩) | (go_at_call 50; refine (span_c _ _ _).mono ?_; rintro e w' ⟨rfl, rfl⟩) | (go_at_call 51; refine (some_c A cc v _ _ _ _ ?hv).mono ?_; (case hv => (with_reducible repeat (first | refine Kd.C_alloc ?_ _ | refine Kd.C_drewN ?_ _ | refine Kd.C_drew ?_)); exact HV.out); rintro e w' ⟨rfl, rfl⟩) | (go_at_call 52; refine (all_c _ _ [n, o] _ _ ?hv).mono ?_; (case hv => exact row_C (xs := [n, o]) (new_blk (by simp)) (by simp)); rintro e w' ⟨rfl, rfl⟩))
      go_ret
      exact ⟨rfl, by repeat (first | exact Below.refl _ _ | apply below_alloc)⟩
  · have z0 : (t == 0) = false := by simpa using hz0
    clear hz0
    have HR : Aside0 (chkB 1 a c v t n o = false) := ⟨by simp [chkB, z0]⟩
    rw [HR.out]
    go_enter Try.func29, Try.ntmps29
    go_wp2_with (first | (go_at_call 49; refine (within_c _ _ _ _).mono ?_; rintro e w' ⟨rfl, rfl⟩) | (go_at_call 50; refine (span_c _ _ _).mono ?_; rintro e w' ⟨rfl, rfl⟩) | (go_at_call 51; refine (some_c A cc v _ _ _ _ ?hv).mono ?_; (case hv => (with_reducible repeat (first | refine Kd.C_alloc ?_ _ | refine Kd.C_drewN ?_ _ | refine Kd.C_drew ?_)); exact HV.out); rintro e w' ⟨rfl, rfl⟩) | (go_at_call 52; refine (all_c _ _ [n, o] _ _ ?hv).mono ?_; (case hv => exact row_C (xs := [n, o]) (new_blk (by simp)) (by simp)); rintro e w' ⟨rfl, rfl⟩))
    go_ret
    exact ⟨rfl, by repeat (first | exact Below.refl _ _ | apply below_alloc)⟩
set_option maxHeartbeats 4000000 in
set_option maxRecDepth 100000 in
theorem chk_2 (a c : Int) (A : Option Addr) (cc : Nat) (v : List Int) (t n o : Int) (w : World) (hV : Kd.C (Kd.int .i64) w A v.length v) : Calls Try.prog 29 #[.agg #[.int .i64 2, .int .i64 a, .int .i64 c, .slice A v.length cc, .int .i64 t, .int .i64 n, .int .i64 o]] w fun e w' => e = .returned (.int .i64 (if chkB 2 a c v t n o then 0 else 1)) ∧ Below w.heap.size w w' := by
  have HV := Aside0.mk hV; clear hV
  by_cases hz0 : (t == 0) = true
  · have z0 : (t == 0) = true := hz0; clear hz0
    by_cases hz1 : (n == 0) = true
    · have z1 : (n == 0) = true := hz1; clear hz1
      by_cases hz2 : (o == 0) = true
      · have z2 : (o == 0) = true := hz2; clear hz2
        by_cases hz3 : ((v.length : Int) == 0) = true
        · have z3 : ((v.length : Int) == 0) = true := hz3; clear hz3
          by_cases hz4 : wB 1 2000 c = true
          · have z4 : wB 1 2000 c = true := hz4; clear hz4
            by_cases hz5 : spB a c = true
            · have z5 : spB a c = true := hz5; clear hz5
              have HR : Aside0 (chkB 2 a c v t n o = true) := ⟨by simp [chkB, z0, z1, z2, z3, z4, z5]⟩
              rw [HR.out]
              go_enter Try.func29, Try.ntmps29
              go_wp2_with (first | (go_at_call 49; refine (within_c _ _ _ _).mono ?_; rintro e w' ⟨rfl, rfl⟩) | (go_at_call 50; refine (span_c _ _ _).mono ?_; rintro e w' ⟨rfl, rfl⟩) | (go_at_call 51; refine (some_c A cc v _ _ _ _ ?hv).mono ?_; (case hv => (with_reducible repeat (first | refine Kd.C_alloc ?_ _ | refine Kd.C_drewN ?_ _ | refine Kd.C_drew ?_)); exact HV.out); rintro e w' ⟨rfl, rfl⟩) | (go_at_call 52; refine (all_c _ _ [n, o] _ _ ?hv).mono ?_; (case hv => exact row_C (xs := [n, o]) (new_blk (by simp)) (by simp)); rintro e w' ⟨rfl, rfl⟩))
              go_ret
              exact ⟨rfl, by repeat (first | exact Below.refl _ _ | apply below_alloc)⟩
            · have z5 : spB a c = false := by simpa using hz5
              clear hz5
              have HR : Aside0 (chkB 2 a c v t n o = false) := ⟨by simp [chkB, z0, z1, z2, z3, z4, z5]⟩
              rw [HR.out]
              go_enter Try.func29, Try.ntmps29
              go_wp2_with (first | (go_at_call 49; refine (within_c _ _ _ _).mono ?_; rintro e w' ⟨rfl, rfl⟩) | (go_at_call 50; refine (span_c _ _ _).mono ?_; rintro e w' ⟨rfl, rfl⟩) | (go_at_call 51; refine (some_c A cc v _ _ _ _ ?hv).mono ?_; (case hv => (with_reducible repeat (first | refine Kd.C_alloc ?_ _ | refine Kd.C_drewN ?_ _ | refine Kd.C_drew ?_)); exact HV.out); rintro e w' ⟨rfl, rfl⟩) | (go_at_call 52; refine (all_c _ _ [n, o] _ _ ?hv).mono ?_; (case hv => exact row_C (xs := [n, o]) (new_blk (by simp)) (by simp)); rintro e w' ⟨rfl, rfl⟩))
              go_ret
              exact ⟨rfl, by repeat (first | exact Below.refl _ _ | apply below_alloc)⟩
          · have z4 : wB 1 2000 c = false := by simpa using hz4
            clear hz4
            have HR : Aside0 (chkB 2 a c v t n o = false) := ⟨by simp [chkB, z0, z1, z2, z3, z4]⟩
            rw [HR.out]
            go_enter Try.func29, Try.ntmps29
            go_wp2_with (first | (go_at_call 49; refine (within_c _ _ _ _).mono ?_; rintro e w' ⟨rfl, rfl⟩) | (go_at_call 50; refine (span_c _ _ _).mono ?_; rintro e w' ⟨rfl, rfl⟩) | (go_at_call 51; refine (some_c A cc v _ _ _ _ ?hv).mono ?_; (case hv => (with_reducible repeat (first | refine Kd.C_alloc ?_ _ | refine Kd.C_drewN ?_ _ | refine Kd.C_drew ?_)); exact HV.out); rintro e w' ⟨rfl, rfl⟩) | (go_at_call 52; refine (all_c _ _ [n, o] _ _ ?hv).mono ?_; (case hv => exact row_C (xs := [n, o]) (new_blk (by simp)) (by simp)); rintro e w' ⟨rfl, rfl⟩))
            go_ret
            exact ⟨rfl, by repeat (first | exact Below.refl _ _ | apply below_alloc)⟩
        · have z3 : ((v.length : Int) == 0) = false := by simpa using hz3
          clear hz3
          have HR : Aside0 (chkB 2 a c v t n o = false) := ⟨by simp [chkB, z0, z1, z2, z3]⟩
          rw [HR.out]
          go_enter Try.func29, Try.ntmps29
          go_wp2_with (first | (go_at_call 49; refine (within_c _ _ _ _).mono ?_; rintro e w' ⟨rfl, rfl⟩) | (go_at_call 50; refine (span_c _ _ _).mono ?_; rintro e w' ⟨rfl, rfl⟩) | (go_at_call 51; refine (some_c A cc v _ _ _ _ ?hv).mono ?_; (case hv => (with_reducible repeat (first | refine Kd.C_alloc ?_ _ | refine Kd.C_drewN ?_ _ | refine Kd.C_drew ?_)); exact HV.out); rintro e w' ⟨rfl, rfl⟩) | (go_at_call 52; refine (all_c _ _ [n, o] _ _ ?hv).mono ?_; (case hv => exact row_C (xs := [n, o]) (new_blk (by simp)) (by simp)); rintro e w' ⟨rfl, rfl⟩))
          go_ret
          exact ⟨rfl, by repeat (first | exact Below.refl _ _ | apply below_alloc)⟩
      · have z2 : (o == 0) = false := by simpa using hz2
        clear hz2
        have HR : Aside0 (chkB 2 a c v t n o = false) := ⟨by simp [chkB, z0, z1, z2]⟩
        rw [HR.out]
        go_enter Try.func29, Try.ntmps29
        go_wp2_with (first | (go_at_call 49; refine (within_c _ _ _ _).mono ?_; rintro e w' ⟨rfl, rfl⟩) | (go_at_call 50; refine (span_c _ _ _).mono ?_; rintro e w' ⟨rfl, rfl⟩) | (go_at_call 51; refine (some_c A cc v _ _ _ _ ?hv).mono ?_; (case hv => (with_reducible repeat (first | refine Kd.C_alloc ?_ _ | refine Kd.C_drewN ?_ _ | refine Kd.C_drew ?_)); exact HV.out); rintro e w' ⟨rfl, rfl⟩) | (go_at_call 52; refine (all_c _ _ [n, o] _ _ ?hv).mono ?_; (case hv => exact row_C (xs := [n, o]) (new_blk (by simp)) (by simp)); rintro e w' ⟨rfl, rfl⟩))
        go_ret
        exact ⟨rfl, by repeat (first | exact Below.refl _ _ | apply below_alloc)⟩
    · have z1 : (n == 0) = false := by simpa using hz1
      clear hz1
      have HR : Aside0 (chkB 2 a c v t n o = false) := ⟨by simp [chkB, z0, z1]⟩
      rw [HR.out]
      go_enter Try.func29, Try.ntmps29
      go_wp2_with (first | (go_at_call 49; refine (within_c _ _ _ _).mono ?_; rintro e w' ⟨rfl, rfl⟩) | (go_at_call 50; refine (span_c _ _ _).mono ?_; rintro e w' ⟨rfl, rfl⟩) | (go_at_call 51; refine (some_c A cc v _ _ _ _ ?hv).mono ?_; (case hv => (with_reducible repeat (first | refine Kd.C_alloc ?_ _ | refine Kd.C_drewN ?_ _ | refine Kd.C_drew ?_)); exact HV.out); rintro e w' ⟨rfl, rfl⟩) | (go_at_call 52; refine (all_c _ _ [n, o] _ _ ?hv).mono ?_; (case hv => exact row_C (xs := [n, o]) (new_blk (by simp)) (by simp)); rintro e w' ⟨rfl, rfl⟩))
      go_ret
      exact ⟨rfl, by repeat (first | exact Below.refl _ _ | apply below_alloc)⟩
  · have z0 : (t == 0) = false := by simpa using hz0
    clear hz0
    have HR : Aside0 (chkB 2 a c v t n o = false) := ⟨by simp [chkB, z0]⟩
    rw [HR.out]
    go_enter Try.func29, Try.ntmps29
    go_wp2_with (first | (go_at_call 49; refine (within_c _ _ _ _).mono ?_; rintro e w' ⟨rfl, rfl⟩) | (go_at_call 50; refine (span_c _ _ _).mono ?_; rintro e w' ⟨rfl, rfl⟩) | (go_at_call 51; refine (some_c A cc v _ _ _ _ ?hv).mono ?_; (case hv => (with_reducible repeat (first | refine Kd.C_alloc ?_ _ | refine Kd.C_drewN ?_ _ | refine Kd.C_drew ?_)); exact HV.out); rintro e w' ⟨rfl, rfl⟩) | (go_at_call 52; refine (all_c _ _ [n, o] _ _ ?hv).mono ?_; (case hv => exact row_C (xs := [n, o]) (new_blk (by simp)) (by simp)); rintro e w' ⟨rfl, rfl⟩))
    go_ret
    exact ⟨rfl, by repeat (first | exact Below.refl _ _ | apply below_alloc)⟩
end Go.Proofs.Ytocicifgglkaeaa.Chk
end

section
namespace Go.Proofs.Ytocicifgglkaeaa.Chk
open Go.RowKit Go.Proofs.YtocicifgglkaeaaW.PrintWords Go.Proofs.YtocicifgglkaeaaW.PrintLast Go.Proofs.YtocicifgglkaeaaW.PrintMore Go.Proofs.Ytocicifgglkaeaa.Core Go.Proofs.Ytocicifgglkaeaa.Wk
set_option linter.unusedVariables false
set_option linter.unusedSimpArgs false
set_option maxHeartbeats 4000000 in
set_option maxRecDepth 100000 in
theorem chk_3 (a c : Int) (A : Option Addr) (cc : Nat) (v : List Int) (t n o : Int) (w : World) (hV : Kd.C (Kd.int .i64) w A v.length v) : Calls Try.prog 29 #[.agg #[.int .i64 3, .int .i64 a, .int .i64 c, .slice A v.length cc, .int .i64 t, .int .i64 n, .int .i64 o]] w fun e w' => e = .returned (.int .i64 (if chkB 3 a c v t n o then 0 else 1)) ∧ Below w.heap.size w w' := by
  have HV := Aside0.mk hV; clear hV
  by_cases hz0 : (t == 0) = true
  · have z0 : (t == 0) = true := hz0; clear hz0
    by_cases hz1 : (n == 0) = true
    · have z1 : (n == 0) = true := hz1; clear hz1
      by_cases hz2 : (o == 0) = true
      · have z2 : (o == 0) = true := hz2; clear hz2
        by_cases hz3 : ((v.length : Int) == 0) = true
        · have z3 : ((v.length : Int) == 0) = true := hz3; clear hz3
          by_cases hz4 : wB 1 125 c = true
          · have z4 : wB 1 125 c = true := hz4; clear hz4
            by_cases hz5 : spB a c = true
            · have z5 : spB a c = true := hz5; clear hz5
              have HR : Aside0 (chkB 3 a c v t n o = true) := ⟨by simp [chkB, z0, z1, z2, z3, z4, z5]⟩
              rw [HR.out]
              go_enter Try.func29, Try.ntmps29
              go_wp2_with (first | (go_at_call 49; refine (within_c _ _ _ _).mono ?_; rintro e w' ⟨rfl, rfl⟩) | (go_at_call 50; refine (span_c _ _ _).mono ?_; rintro e w' ⟨rfl, rfl⟩) | (go_at_call 51; refine (some_c A cc v _ _ _ _ ?hv).mono ?_; (case hv => (with_reducible repeat (first | refine Kd.C_alloc ?_ _ | refine Kd.C_drewN ?_ _ | refine Kd.C_drew ?_)); exact HV.out); rintro e w' ⟨rfl, rfl⟩) | (go_at_call 52; refine (all_c _ _ [n, o] _ _ ?hv).mono ?_; (case hv => exact row_C (xs := [n, o]) (new_blk (by simp)) (by simp)); rintro e w' ⟨rfl, rfl⟩))
              go_ret
              exact ⟨rfl, by repeat (first | exact Below.refl _ _ | apply below_alloc)⟩
            · have z5 : spB a c = false := by simpa using hz5
              clear hz5
              have HR : Aside0 (chkB 3 a c v t n o = false) := ⟨by simp [chkB, z0, z1, z2, z3, z4, z5]⟩
              rw [HR.out]
              go_enter Try.func29, Try.ntmps29
              go_wp2_with (first | (go_at_call 49; refine (within_c _ _ _ _).mono ?_; rintro e w' ⟨rfl, rfl⟩) | (go_at_call 50; refine (span_c _ _ _).mono ?_; rintro e w' ⟨rfl, rfl⟩) | (go_at_call 51; refine (some_c A cc v _ _ _ _ ?hv).mono ?_; (case hv => (with_reducible repeat (first | refine Kd.C_alloc ?_ _ | refine Kd.C_drewN ?_ _ | refine Kd.C_drew ?_)); exact HV.out); rintro e w' ⟨rfl, rfl⟩) | (go_at_call 52; refine (all_c _ _ [n, o] _ _ ?hv).mono ?_; (case hv => exact row_C (xs := [n, o]) (new_blk (by simp)) (by simp)); rintro e w' ⟨rfl, rfl⟩))
              go_ret
              exact ⟨rfl, by repeat (first | exact Below.refl _ _ | apply below_alloc)⟩
          · have z4 : wB 1 125 c = false := by simpa using hz4
            clear hz4
            have HR : Aside0 (chkB 3 a c v t n o = false) := ⟨by simp [chkB, z0, z1, z2, z3, z4]⟩
            rw [HR.out]
            go_enter Try.func29, Try.ntmps29
            go_wp2_with (first | (go_at_call 49; refine (within_c _ _ _ _).mono ?_; rintro e w' ⟨rfl, rfl⟩) | (go_at_call 50; refine (span_c _ _ _).mono ?_; rintro e w' ⟨rfl, rfl⟩) | (go_at_call 51; refine (some_c A cc v _ _ _ _ ?hv).mono ?_; (case hv => (with_reducible repeat (first | refine Kd.C_alloc ?_ _ | refine Kd.C_drewN ?_ _ | refine Kd.C_drew ?_)); exact HV.out); rintro e w' ⟨rfl, rfl⟩) | (go_at_call 52; refine (all_c _ _ [n, o] _ _ ?hv).mono ?_; (case hv => exact row_C (xs := [n, o]) (new_blk (by simp)) (by simp)); rintro e w' ⟨rfl, rfl⟩))
            go_ret
            exact ⟨rfl, by repeat (first | exact Below.refl _ _ | apply below_alloc)⟩
        · have z3 : ((v.length : Int) == 0) = false := by simpa using hz3
          clear hz3
          have HR : Aside0 (chkB 3 a c v t n o = false) := ⟨by simp [chkB, z0, z1, z2, z3]⟩
          rw [HR.out]
          go_enter Try.func29, Try.ntmps29
          go_wp2_with (first | (go_at_call 49; refine (within_c _ _ _ _).mono ?_; rintro e w' ⟨rfl, rfl⟩) | (go_at_call 50; refine (span_c _ _ _).mono ?_; rintro e w' ⟨rfl, rfl⟩) | (go_at_call 51; refine (some_c A cc v _ _ _ _ ?hv).mono ?_; (case hv => (with_reducible repeat (first | refine Kd.C_alloc ?_ _ | refine Kd.C_drewN ?_ _ | refine Kd.C_drew ?_)); exact HV.out); rintro e w' ⟨rfl, rfl⟩) | (go_at_call 52; refine (all_c _ _ [n, o] _ _ ?hv).mono ?_; (case hv => exact row_C (xs := [n, o]) (new_blk (by simp)) (by simp)); rintro e w' ⟨rfl, rfl⟩))
          go_ret
          exact ⟨rfl, by repeat (first | exact Below.refl _ _ | apply below_alloc)⟩
      · have z2 : (o == 0) = false := by simpa using hz2
        clear hz2
        have HR : Aside0 (chkB 3 a c v t n o = false) := ⟨by simp [chkB, z0, z1, z2]⟩
        rw [HR.out]
        go_enter Try.func29, Try.ntmps29
        go_wp2_with (first | (go_at_call 49; refine (within_c _ _ _ _).mono ?_; rintro e w' ⟨rfl, rfl⟩) | (go_at_call 50; refine (span_c _ _ _).mono ?_; rintro e w' ⟨rfl, rfl⟩) | (go_at_call 51; refine (some_c A cc v _ _ _ _ ?hv).mono ?_; (case hv => (with_reducible repeat (first | refine Kd.C_alloc ?_ _ | refine Kd.C_drewN ?_ _ | refine Kd.C_drew ?_)); exact HV.out); rintro e w' ⟨rfl, rfl⟩) | (go_at_call 52; refine (all_c _ _ [n, o] _ _ ?hv).mono ?_; (case hv => exact row_C (xs := [n, o]) (new_blk (by simp)) (by simp)); rintro e w' ⟨rfl, rfl⟩))
        go_ret
        exact ⟨rfl, by repeat (first | exact Below.refl _ _ | apply below_alloc)⟩
    · have z1 : (n == 0) = false := by simpa using hz1
      clear hz1
      have HR : Aside0 (chkB 3 a c v t n o = false) := ⟨by simp [chkB, z0, z1]⟩
      rw [HR.out]
      go_enter Try.func29, Try.ntmps29
      go_wp2_with (first | (go_at_call 49; refine (within_c _ _ _ _).mono ?_; rintro e w' ⟨rfl, rfl⟩) | (go_at_call 50; refine (span_c _ _ _).mono ?_; rintro e w' ⟨rfl, rfl⟩) | (go_at_call 51; refine (some_c A cc v _ _ _ _ ?hv).mono ?_; (case hv => (with_reducible repeat (first | refine Kd.C_alloc ?_ _ | refine Kd.C_drewN ?_ _ | refine Kd.C_drew ?_)); exact HV.out); rintro e w' ⟨rfl, rfl⟩) | (go_at_call 52; refine (all_c _ _ [n, o] _ _ ?hv).mono ?_; (case hv => exact row_C (xs := [n, o]) (new_blk (by simp)) (by simp)); rintro e w' ⟨rfl, rfl⟩))
      go_ret
      exact ⟨rfl, by repeat (first | exact Below.refl _ _ | apply below_alloc)⟩
  · have z0 : (t == 0) = false := by simpa using hz0
    clear hz0
    have HR : Aside0 (chkB 3 a c v t n o = false) := ⟨by simp [chkB, z0]⟩
    rw [HR.out]
    go_enter Try.func29, Try.ntmps29
    go_wp2_with (first | (go_at_call 49; refine (within_c _ _ _ _).mono ?_; rintro e w' ⟨rfl, rfl⟩) | (go_at_call 50; refine (span_c _ _ _).mono ?_; rintro e w' ⟨rfl, rfl⟩) | (go_at_call 51; refine (some_c A cc v _ _ _ _ ?hv).mono ?_; (case hv => (with_reducible repeat (first | refine Kd.C_alloc ?_ _ | refine Kd.C_drewN ?_ _ | refine Kd.C_drew ?_)); exact HV.out); rintro e w' ⟨rfl, rfl⟩) | (go_at_call 52; refine (all_c _ _ [n, o] _ _ ?hv).mono ?_; (case hv => exact row_C (xs := [n, o]) (new_blk (by simp)) (by simp)); rintro e w' ⟨rfl, rfl⟩))
    go_ret
    exact ⟨rfl, by repeat (first | exact Below.refl _ _ | apply below_alloc)⟩
set_option maxHeartbeats 4000000 in
set_option maxRecDepth 100000 in
theorem chk_4 (a c : Int) (A : Option Addr) (cc : Nat) (v : List Int) (t n o : Int) (w : World) (hV : Kd.C (Kd.int .i64) w A v.length v) : Calls Try.prog 29 #[.agg #[.int .i64 4, .int .i64 a, .int .i64 c, .slice A v.length cc, .int .i64 t, .int .i64 n, .int .i64 o]] w fun e w' => e = .returned (.int .i64 (if chkB 4 a c v t n o then 0 else 1)) ∧ Below w.heap.size w w' := by
  have HV := Aside0.mk hV; clear hV
  by_cases hz0 : (t == 0) = true
  · have z0 : (t == 0) = true := hz0; clear hz0
    by_cases hz1 : (n == 0) = true
    · have z1 : (n == 0) = true := hz1; clear hz1
      by_cases hz2 : (o == 0) = true
      · have z2 : (o == 0) = true := hz2; clear hz2
        by_cases hz3 : ((v.length : Int) == 0) = true
        · have z3 : ((v.length : Int) == 0) = true := hz3; clear hz3
          by_cases hz4 : wB 1 125 c = true
          · have z4 : wB 1 125 c = true := hz4; clear hz4
            by_cases hz5 : spB a c = true
            · have z5 : spB a c = true := hz5; clear hz5
              have HR : Aside0 (chkB 4 a c v t n o = true) := ⟨by simp [chkB, z0, z1, z2, z3, z4, z5]⟩
              rw [HR.out]
              go_enter Try.func29, Try.ntmps29
              go_wp2_with (first | (go_at_call 49; refine (within_c _ _ _ _).mono ?_; rintro e w' ⟨rfl, rfl⟩) | (go_at_call 50; refine (span_c _ _ _).mono ?_; rintro e w' ⟨rfl, rfl⟩) | (go_at_call 51; refine (some_c A cc v _ _ _ _ ?hv).mono ?_; (case hv => (with_reducible repeat (first | refine Kd.C_alloc ?_ _ | refine Kd.C_drewN ?_ _ | refine Kd.C_drew ?_)); exact HV.out); rintro e w' ⟨rfl, rfl⟩) | (go_at_call 52; refine (all_c _ _ [n, o] _ _ ?hv).mono ?_; (case hv => exact row_C (xs := [n, o]) (new_blk (by simp)) (by simp)); rintro e w' ⟨rfl, rfl⟩))
              go_ret
              exact ⟨rfl, by repeat (first | exact Below.refl _ _ | apply below_alloc)⟩
            · have z5 : spB a c = false := by simpa using hz5
              clear hz5
              have HR : Aside0 (chkB 4 a c v t n o = false) := ⟨by simp [chkB, z0, z1, z2, z3, z4, z5]⟩
              rw [HR.out]
              go_enter Try.func29, Try.ntmps29
              go_wp2_with (first | (go_at_call 49; refine (within_c _ _ _ _).mono ?_; rintro e w' ⟨rfl, rfl⟩) | (go_at_call 50; refine (span_c _ _ _).mono ?_; rintro e w' ⟨rfl, rfl⟩) | (go_at_call 51; refine (some_c A cc v _ _ _ _ ?hv).mono ?_; (case hv => (with_reducible repeat (first | refine Kd.C_alloc ?_ _ | refine Kd.C_drewN ?_ _ | refine Kd.C_drew ?_)); exact HV.out); rintro e w' ⟨rfl, rfl⟩) | (go_at_call 52; refine (all_c _ _ [n, o] _ _ ?hv).mono ?_; (case hv => exact row_C (xs := [n, o]) (new_blk (by simp)) (by simp)); rintro e w' ⟨rfl, rfl⟩))
              go_ret
              exact ⟨rfl, by repeat (first | exact Below.refl _ _ | apply below_alloc)⟩
          · have z4 : wB 1 125 c = false := by simpa using hz4
            clear hz4
            have HR : Aside0 (chkB 4 a c v t n o = false) := ⟨by simp [chkB, z0, z1, z2, z3, z4]⟩
            rw [HR.out]
            go_enter Try.func29, Try.ntmps29
            go_wp2_with (first | (go_at_call 49; refine (within_c _ _ _ _).mono ?_; rintro e w' ⟨rfl, rfl⟩) | (go_at_call 50; refine (span_c _ _ _).mono ?_; rintro e w' ⟨rfl, rfl⟩) | (go_at_call 51; refine (some_c A cc v _ _ _ _ ?hv).mono ?_; (case hv => (with_reducible repeat (first | refine Kd.C_alloc ?_ _ | refine Kd.C_drewN ?_ _ | refine Kd.C_drew ?_)); exact HV.out); rintro e w' ⟨rfl, rfl⟩) | (go_at_call 52; refine (all_c _ _ [n, o] _ _ ?hv).mono ?_; (case hv => exact row_C (xs := [n, o]) (new_blk (by simp)) (by simp)); rintro e w' ⟨rfl, rfl⟩))
            go_ret
            exact ⟨rfl, by repeat (first | exact Below.refl _ _ | apply below_alloc)⟩
        · have z3 : ((v.length : Int) == 0) = false := by simpa using hz3
          clear hz3
          have HR : Aside0 (chkB 4 a c v t n o = false) := ⟨by simp [chkB, z0, z1, z2, z3]⟩
          rw [HR.out]
          go_enter Try.func29, Try.ntmps29
          go_wp2_with (first | (go_at_call 49; refine (within_c _ _ _ _).mono ?_; rintro e w' ⟨rfl, rfl⟩) | (go_at_call 50; refine (span_c _ _ _).mono ?_; rintro e w' ⟨rfl, rfl⟩) | (go_at_call 51; refine (some_c A cc v _ _ _ _ ?hv).mono ?_; (case hv => (with_reducible repeat (first | refine Kd.C_alloc ?_ _ | refine Kd.C_drewN ?_ _ | refine Kd.C_drew ?_)); exact HV.out); rintro e w' ⟨rfl, rfl⟩) | (go_at_call 52; refine (all_c _ _ [n, o] _ _ ?hv).mono ?_; (case hv => exact row_C (xs := [n, o]) (new_blk (by simp)) (by simp)); rintro e w' ⟨rfl, rfl⟩))
          go_ret
          exact ⟨rfl, by repeat (first | exact Below.refl _ _ | apply below_alloc)⟩
      · have z2 : (o == 0) = false := by simpa using hz2
        clear hz2
        have HR : Aside0 (chkB 4 a c v t n o = false) := ⟨by simp [chkB, z0, z1, z2]⟩
        rw [HR.out]
        go_enter Try.func29, Try.ntmps29
        go_wp2_with (first | (go_at_call 49; refine (within_c _ _ _ _).mono ?_; rintro e w' ⟨rfl, rfl⟩) | (go_at_call 50; refine (span_c _ _ _).mono ?_; rintro e w' ⟨rfl, rfl⟩) | (go_at_call 51; refine (some_c A cc v _ _ _ _ ?hv).mono ?_; (case hv => (with_reducible repeat (first | refine Kd.C_alloc ?_ _ | refine Kd.C_drewN ?_ _ | refine Kd.C_drew ?_)); exact HV.out); rintro e w' ⟨rfl, rfl⟩) | (go_at_call 52; refine (all_c _ _ [n, o] _ _ ?hv).mono ?_; (case hv => exact row_C (xs := [n, o]) (new_blk (by simp)) (by simp)); rintro e w' ⟨rfl, rfl⟩))
        go_ret
        exact ⟨rfl, by repeat (first | exact Below.refl _ _ | apply below_alloc)⟩
    · have z1 : (n == 0) = false := by simpa using hz1
      clear hz1
      have HR : Aside0 (chkB 4 a c v t n o = false) := ⟨by simp [chkB, z0, z1]⟩
      rw [HR.out]
      go_enter Try.func29, Try.ntmps29
      go_wp2_with (first | (go_at_call 49; refine (within_c _ _ _ _).mono ?_; rintro e w' ⟨rfl, rfl⟩) | (go_at_call 50; refine (span_c _ _ _).mono ?_; rintro e w' ⟨rfl, rfl⟩) | (go_at_call 51; refine (some_c A cc v _ _ _ _ ?hv).mono ?_; (case hv => (with_reducible repeat (first | refine Kd.C_alloc ?_ _ | refine Kd.C_drewN ?_ _ | refine Kd.C_drew ?_)); exact HV.out); rintro e w' ⟨rfl, rfl⟩) | (go_at_call 52; refine (all_c _ _ [n, o] _ _ ?hv).mono ?_; (case hv => exact row_C (xs := [n, o]) (new_blk (by simp)) (by simp)); rintro e w' ⟨rfl, rfl⟩))
      go_ret
      exact ⟨rfl, by repeat (first | exact Below.refl _ _ | apply below_alloc)⟩
  · have z0 : (t == 0) = false := by simpa using hz0
    clear hz0
    have HR : Aside0 (chkB 4 a c v t n o = false) := ⟨by simp [chkB, z0]⟩
    rw [HR.out]
    go_enter Try.func29, Try.ntmps29
    go_wp2_with (first | (go_at_call 49; refine (within_c _ _ _ _).mono ?_; rintro e w' ⟨rfl, rfl⟩) | (go_at_call 50; refine (span_c _ _ _).mono ?_; rintro e w' ⟨rfl, rfl⟩) | (go_at_call 51; refine (some_c A cc v _ _ _ _ ?hv).mono ?_; (case hv => (with_reducible repeat (first | refine Kd.C_alloc ?_ _ | refine Kd.C_drewN ?_ _ | refine Kd.C_drew ?_)); exact HV.out); rintro e w' ⟨rfl, rfl⟩) | (go_at_call 52; refine (all_c _ _ [n, o] _ _ ?hv).mono ?_; (case hv => exact row_C (xs := [n, o]) (new_blk (by simp)) (by simp)); rintro e w' ⟨rfl, rfl⟩))
    go_ret
    exact ⟨rfl, by repeat (first | exact Below.refl _ _ | apply below_alloc)⟩
end Go.Proofs.Ytocicifgglkaeaa.Chk
end

section
namespace Go.Proofs.Ytocicifgglkaeaa.Chk
open Go.RowKit Go.Proofs.YtocicifgglkaeaaW.PrintWords Go.Proofs.YtocicifgglkaeaaW.PrintLast Go.Proofs.YtocicifgglkaeaaW.PrintMore Go.Proofs.Ytocicifgglkaeaa.Core Go.Proofs.Ytocicifgglkaeaa.Wk
set_option linter.unusedVariables false
set_option linter.unusedSimpArgs false
set_option maxHeartbeats 4000000 in
set_option maxRecDepth 100000 in
theorem chk_5 (a c : Int) (A : Option Addr) (cc : Nat) (v : List Int) (t n o : Int) (w : World) (hV : Kd.C (Kd.int .i64) w A v.length v) : Calls Try.prog 29 #[.agg #[.int .i64 5, .int .i64 a, .int .i64 c, .slice A v.length cc, .int .i64 t, .int .i64 n, .int .i64 o]] w fun e w' => e = .returned (.int .i64 (if chkB 5 a c v t n o then 0 else 1)) ∧ Below w.heap.size w w' := by
  have HV := Aside0.mk hV; clear hV
  by_cases hz0 : (t == 0) = true
  · have z0 : (t == 0) = true := hz0; clear hz0
    by_cases hz1 : (n == 0) = true
    · have z1 : (n == 0) = true := hz1; clear hz1
      by_cases hz2 : (o == 0) = true
      · have z2 : (o == 0) = true := hz2; clear hz2
        by_cases hz3 : (c == 0) = true
        · have z3 : (c == 0) = true := hz3; clear hz3
          by_cases hz4 : smB 1 1 1 v = true
          · have z4 : smB 1 1 1 v = true := hz4; clear hz4; have pz4 := smB_len z4
            by_cases hz5 : spB a 1 = true
            · have z5 : spB a 1 = true := hz5; clear hz5
              have HR : Aside0 (chkB 5 a c v t n o = true) := ⟨by simp [chkB, z0, z1, z2, z3, z4, z5]⟩
              rw [HR.out]
              go_enter Try.func29, Try.ntmps29
              go_wp2_with (first | (go_at_call 49; refine (within_c _ _ _ _).mono ?_; rintro e w' ⟨rfl, rfl⟩) | (go_at_call 50; refine (span_c _ _ _).mono ?_; rintro e w' ⟨rfl, rfl⟩) | (go_at_call 51; refine (some_c A cc v _ _ _ _ ?hv).mono ?_; (case hv => (with_reducible repeat (first | refine Kd.C_alloc ?_ _ | refine Kd.C_drewN ?_ _ | refine Kd.C_drew ?_)); exact HV.out); rintro e w' ⟨rfl, rfl⟩) | (go_at_call 52; refine (all_c _ _ [n, o] _ _ ?hv).mono ?_; (case hv => exact row_C (xs := [n, o]) (new_blk (by simp)) (by simp)); rintro e w' ⟨rfl, rfl⟩))
              go_ret
              exact ⟨rfl, by repeat (first | exact Below.refl _ _ | apply below_alloc)⟩
            · have z5 : spB a 1 = false := by simpa using hz5
              clear hz5
              have HR : Aside0 (chkB 5 a c v t n o = false) := ⟨by simp [chkB, z0, z1, z2, z3, z4, z5]⟩
              rw [HR.out]
              go_enter Try.func29, Try.ntmps29
              go_wp2_with (first | (go_at_call 49; refine (within_c _ _ _ _).mono ?_; rintro e w' ⟨rfl, rfl⟩) | (go_at_call 50; refine (span_c _ _ _).mono ?_; rintro e w' ⟨rfl, rfl⟩) | (go_at_call 51; refine (some_c A cc v _ _ _ _ ?hv).mono ?_; (case hv => (with_reducible repeat (first | refine Kd.C_alloc ?_ _ | refine Kd.C_drewN ?_ _ | refine Kd.C_drew ?_)); exact HV.out); rintro e w' ⟨rfl, rfl⟩) | (go_at_call 52; refine (all_c _ _ [n, o] _ _ ?hv).mono ?_; (case hv => exact row_C (xs := [n, o]) (new_blk (by simp)) (by simp)); rintro e w' ⟨rfl, rfl⟩))
              go_ret
              exact ⟨rfl, by repeat (first | exact Below.refl _ _ | apply below_alloc)⟩
          · have z4 : smB 1 1 1 v = false := by simpa using hz4
            clear hz4
            have HR : Aside0 (chkB 5 a c v t n o = false) := ⟨by simp [chkB, z0, z1, z2, z3, z4]⟩
            rw [HR.out]
            go_enter Try.func29, Try.ntmps29
            go_wp2_with (first | (go_at_call 49; refine (within_c _ _ _ _).mono ?_; rintro e w' ⟨rfl, rfl⟩) | (go_at_call 50; refine (span_c _ _ _).mono ?_; rintro e w' ⟨rfl, rfl⟩) | (go_at_call 51; refine (some_c A cc v _ _ _ _ ?hv).mono ?_; (case hv => (with_reducible repeat (first | refine Kd.C_alloc ?_ _ | refine Kd.C_drewN ?_ _ | refine Kd.C_drew ?_)); exact HV.out); rintro e w' ⟨rfl, rfl⟩) | (go_at_call 52; refine (all_c _ _ [n, o] _ _ ?hv).mono ?_; (case hv => exact row_C (xs := [n, o]) (new_blk (by simp)) (by simp)); rintro e w' ⟨rfl, rfl⟩))
            go_ret
            exact ⟨rfl, by repeat (first | exact Below.refl _ _ | apply below_alloc)⟩
        · have z3 : (c == 0) = false := by simpa using hz3
          clear hz3
          have HR : Aside0 (chkB 5 a c v t n o = false) := ⟨by simp [chkB, z0, z1, z2, z3]⟩
          rw [HR.out]
          go_enter Try.func29, Try.ntmps29
          go_wp2_with (first | (go_at_call 49; refine (within_c _ _ _ _).mono ?_; rintro e w' ⟨rfl, rfl⟩) | (go_at_call 50; refine (span_c _ _ _).mono ?_; rintro e w' ⟨rfl, rfl⟩) | (go_at_call 51; refine (some_c A cc v _ _ _ _ ?hv).mono ?_; (case hv => (with_reducible repeat (first | refine Kd.C_alloc ?_ _ | refine Kd.C_drewN ?_ _ | refine Kd.C_drew ?_)); exact HV.out); rintro e w' ⟨rfl, rfl⟩) | (go_at_call 52; refine (all_c _ _ [n, o] _ _ ?hv).mono ?_; (case hv => exact row_C (xs := [n, o]) (new_blk (by simp)) (by simp)); rintro e w' ⟨rfl, rfl⟩))
          go_ret
          exact ⟨rfl, by repeat (first | exact Below.refl _ _ | apply below_alloc)⟩
      · have z2 : (o == 0) = false := by simpa using hz2
        clear hz2
        have HR : Aside0 (chkB 5 a c v t n o = false) := ⟨by simp [chkB, z0, z1, z2]⟩
        rw [HR.out]
        go_enter Try.func29, Try.ntmps29
        go_wp2_with (first | (go_at_call 49; refine (within_c _ _ _ _).mono ?_; rintro e w' ⟨rfl, rfl⟩) | (go_at_call 50; refine (span_c _ _ _).mono ?_; rintro e w' ⟨rfl, rfl⟩) | (go_at_call 51; refine (some_c A cc v _ _ _ _ ?hv).mono ?_; (case hv => (with_reducible repeat (first | refine Kd.C_alloc ?_ _ | refine Kd.C_drewN ?_ _ | refine Kd.C_drew ?_)); exact HV.out); rintro e w' ⟨rfl, rfl⟩) | (go_at_call 52; refine (all_c _ _ [n, o] _ _ ?hv).mono ?_; (case hv => exact row_C (xs := [n, o]) (new_blk (by simp)) (by simp)); rintro e w' ⟨rfl, rfl⟩))
        go_ret
        exact ⟨rfl, by repeat (first | exact Below.refl _ _ | apply below_alloc)⟩
    · have z1 : (n == 0) = false := by simpa using hz1
      clear hz1
      have HR : Aside0 (chkB 5 a c v t n o = false) := ⟨by simp [chkB, z0, z1]⟩
      rw [HR.out]
      go_enter Try.func29, Try.ntmps29
      go_wp2_with (first | (go_at_call 49; refine (within_c _ _ _ _).mono ?_; rintro e w' ⟨rfl, rfl⟩) | (go_at_call 50; refine (span_c _ _ _).mono ?_; rintro e w' ⟨rfl, rfl⟩) | (go_at_call 51; refine (some_c A cc v _ _ _ _ ?hv).mono ?_; (case hv => (with_reducible repeat (first | refine Kd.C_alloc ?_ _ | refine Kd.C_drewN ?_ _ | refine Kd.C_drew ?_)); exact HV.out); rintro e w' ⟨rfl, rfl⟩) | (go_at_call 52; refine (all_c _ _ [n, o] _ _ ?hv).mono ?_; (case hv => exact row_C (xs := [n, o]) (new_blk (by simp)) (by simp)); rintro e w' ⟨rfl, rfl⟩))
      go_ret
      exact ⟨rfl, by repeat (first | exact Below.refl _ _ | apply below_alloc)⟩
  · have z0 : (t == 0) = false := by simpa using hz0
    clear hz0
    have HR : Aside0 (chkB 5 a c v t n o = false) := ⟨by simp [chkB, z0]⟩
    rw [HR.out]
    go_enter Try.func29, Try.ntmps29
    go_wp2_with (first | (go_at_call 49; refine (within_c _ _ _ _).mono ?_; rintro e w' ⟨rfl, rfl⟩) | (go_at_call 50; refine (span_c _ _ _).mono ?_; rintro e w' ⟨rfl, rfl⟩) | (go_at_call 51; refine (some_c A cc v _ _ _ _ ?hv).mono ?_; (case hv => (with_reducible repeat (first | refine Kd.C_alloc ?_ _ | refine Kd.C_drewN ?_ _ | refine Kd.C_drew ?_)); exact HV.out); rintro e w' ⟨rfl, rfl⟩) | (go_at_call 52; refine (all_c _ _ [n, o] _ _ ?hv).mono ?_; (case hv => exact row_C (xs := [n, o]) (new_blk (by simp)) (by simp)); rintro e w' ⟨rfl, rfl⟩))
    go_ret
    exact ⟨rfl, by repeat (first | exact Below.refl _ _ | apply below_alloc)⟩
set_option maxHeartbeats 4000000 in
set_option maxRecDepth 100000 in
theorem chk_6 (a c : Int) (A : Option Addr) (cc : Nat) (v : List Int) (t n o : Int) (w : World) (hV : Kd.C (Kd.int .i64) w A v.length v) : Calls Try.prog 29 #[.agg #[.int .i64 6, .int .i64 a, .int .i64 c, .slice A v.length cc, .int .i64 t, .int .i64 n, .int .i64 o]] w fun e w' => e = .returned (.int .i64 (if chkB 6 a c v t n o then 0 else 1)) ∧ Below w.heap.size w w' := by
  have HV := Aside0.mk hV; clear hV
  by_cases hz0 : (t == 0) = true
  · have z0 : (t == 0) = true := hz0; clear hz0
    by_cases hz1 : (n == 0) = true
    · have z1 : (n == 0) = true := hz1; clear hz1
      by_cases hz2 : (o == 0) = true
      · have z2 : (o == 0) = true := hz2; clear hz2
        by_cases hz3 : (c == 0) = true
        · have z3 : (c == 0) = true := hz3; clear hz3
          by_cases hz4 : smB 1 1 65535 v = true
          · have z4 : smB 1 1 65535 v = true := hz4; clear hz4; have pz4 := smB_len z4
            by_cases hz5 : spB a 1 = true
            · have z5 : spB a 1 = true := hz5; clear hz5
              have HR : Aside0 (chkB 6 a c v t n o = true) := ⟨by simp [chkB, z0, z1, z2, z3, z4, z5]⟩
              rw [HR.out]
              go_enter Try.func29, Try.ntmps29
              go_wp2_with (first | (go_at_call 49; refine (within_c _ _ _ _).mono ?_; rintro e w' ⟨rfl, rfl⟩) | (go_at_call 50; refine (span_c _ _ _).mono ?_; rintro e w' ⟨rfl, rfl⟩) | (go_at_call 51; refine (some_c A cc v _ _ _ _ ?hv).mono ?_; (case hv => (with_reducible repeat (first | refine Kd.C_alloc ?_ _ | refine Kd.C_drewN ?_ _ | refine Kd.C_drew ?_)); exact HV.out); rintro e w' ⟨rfl, rfl⟩) | (go_at_call 52; refine (all_c _ _ [n, o] _ _ ?hv).mono ?_; (case hv => exact row_C (xs := [n, o]) (new_blk (by simp)) (by simp)); rintro e w' ⟨rfl, rfl⟩))
              go_ret
              exact ⟨rfl, by repeat (first | exact Below.refl _ _ | apply below_alloc)⟩
            · have z5 : spB a 1 = false := by simpa using hz5
              clear hz5
              have HR : Aside0 (chkB 6 a c v t n o = false) := ⟨by simp [chkB, z0, z1, z2, z3, z4, z5]⟩
              rw [HR.out]
              go_enter Try.func29, Try.ntmps29
              go_wp2_with (first | (go_at_call 49; refine (within_c _ _ _ _).mono ?_; rintro e w' ⟨rfl, rfl⟩) | (go_at_call 50; refine (span_c _ _ _).mono ?_; rintro e w' ⟨rfl, rfl⟩) | (go_at_call 51; refine (some_c A cc v _ _ _ _ ?hv).mono ?_; (case hv => (with_reducible repeat (first | refine Kd.C_alloc ?_ _ | refine Kd.C_drewN ?_ _ | refine Kd.C_drew ?_)); exact HV.out); rintro e w' ⟨rfl, rfl⟩) | (go_at_call 52; refine (all_c _ _ [n, o] _ _ ?hv).mono ?_; (case hv => exact row_C (xs := [n, o]) (new_blk (by simp)) (by simp)); rintro e w' ⟨rfl, rfl⟩))
              go_ret
              exact ⟨rfl, by repeat (first | exact Below.refl _ _ | apply below_alloc)⟩
          · have z4 : smB 1 1 65535 v = false := by simpa using hz4
            clear hz4
            have HR : Aside0 (chkB 6 a c v t n o = false) := ⟨by simp [chkB, z0, z1, z2, z3, z4]⟩
            rw [HR.out]
            go_enter Try.func29, Try.ntmps29
            go_wp2_with (first | (go_at_call 49; refine (within_c _ _ _ _).mono ?_; rintro e w' ⟨rfl, rfl⟩) | (go_at_call 50; refine (span_c _ _ _).mono ?_; rintro e w' ⟨rfl, rfl⟩) | (go_at_call 51; refine (some_c A cc v _ _ _ _ ?hv).mono ?_; (case hv => (with_reducible repeat (first | refine Kd.C_alloc ?_ _ | refine Kd.C_drewN ?_ _ | refine Kd.C_drew ?_)); exact HV.out); rintro e w' ⟨rfl, rfl⟩) | (go_at_call 52; refine (all_c _ _ [n, o] _ _ ?hv).mono ?_; (case hv => exact row_C (xs := [n, o]) (new_blk (by simp)) (by simp)); rintro e w' ⟨rfl, rfl⟩))
            go_ret
            exact ⟨rfl, by repeat (first | exact Below.refl _ _ | apply below_alloc)⟩
        · have z3 : (c == 0) = false := by simpa using hz3
          clear hz3
          have HR : Aside0 (chkB 6 a c v t n o = false) := ⟨by simp [chkB, z0, z1, z2, z3]⟩
          rw [HR.out]
          go_enter Try.func29, Try.ntmps29
          go_wp2_with (first | (go_at_call 49; refine (within_c _ _ _ _).mono ?_; rintro e w' ⟨rfl, rfl⟩) | (go_at_call 50; refine (span_c _ _ _).mono ?_; rintro e w' ⟨rfl, rfl⟩) | (go_at_call 51; refine (some_c A cc v _ _ _ _ ?hv).mono ?_; (case hv => (with_reducible repeat (first | refine Kd.C_alloc ?_ _ | refine Kd.C_drewN ?_ _ | refine Kd.C_drew ?_)); exact HV.out); rintro e w' ⟨rfl, rfl⟩) | (go_at_call 52; refine (all_c _ _ [n, o] _ _ ?hv).mono ?_; (case hv => exact row_C (xs := [n, o]) (new_blk (by simp)) (by simp)); rintro e w' ⟨rfl, rfl⟩))
          go_ret
          exact ⟨rfl, by repeat (first | exact Below.refl _ _ | apply below_alloc)⟩
      · have z2 : (o == 0) = false := by simpa using hz2
        clear hz2
        have HR : Aside0 (chkB 6 a c v t n o = false) := ⟨by simp [chkB, z0, z1, z2]⟩
        rw [HR.out]
        go_enter Try.func29, Try.ntmps29
        go_wp2_with (first | (go_at_call 49; refine (within_c _ _ _ _).mono ?_; rintro e w' ⟨rfl, rfl⟩) | (go_at_call 50; refine (span_c _ _ _).mono ?_; rintro e w' ⟨rfl, rfl⟩) | (go_at_call 51; refine (some_c A cc v _ _ _ _ ?hv).mono ?_; (case hv => (with_reducible repeat (first | refine Kd.C_alloc ?_ _ | refine Kd.C_drewN ?_ _ | refine Kd.C_drew ?_)); exact HV.out); rintro e w' ⟨rfl, rfl⟩) | (go_at_call 52; refine (all_c _ _ [n, o] _ _ ?hv).mono ?_; (case hv => exact row_C (xs := [n, o]) (new_blk (by simp)) (by simp)); rintro e w' ⟨rfl, rfl⟩))
        go_ret
        exact ⟨rfl, by repeat (first | exact Below.refl _ _ | apply below_alloc)⟩
    · have z1 : (n == 0) = false := by simpa using hz1
      clear hz1
      have HR : Aside0 (chkB 6 a c v t n o = false) := ⟨by simp [chkB, z0, z1]⟩
      rw [HR.out]
      go_enter Try.func29, Try.ntmps29
      go_wp2_with (first | (go_at_call 49; refine (within_c _ _ _ _).mono ?_; rintro e w' ⟨rfl, rfl⟩) | (go_at_call 50; refine (span_c _ _ _).mono ?_; rintro e w' ⟨rfl, rfl⟩) | (go_at_call 51; refine (some_c A cc v _ _ _ _ ?hv).mono ?_; (case hv => (with_reducible repeat (first | refine Kd.C_alloc ?_ _ | refine Kd.C_drewN ?_ _ | refine Kd.C_drew ?_)); exact HV.out); rintro e w' ⟨rfl, rfl⟩) | (go_at_call 52; refine (all_c _ _ [n, o] _ _ ?hv).mono ?_; (case hv => exact row_C (xs := [n, o]) (new_blk (by simp)) (by simp)); rintro e w' ⟨rfl, rfl⟩))
      go_ret
      exact ⟨rfl, by repeat (first | exact Below.refl _ _ | apply below_alloc)⟩
  · have z0 : (t == 0) = false := by simpa using hz0
    clear hz0
    have HR : Aside0 (chkB 6 a c v t n o = false) := ⟨by simp [chkB, z0]⟩
    rw [HR.out]
    go_enter Try.func29, Try.ntmps29
    go_wp2_with (first | (go_at_call 49; refine (within_c _ _ _ _).mono ?_; rintro e w' ⟨rfl, rfl⟩) | (go_at_call 50; refine (span_c _ _ _).mono ?_; rintro e w' ⟨rfl, rfl⟩) | (go_at_call 51; refine (some_c A cc v _ _ _ _ ?hv).mono ?_; (case hv => (with_reducible repeat (first | refine Kd.C_alloc ?_ _ | refine Kd.C_drewN ?_ _ | refine Kd.C_drew ?_)); exact HV.out); rintro e w' ⟨rfl, rfl⟩) | (go_at_call 52; refine (all_c _ _ [n, o] _ _ ?hv).mono ?_; (case hv => exact row_C (xs := [n, o]) (new_blk (by simp)) (by simp)); rintro e w' ⟨rfl, rfl⟩))
    go_ret
    exact ⟨rfl, by repeat (first | exact Below.refl _ _ | apply below_alloc)⟩
end Go.Proofs.Ytocicifgglkaeaa.Chk
end

section
namespace Go.Proofs.Ytocicifgglkaeaa.Chk
open Go.RowKit Go.Proofs.YtocicifgglkaeaaW.PrintWords Go.Proofs.YtocicifgglkaeaaW.PrintLast Go.Proofs.YtocicifgglkaeaaW.PrintMore Go.Proofs.Ytocicifgglkaeaa.Core Go.Proofs.Ytocicifgglkaeaa.Wk
set_option linter.unusedVariables false
set_option linter.unusedSimpArgs false
set_option maxHeartbeats 4000000 in
set_option maxRecDepth 100000 in
theorem chk_15 (a c : Int) (A : Option Addr) (cc : Nat) (v : List Int) (t n o : Int) (w : World) (hV : Kd.C (Kd.int .i64) w A v.length v) : Calls Try.prog 29 #[.agg #[.int .i64 15, .int .i64 a, .int .i64 c, .slice A v.length cc, .int .i64 t, .int .i64 n, .int .i64 o]] w fun e w' => e = .returned (.int .i64 (if chkB 15 a c v t n o then 0 else 1)) ∧ Below w.heap.size w w' := by
  have HV := Aside0.mk hV; clear hV
  by_cases hz0 : (t == 0) = true
  · have z0 : (t == 0) = true := hz0; clear hz0
    by_cases hz1 : (n == 0) = true
    · have z1 : (n == 0) = true := hz1; clear hz1
      by_cases hz2 : (o == 0) = true
      · have z2 : (o == 0) = true := hz2; clear hz2
        by_cases hz3 : (c == (v.length : Int)) = true
        · have z3 : (c == (v.length : Int)) = true := hz3; clear hz3
          by_cases hz4 : smB 1 1968 1 v = true
          · have z4 : smB 1 1968 1 v = true := hz4; clear hz4; have pz4 := smB_len z4
            by_cases hz5 : spB a v.length = true
            · have z5 : spB a v.length = true := hz5; clear hz5
              have HR : Aside0 (chkB 15 a c v t n o = true) := ⟨by simp [chkB, z0, z1, z2, z3, z4, z5]⟩
              rw [HR.out]
              go_enter Try.func29, Try.ntmps29
              go_wp2_with (first | (go_at_call 49; refine (within_c _ _ _ _).mono ?_; rintro e w' ⟨rfl, rfl⟩) | (go_at_call 50; refine (span_c _ _ _).mono ?_; rintro e w' ⟨rfl, rfl⟩) | (go_at_call 51; refine (some_c A cc v _ _ _ _ ?hv).mono ?_; (case hv => (with_reducible repeat (first | refine Kd.C_alloc ?_ _ | refine Kd.C_drewN ?_ _ | refine Kd.C_drew ?_)); exact HV.out); rintro e w' ⟨rfl, rfl⟩) | (go_at_call 52; refine (all_c _ _ [n, o] _ _ ?hv).mono ?_; (case hv => exact row_C (xs := [n, o]) (new_blk (by simp)) (by simp)); rintro e w' ⟨rfl, rfl⟩))
              go_ret
              exact ⟨rfl, by repeat (first | exact Below.refl _ _ | apply below_alloc)⟩
            · have z5 : spB a v.length = false := by simpa using hz5
              clear hz5
              have HR : Aside0 (chkB 15 a c v t n o = false) := ⟨by simp [chkB, z0, z1, z2, z3, z4, z5]⟩
              rw [HR.out]
              go_enter Try.func29, Try.ntmps29
              go_wp2_with (first | (go_at_call 49; refine (within_c _ _ _ _).mono ?_; rintro e w' ⟨rfl, rfl⟩) | (go_at_call 50; refine (span_c _ _ _).mono ?_; rintro e w' ⟨rfl, rfl⟩) | (go_at_call 51; refine (some_c A cc v _ _ _ _ ?hv).mono ?_; (case hv => (with_reducible repeat (first | refine Kd.C_alloc ?_ _ | refine Kd.C_drewN ?_ _ | refine Kd.C_drew ?_)); exact HV.out); rintro e w' ⟨rfl, rfl⟩) | (go_at_call 52; refine (all_c _ _ [n, o] _ _ ?hv).mono ?_; (case hv => exact row_C (xs := [n, o]) (new_blk (by simp)) (by simp)); rintro e w' ⟨rfl, rfl⟩))
              go_ret
              exact ⟨rfl, by repeat (first | exact Below.refl _ _ | apply below_alloc)⟩
          · have z4 : smB 1 1968 1 v = false := by simpa using hz4
            clear hz4
            have HR : Aside0 (chkB 15 a c v t n o = false) := ⟨by simp [chkB, z0, z1, z2, z3, z4]⟩
            rw [HR.out]
            go_enter Try.func29, Try.ntmps29
            go_wp2_with (first | (go_at_call 49; refine (within_c _ _ _ _).mono ?_; rintro e w' ⟨rfl, rfl⟩) | (go_at_call 50; refine (span_c _ _ _).mono ?_; rintro e w' ⟨rfl, rfl⟩) | (go_at_call 51; refine (some_c A cc v _ _ _ _ ?hv).mono ?_; (case hv => (with_reducible repeat (first | refine Kd.C_alloc ?_ _ | refine Kd.C_drewN ?_ _ | refine Kd.C_drew ?_)); exact HV.out); rintro e w' ⟨rfl, rfl⟩) | (go_at_call 52; refine (all_c _ _ [n, o] _ _ ?hv).mono ?_; (case hv => exact row_C (xs := [n, o]) (new_blk (by simp)) (by simp)); rintro e w' ⟨rfl, rfl⟩))
            go_ret
            exact ⟨rfl, by repeat (first | exact Below.refl _ _ | apply below_alloc)⟩
        · have z3 : (c == (v.length : Int)) = false := by simpa using hz3
          clear hz3
          have HR : Aside0 (chkB 15 a c v t n o = false) := ⟨by simp [chkB, z0, z1, z2, z3]⟩
          rw [HR.out]
          go_enter Try.func29, Try.ntmps29
          go_wp2_with (first | (go_at_call 49; refine (within_c _ _ _ _).mono ?_; rintro e w' ⟨rfl, rfl⟩) | (go_at_call 50; refine (span_c _ _ _).mono ?_; rintro e w' ⟨rfl, rfl⟩) | (go_at_call 51; refine (some_c A cc v _ _ _ _ ?hv).mono ?_; (case hv => (with_reducible repeat (first | refine Kd.C_alloc ?_ _ | refine Kd.C_drewN ?_ _ | refine Kd.C_drew ?_)); exact HV.out); rintro e w' ⟨rfl, rfl⟩) | (go_at_call 52; refine (all_c _ _ [n, o] _ _ ?hv).mono ?_; (case hv => exact row_C (xs := [n, o]) (new_blk (by simp)) (by simp)); rintro e w' ⟨rfl, rfl⟩))
          go_ret
          exact ⟨rfl, by repeat (first | exact Below.refl _ _ | apply below_alloc)⟩
      · have z2 : (o == 0) = false := by simpa using hz2
        clear hz2
        have HR : Aside0 (chkB 15 a c v t n o = false) := ⟨by simp [chkB, z0, z1, z2]⟩
        rw [HR.out]
        go_enter Try.func29, Try.ntmps29
        go_wp2_with (first | (go_at_call 49; refine (within_c _ _ _ _).mono ?_; rintro e w' ⟨rfl, rfl⟩) | (go_at_call 50; refine (span_c _ _ _).mono ?_; rintro e w' ⟨rfl, rfl⟩) | (go_at_call 51; refine (some_c A cc v _ _ _ _ ?hv).mono ?_; (case hv => (with_reducible repeat (first | refine Kd.C_alloc ?_ _ | refine Kd.C_drewN ?_ _ | refine Kd.C_drew ?_)); exact HV.out); rintro e w' ⟨rfl, rfl⟩) | (go_at_call 52; refine (all_c _ _ [n, o] _ _ ?hv).mono ?_; (case hv => exact row_C (xs := [n, o]) (new_blk (by simp)) (by simp)); rintro e w' ⟨rfl, rfl⟩))
        go_ret
        exact ⟨rfl, by repeat (first | exact Below.refl _ _ | apply below_alloc)⟩
    · have z1 : (n == 0) = false := by simpa using hz1
      clear hz1
      have HR : Aside0 (chkB 15 a c v t n o = false) := ⟨by simp [chkB, z0, z1]⟩
      rw [HR.out]
      go_enter Try.func29, Try.ntmps29
      go_wp2_with (first | (go_at_call 49; refine (within_c _ _ _ _).mono ?_; rintro e w' ⟨rfl, rfl⟩) | (go_at_call 50; refine (span_c _ _ _).mono ?_; rintro e w' ⟨rfl, rfl⟩) | (go_at_call 51; refine (some_c A cc v _ _ _ _ ?hv).mono ?_; (case hv => (with_reducible repeat (first | refine Kd.C_alloc ?_ _ | refine Kd.C_drewN ?_ _ | refine Kd.C_drew ?_)); exact HV.out); rintro e w' ⟨rfl, rfl⟩) | (go_at_call 52; refine (all_c _ _ [n, o] _ _ ?hv).mono ?_; (case hv => exact row_C (xs := [n, o]) (new_blk (by simp)) (by simp)); rintro e w' ⟨rfl, rfl⟩))
      go_ret
      exact ⟨rfl, by repeat (first | exact Below.refl _ _ | apply below_alloc)⟩
  · have z0 : (t == 0) = false := by simpa using hz0
    clear hz0
    have HR : Aside0 (chkB 15 a c v t n o = false) := ⟨by simp [chkB, z0]⟩
    rw [HR.out]
    go_enter Try.func29, Try.ntmps29
    go_wp2_with (first | (go_at_call 49; refine (within_c _ _ _ _).mono ?_; rintro e w' ⟨rfl, rfl⟩) | (go_at_call 50; refine (span_c _ _ _).mono ?_; rintro e w' ⟨rfl, rfl⟩) | (go_at_call 51; refine (some_c A cc v _ _ _ _ ?hv).mono ?_; (case hv => (with_reducible repeat (first | refine Kd.C_alloc ?_ _ | refine Kd.C_drewN ?_ _ | refine Kd.C_drew ?_)); exact HV.out); rintro e w' ⟨rfl, rfl⟩) | (go_at_call 52; refine (all_c _ _ [n, o] _ _ ?hv).mono ?_; (case hv => exact row_C (xs := [n, o]) (new_blk (by simp)) (by simp)); rintro e w' ⟨rfl, rfl⟩))
    go_ret
    exact ⟨rfl, by repeat (first | exact Below.refl _ _ | apply below_alloc)⟩
set_option maxHeartbeats 4000000 in
set_option maxRecDepth 100000 in
theorem chk_16 (a c : Int) (A : Option Addr) (cc : Nat) (v : List Int) (t n o : Int) (w : World) (hV : Kd.C (Kd.int .i64) w A v.length v) : Calls Try.prog 29 #[.agg #[.int .i64 16, .int .i64 a, .int .i64 c, .slice A v.length cc, .int .i64 t, .int .i64 n, .int .i64 o]] w fun e w' => e = .returned (.int .i64 (if chkB 16 a c v t n o then 0 else 1)) ∧ Below w.heap.size w w' := by
  have HV := Aside0.mk hV; clear hV
  by_cases hz0 : (t == 0) = true
  · have z0 : (t == 0) = true := hz0; clear hz0
    by_cases hz1 : (n == 0) = true
    · have z1 : (n == 0) = true := hz1; clear hz1
      by_cases hz2 : (o == 0) = true
      · have z2 : (o == 0) = true := hz2; clear hz2
        by_cases hz3 : (c == (v.length : Int)) = true
        · have z3 : (c == (v.length : Int)) = true := hz3; clear hz3
          by_cases hz4 : smB 1 123 65535 v = true
          · have z4 : smB 1 123 65535 v = true := hz4; clear hz4; have pz4 := smB_len z4
            by_cases hz5 : spB a v.length = true
            · have z5 : spB a v.length = true := hz5; clear hz5
              have HR : Aside0 (chkB 16 a c v t n o = true) := ⟨by simp [chkB, z0, z1, z2, z3, z4, z5]⟩
              rw [HR.out]
              go_enter Try.func29, Try.ntmps29
              go_wp2_with (first | (go_at_call 49; refine (within_c _ _ _ _).mono ?_; rintro e w' ⟨rfl, rfl⟩) | (go_at_call 50; refine (span_c _ _ _).mono ?_; rintro e w' ⟨rfl, rfl⟩) | (go_at_call 51; refine (some_c A cc v _ _ _ _ ?hv).mono ?_; (case hv => (with_reducible repeat (first | refine Kd.C_alloc ?_ _ | refine Kd.C_drewN ?_ _ | refine Kd.C_drew ?_)); exact HV.out); rintro e w' ⟨rfl, rfl⟩) | (go_at_call 52; refine (all_c _ _ [n, o] _ _ ?hv).mono ?_; (case hv => exact row_C (xs := [n, o]) (new_blk (by simp)) (by simp)); rintro e w' ⟨rfl, rfl⟩))
              go_ret
              exact ⟨rfl, by repeat (first | exact Below.refl _ _ | apply below_alloc)⟩
            · have z5 : spB a v.length = false := by simpa using hz5
              clear hz5
              have HR : Aside0 (chkB 16 a c v t n o = false) := ⟨by simp [chkB, z0, z1, z2, z3, z4, z5]⟩
              rw [HR.out]
              go_enter Try.func29, Try.ntmps29
              go_wp2_with (first | (go_at_call 49; refine (within_c _ _ _ _).mono ?_; rintro e w' ⟨rfl, rfl⟩) | (go_at_call 50; refine (span_c _ _ _).mono ?_; rintro e w' ⟨rfl, rfl⟩) | (go_at_call 51; refine (some_c A cc v _ _ _ _ ?hv).mono ?_; (case hv => (with_reducible repeat (first | refine Kd.C_alloc ?_ _ | refine Kd.C_drewN ?_ _ | refine Kd.C_drew ?_)); exact HV.out); rintro e w' ⟨rfl, rfl⟩) | (go_at_call 52; refine (all_c _ _ [n, o] _ _ ?hv).mono ?_; (case hv => exact row_C (xs := [n, o]) (new_blk (by simp)) (by simp)); rintro e w' ⟨rfl, rfl⟩))
              go_ret
              exact ⟨rfl, by repeat (first | exact Below.refl _ _ | apply below_alloc)⟩
          · have z4 : smB 1 123 65535 v = false := by simpa using hz4
            clear hz4
            have HR : Aside0 (chkB 16 a c v t n o = false) := ⟨by simp [chkB, z0, z1, z2, z3, z4]⟩
            rw [HR.out]
            go_enter Try.func29, Try.ntmps29
            go_wp2_with (first | (go_at_call 49; refine (within_c _ _ _ _).mono ?_; rintro e w' ⟨rfl, rfl⟩) | (go_at_call 50; refine (span_c _ _ _).mono ?_; rintro e w' ⟨rfl, rfl⟩) | (go_at_call 51; refine (some_c A cc v _ _ _ _ ?hv).mono ?_; (case hv => (with_reducible repeat (first | refine Kd.C_alloc ?_ _ | refine Kd.C_drewN ?_ _ | refine Kd.C_drew ?_)); exact HV.out); rintro e w' ⟨rfl, rfl⟩) | (go_at_call 52; refine (all_c _ _ [n, o] _ _ ?hv).mono ?_; (case hv => exact row_C (xs := [n, o]) (new_blk (by simp)) (by simp)); rintro e w' ⟨rfl, rfl⟩))
            go_ret
            exact ⟨rfl, by repeat (first | exact Below.refl _ _ | apply below_alloc)⟩
        · have z3 : (c == (v.length : Int)) = false := by simpa using hz3
          clear hz3
          have HR : Aside0 (chkB 16 a c v t n o = false) := ⟨by simp [chkB, z0, z1, z2, z3]⟩
          rw [HR.out]
          go_enter Try.func29, Try.ntmps29
          go_wp2_with (first | (go_at_call 49; refine (within_c _ _ _ _).mono ?_; rintro e w' ⟨rfl, rfl⟩) | (go_at_call 50; refine (span_c _ _ _).mono ?_; rintro e w' ⟨rfl, rfl⟩) | (go_at_call 51; refine (some_c A cc v _ _ _ _ ?hv).mono ?_; (case hv => (with_reducible repeat (first | refine Kd.C_alloc ?_ _ | refine Kd.C_drewN ?_ _ | refine Kd.C_drew ?_)); exact HV.out); rintro e w' ⟨rfl, rfl⟩) | (go_at_call 52; refine (all_c _ _ [n, o] _ _ ?hv).mono ?_; (case hv => exact row_C (xs := [n, o]) (new_blk (by simp)) (by simp)); rintro e w' ⟨rfl, rfl⟩))
          go_ret
          exact ⟨rfl, by repeat (first | exact Below.refl _ _ | apply below_alloc)⟩
      · have z2 : (o == 0) = false := by simpa using hz2
        clear hz2
        have HR : Aside0 (chkB 16 a c v t n o = false) := ⟨by simp [chkB, z0, z1, z2]⟩
        rw [HR.out]
        go_enter Try.func29, Try.ntmps29
        go_wp2_with (first | (go_at_call 49; refine (within_c _ _ _ _).mono ?_; rintro e w' ⟨rfl, rfl⟩) | (go_at_call 50; refine (span_c _ _ _).mono ?_; rintro e w' ⟨rfl, rfl⟩) | (go_at_call 51; refine (some_c A cc v _ _ _ _ ?hv).mono ?_; (case hv => (with_reducible repeat (first | refine Kd.C_alloc ?_ _ | refine Kd.C_drewN ?_ _ | refine Kd.C_drew ?_)); exact HV.out); rintro e w' ⟨rfl, rfl⟩) | (go_at_call 52; refine (all_c _ _ [n, o] _ _ ?hv).mono ?_; (case hv => exact row_C (xs := [n, o]) (new_blk (by simp)) (by simp)); rintro e w' ⟨rfl, rfl⟩))
        go_ret
        exact ⟨rfl, by repeat (first | exact Below.refl _ _ | apply below_alloc)⟩
    · have z1 : (n == 0) = false := by simpa using hz1
      clear hz1
      have HR : Aside0 (chkB 16 a c v t n o = false) := ⟨by simp [chkB, z0, z1]⟩
      rw [HR.out]
      go_enter Try.func29, Try.ntmps29
      go_wp2_with (first | (go_at_call 49; refine (within_c _ _ _ _).mono ?_; rintro e w' ⟨rfl, rfl⟩) | (go_at_call 50; refine (span_c _ _ _).mono ?_; rintro e w' ⟨rfl, rfl⟩) | (go_at_call 51; refine (some_c A cc v _ _ _ _ ?hv).mono ?_; (case hv => (with_reducible repeat (first | refine Kd.C_alloc ?_ _ | refine Kd.C_drewN ?_ _ | refine Kd.C_drew ?_)); exact HV.out); rintro e w' ⟨rfl, rfl⟩) | (go_at_call 52; refine (all_c _ _ [n, o] _ _ ?hv).mono ?_; (case hv => exact row_C (xs := [n, o]) (new_blk (by simp)) (by simp)); rintro e w' ⟨rfl, rfl⟩))
      go_ret
      exact ⟨rfl, by repeat (first | exact Below.refl _ _ | apply below_alloc)⟩
  · have z0 : (t == 0) = false := by simpa using hz0
    clear hz0
    have HR : Aside0 (chkB 16 a c v t n o = false) := ⟨by simp [chkB, z0]⟩
    rw [HR.out]
    go_enter Try.func29, Try.ntmps29
    go_wp2_with (first | (go_at_call 49; refine (within_c _ _ _ _).mono ?_; rintro e w' ⟨rfl, rfl⟩) | (go_at_call 50; refine (span_c _ _ _).mono ?_; rintro e w' ⟨rfl, rfl⟩) | (go_at_call 51; refine (some_c A cc v _ _ _ _ ?hv).mono ?_; (case hv => (with_reducible repeat (first | refine Kd.C_alloc ?_ _ | refine Kd.C_drewN ?_ _ | refine Kd.C_drew ?_)); exact HV.out); rintro e w' ⟨rfl, rfl⟩) | (go_at_call 52; refine (all_c _ _ [n, o] _ _ ?hv).mono ?_; (case hv => exact row_C (xs := [n, o]) (new_blk (by simp)) (by simp)); rintro e w' ⟨rfl, rfl⟩))
    go_ret
    exact ⟨rfl, by repeat (first | exact Below.refl _ _ | apply below_alloc)⟩
end Go.Proofs.Ytocicifgglkaeaa.Chk
end

section
namespace Go.Proofs.Ytocicifgglkaeaa.Chk
open Go.RowKit Go.Proofs.YtocicifgglkaeaaW.PrintWords Go.Proofs.YtocicifgglkaeaaW.PrintLast Go.Proofs.YtocicifgglkaeaaW.PrintMore Go.Proofs.Ytocicifgglkaeaa.Core Go.Proofs.Ytocicifgglkaeaa.Wk
set_option linter.unusedVariables false
set_option linter.unusedSimpArgs false
set_option maxHeartbeats 4000000 in
set_option maxRecDepth 100000 in
theorem chk_22 (a c : Int) (A : Option Addr) (cc : Nat) (v : List Int) (t n o : Int) (w : World) (hV : Kd.C (Kd.int .i64) w A v.length v) : Calls Try.prog 29 #[.agg #[.int .i64 22, .int .i64 a, .int .i64 c, .slice A v.length cc, .int .i64 t, .int .i64 n, .int .i64 o]] w fun e w' => e = .returned (.int .i64 (if chkB 22 a c v t n o then 0 else 1)) ∧ Below w.heap.size w w' := by
  have HV := Aside0.mk hV; clear hV
  by_cases hz0 : (t == 0) = true
  · have z0 : (t == 0) = true := hz0; clear hz0
    by_cases hz1 : (n == 0) = true
    · have z1 : (n == 0) = true := hz1; clear hz1
      by_cases hz2 : (o == 0) = true
      · have z2 : (o == 0) = true := hz2; clear hz2
        by_cases hz3 : ((v.length : Int) == 0) = true
        · have z3 : ((v.length : Int) == 0) = true := hz3; clear hz3
          by_cases hz4 : (c == 0) = true
          · have z4 : (c == 0) = true := hz4; clear hz4
            by_cases hz5 : spB a 1 = true
            · have z5 : spB a 1 = true := hz5; clear hz5
              by_cases hz6 : lowB 65535 [n, o] = true
              · have z6 : lowB 65535 [n, o] = true := hz6; clear hz6
                have HR : Aside0 (chkB 22 a c v t n o = true) := ⟨by have hlw := low_two n o; simp_all [chkB]⟩
                rw [HR.out]
                go_enter Try.func29, Try.ntmps29
                go_wp2_with (first | (go_at_call 49; refine (within_c _ _ _ _).mono ?_; rintro e w' ⟨rfl, rfl⟩) | (go_at_call 50; refine (span_c _ _ _).mono ?_; rintro e w' ⟨rfl, rfl⟩) | (go_at_call 51; refine (some_c A cc v _ _ _ _ ?hv).mono ?_; (case hv => (with_reducible repeat (first | refine Kd.C_alloc ?_ _ | refine Kd.C_drewN ?_ _ | refine Kd.C_drew ?_)); exact HV.out); rintro e w' ⟨rfl, rfl⟩) | (go_at_call 52; refine (all_c _ _ [n, o] _ _ ?hv).mono ?_; (case hv => exact row_C (xs := [n, o]) (new_blk (by simp)) (by simp)); rintro e w' ⟨rfl, rfl⟩))
                go_ret
                exact ⟨rfl, by repeat (first | exact Below.refl _ _ | apply below_alloc)⟩
              · have z6 : lowB 65535 [n, o] = false := by simpa using hz6
                clear hz6
                have HR : Aside0 (chkB 22 a c v t n o = false) := ⟨by have hlw := low_two n o; simp_all [chkB]⟩
                rw [HR.out]
                go_enter Try.func29, Try.ntmps29
                go_wp2_with (first | (go_at_call 49; refine (within_c _ _ _ _).mono ?_; rintro e w' ⟨rfl, rfl⟩) | (go_at_call 50; refine (span_c _ _ _).mono ?_; rintro e w' ⟨rfl, rfl⟩) | (go_at_call 51; refine (some_c A cc v _ _ _ _ ?hv).mono ?_; (case hv => (with_reducible repeat (first | refine Kd.C_alloc ?_ _ | refine Kd.C_drewN ?_ _ | refine Kd.C_drew ?_)); exact HV.out); rintro e w' ⟨rfl, rfl⟩) | (go_at_call 52; refine (all_c _ _ [n, o] _ _ ?hv).mono ?_; (case hv => exact row_C (xs := [n, o]) (new_blk (by simp)) (by simp)); rintro e w' ⟨rfl, rfl⟩))
                go_ret
                exact ⟨rfl, by repeat (first | exact Below.refl _ _ | apply below_alloc)⟩
            · have z5 : spB a 1 = false := by simpa using hz5
              clear hz5
              have HR : Aside0 (chkB 22 a c v t n o = false) := ⟨by have hlw := low_two n o; simp_all [chkB]⟩
              rw [HR.out]
              go_enter Try.func29, Try.ntmps29
              go_wp2_with (first | (go_at_call 49; refine (within_c _ _ _ _).mono ?_; rintro e w' ⟨rfl, rfl⟩) | (go_at_call 50; refine (span_c _ _ _).mono ?_; rintro e w' ⟨rfl, rfl⟩) | (go_at_call 51; refine (some_c A cc v _ _ _ _ ?hv).mono ?_; (case hv => (with_reducible repeat (first | refine Kd.C_alloc ?_ _ | refine Kd.C_drewN ?_ _ | refine Kd.C_drew ?_)); exact HV.out); rintro e w' ⟨rfl, rfl⟩) | (go_at_call 52; refine (all_c _ _ [n, o] _ _ ?hv).mono ?_; (case hv => exact row_C (xs := [n, o]) (new_blk (by simp)) (by simp)); rintro e w' ⟨rfl, rfl⟩))
              go_ret
              exact ⟨rfl, by repeat (first | exact Below.refl _ _ | apply below_alloc)⟩
          · have z4 : (c == 0) = false := by simpa using hz4
            clear hz4
            have HR : Aside0 (chkB 22 a c v t n o = false) := ⟨by have hlw := low_two n o; simp_all [chkB]⟩
            rw [HR.out]
            go_enter Try.func29, Try.ntmps29
            go_wp2_with (first | (go_at_call 49; refine (within_c _ _ _ _).mono ?_; rintro e w' ⟨rfl, rfl⟩) | (go_at_call 50; refine (span_c _ _ _).mono ?_; rintro e w' ⟨rfl, rfl⟩) | (go_at_call 51; refine (some_c A cc v _ _ _ _ ?hv).mono ?_; (case hv => (with_reducible repeat (first | refine Kd.C_alloc ?_ _ | refine Kd.C_drewN ?_ _ | refine Kd.C_drew ?_)); exact HV.out); rintro e w' ⟨rfl, rfl⟩) | (go_at_call 52; refine (all_c _ _ [n, o] _ _ ?hv).mono ?_; (case hv => exact row_C (xs := [n, o]) (new_blk (by simp)) (by simp)); rintro e w' ⟨rfl, rfl⟩))
            go_ret
            exact ⟨rfl, by repeat (first | exact Below.refl _ _ | apply below_alloc)⟩
        · have z3 : ((v.length : Int) == 0) = false := by simpa using hz3
          clear hz3
          have HR : Aside0 (chkB 22 a c v t n o = false) := ⟨by have hlw := low_two n o; simp_all [chkB]⟩
          rw [HR.out]
          go_enter Try.func29, Try.ntmps29
          go_wp2_with (first | (go_at_call 49; refine (within_c _ _ _ _).mono ?_; rintro e w' ⟨rfl, rfl⟩) | (go_at_call 50; refine (span_c _ _ _).mono ?_; rintro e w' ⟨rfl, rfl⟩) | (go_at_call 51; refine (some_c A cc v _ _ _ _ ?hv).mono ?_; (case hv => (with_reducible repeat (first | refine Kd.C_alloc ?_ _ | refine Kd.C_drewN ?_ _ | refine Kd.C_drew ?_)); exact HV.out); rintro e w' ⟨rfl, rfl⟩) | (go_at_call 52; refine (all_c _ _ [n, o] _ _ ?hv).mono ?_; (case hv => exact row_C (xs := [n, o]) (new_blk (by simp)) (by simp)); rintro e w' ⟨rfl, rfl⟩))
          go_ret
          exact ⟨rfl, by repeat (first | exact Below.refl _ _ | apply below_alloc)⟩
      · have z2 : (o == 0) = false := by simpa using hz2
        clear hz2
        by_cases hz3 : ((v.length : Int) == 0) = true
        · have z3 : ((v.length : Int) == 0) = true := hz3; clear hz3
          by_cases hz4 : (c == 0) = true
          · have z4 : (c == 0) = true := hz4; clear hz4
            by_cases hz5 : spB a 1 = true
            · have z5 : spB a 1 = true := hz5; clear hz5
              by_cases hz6 : lowB 65535 [n, o] = true
              · have z6 : lowB 65535 [n, o] = true := hz6; clear hz6
                have HR : Aside0 (chkB 22 a c v t n o = true) := ⟨by have hlw := low_two n o; simp_all [chkB]⟩
                rw [HR.out]
                go_enter Try.func29, Try.ntmps29
                go_wp2_with (first | (go_at_call 49; refine (within_c _ _ _ _).mono ?_; rintro e w' ⟨rfl, rfl⟩) | (go_at_call 50; refine (span_c _ _ _).mono ?_; rintro e w' ⟨rfl, rfl⟩) | (go_at_call 51; refine (some_c A cc v _ _ _ _ ?hv).mono ?_; (case hv => (with_reducible repeat (first | refine Kd.C_alloc ?_ _ | refine Kd.C_drewN ?_ _ | refine Kd.C_drew ?_)); exact HV.out); rintro e w' ⟨rfl, rfl⟩) | (go_at_call 52; refine (all_c _ _ [n, o] _ _ ?hv).mono ?_; (case hv => exact row_C (xs := [n, o]) (new_blk (by simp)) (by simp)); rintro e w' ⟨rfl, rfl⟩))
                go_ret
                exact ⟨rfl, by repeat (first | exact Below.refl _ _ | apply below_alloc)⟩
              · have z6 : lowB 65535 [n, o] = false := by simpa using hz6
                clear hz6
                have HR : Aside0 (chkB 22 a c v t n o = false) := ⟨by have hlw := low_two n o; simp_all [chkB]⟩
                rw [HR.out]
                go_enter Try.func29, Try.ntmps29
                go_wp2_with (first | (go_at_call 49; refine (within_c _ _ _ _).mono ?_; rintro e w' ⟨rfl, rfl⟩) | (go_at_call 50; refine (span_c _ _ _).mono ?_; rintro e w' ⟨rfl, rfl⟩) | (go_at_call 51; refine (some_c A cc v _ _ _ _ ?hv).mono ?_; (case hv => (with_reducible repeat (first | refine Kd.C_alloc ?_ _ | refine Kd.C_drewN ?_ _ | refine Kd.C_drew ?_)); exact HV.out); rintro e w' ⟨rfl, rfl⟩) | (go_at_call 52; refine (all_c _ _ [n, o] _ _ ?hv).mono ?_; (case hv => exact row_C (xs := [n, o]) (new_blk (by simp)) (by simp)); rintro e w' ⟨rfl, rfl⟩))
                go_ret
                exact ⟨rfl, by repeat (first | exact Below.refl _ _ | apply below_alloc)⟩
            · have z5 : spB a 1 = false := by simpa using hz5
              clear hz5
              have HR : Aside0 (chkB 22 a c v t n o = false) := ⟨by have hlw := low_two n o; simp_all [chkB]⟩
              rw [HR.out]
              go_enter Try.func29, Try.ntmps29
              go_wp2_with (first | (go_at_call 49; refine (within_c _ _ _ _).mono ?_; rintro e w' ⟨rfl, rfl⟩) | (go_at_call 50; refine (span_c _ _ _).mono ?_; rintro e w' ⟨rfl, rfl⟩) | (go_at_call 51; refine (some_c A cc v _ _ _ _ ?hv).mono ?_; (case hv => (with_reducible repeat (first | refine Kd.C_alloc ?_ _ | refine Kd.C_drewN ?_ _ | refine Kd.C_drew ?_)); exact HV.out); rintro e w' ⟨rfl, rfl⟩) | (go_at_call 52; refine (all_c _ _ [n, o] _ _ ?hv).mono ?_; (case hv => exact row_C (xs := [n, o]) (new_blk (by simp)) (by simp)); rintro e w' ⟨rfl, rfl⟩))
              go_ret
              exact ⟨rfl, by repeat (first | exact Below.refl _ _ | apply below_alloc)⟩
          · have z4 : (c == 0) = false := by simpa using hz4
            clear hz4
            have HR : Aside0 (chkB 22 a c v t n o = false) := ⟨by have hlw := low_two n o; simp_all [chkB]⟩
            rw [HR.out]
            go_enter Try.func29, Try.ntmps29
            go_wp2_with (first | (go_at_call 49; refine (within_c _ _ _ _).mono ?_; rintro e w' ⟨rfl, rfl⟩) | (go_at_call 50; refine (span_c _ _ _).mono ?_; rintro e w' ⟨rfl, rfl⟩) | (go_at_call 51; refine (some_c A cc v _ _ _ _ ?hv).mono ?_; (case hv => (with_reducible repeat (first | refine Kd.C_alloc ?_ _ | refine Kd.C_drewN ?_ _ | refine Kd.C_drew ?_)); exact HV.out); rintro e w' ⟨rfl, rfl⟩) | (go_at_call 52; refine (all_c _ _ [n, o] _ _ ?hv).mono ?_; (case hv => exact row_C (xs := [n, o]) (new_blk (by simp)) (by simp)); rintro e w' ⟨rfl, rfl⟩))
            go_ret
            exact ⟨rfl, by repeat (first | exact Below.refl _ _ | apply below_alloc)⟩
        · have z3 : ((v.length : Int) == 0) = false := by simpa using hz3
          clear hz3
          have HR : Aside0 (chkB 22 a c v t n o = false) := ⟨by have hlw := low_two n o; simp_all [chkB]⟩
          rw [HR.out]
          go_enter Try.func29, Try.ntmps29
          go_wp2_with (first | (go_at_call 49; refine (within_c _ _ _ _).mono ?_; rintro e w' ⟨rfl, rfl⟩) | (go_at_call 50; refine (span_c _ _ _).mono ?_; rintro e w' ⟨rfl, rfl⟩) | (go_at_call 51; refine (some_c A cc v _ _ _ _ ?hv).mono ?_; (case hv => (with_reducible repeat (first | refine Kd.C_alloc ?_ _ | refine Kd.C_drewN ?_ _ | refine Kd.C_drew ?_)); exact HV.out); rintro e w' ⟨rfl, rfl⟩) | (go_at_call 52; refine (all_c _ _ [n, o] _ _ ?hv).mono ?_; (case hv => exact row_C (xs := [n, o]) (new_blk (by simp)) (by simp)); rintro e w' ⟨rfl, rfl⟩))
          go_ret
          exact ⟨rfl, by repeat (first | exact Below.refl _ _ | apply below_alloc)⟩
    · have z1 : (n == 0) = false := by simpa using hz1
      clear hz1
      by_cases hz2 : ((v.length : Int) == 0) = true
      · have z2 : ((v.length : Int) == 0) = true := hz2; clear hz2
        by_cases hz3 : (c == 0) = true
        · have z3 : (c == 0) = true := hz3; clear hz3
          by_cases hz4 : spB a 1 = true
          · have z4 : spB a 1 = true := hz4; clear hz4
            by_cases hz5 : lowB 65535 [n, o] = true
            · have z5 : lowB 65535 [n, o] = true := hz5; clear hz5
              have HR : Aside0 (chkB 22 a c v t n o = true) := ⟨by have hlw := low_two n o; simp_all [chkB]⟩
              rw [HR.out]
              go_enter Try.func29, Try.ntmps29
              go_wp2_with (first | (go_at_call 49; refine (within_c _ _ _ _).mono ?_; rintro e w' ⟨rfl, rfl⟩) | (go_at_call 50; refine (span_c _ _ _).mono ?_; rintro e w' ⟨rfl, rfl⟩) | (go_at_call 51; refine (some_c A cc v _ _ _ _ ?hv).mono ?_; (case hv => (with_reducible repeat (first | refine Kd.C_alloc ?_ _ | refine Kd.C_drewN ?_ _ | refine Kd.C_drew ?_)); exact HV.out); rintro e w' ⟨rfl, rfl⟩) | (go_at_call 52; refine (all_c _ _ [n, o] _ _ ?hv).mono ?_; (case hv => exact row_C (xs := [n, o]) (new_blk (by simp)) (by simp)); rintro e w' ⟨rfl, rfl⟩))
              go_ret
              exact ⟨rfl, by repeat (first | exact Below.refl _ _ | apply below_alloc)⟩
            · have z5 : lowB 65535 [n, o] = false := by simpa using hz5
              clear hz5
              have HR : Aside0 (chkB 22 a c v t n o = false) := ⟨by have hlw := low_two n o; simp_all [chkB]⟩
              rw [HR.out]
              go_enter Try.func29, Try.ntmps29
              go_wp2_with (first | (go_at_call 49; refine (within_c _ _ _ _).mono ?_; rintro e w' ⟨rfl, rfl⟩) | (go_at_call 50; refine (span_c _ _ _).mono ?_; rintro e w' ⟨rfl, rfl⟩) | (go_at_call 51; refine (some_c A cc v _ _ _ _ ?hv).mono ?_; (case hv => (with_reducible repeat (first | refine Kd.C_alloc ?_ _ | refine Kd.C_drewN ?_ _ | refine Kd.C_drew ?_)); exact HV.out); rintro e w' ⟨rfl, rfl⟩) | (go_at_call 52; refine (all_c _ _ [n, o] _ _ ?hv).mono ?_; (case hv => exact row_C (xs := [n, o]) (new_blk (by simp)) (by simp)); rintro e w' ⟨rfl, rfl⟩))
              go_ret
              exact ⟨rfl, by repeat (first | exact Below.refl _ _ | apply below_alloc)⟩
          · have z4 : spB a 1 = false := by simpa using hz4
            clear hz4
            have HR : Aside0 (chkB 22 a c v t n o = false) := ⟨by have hlw := low_two n o; simp_all [chkB]⟩
            rw [HR.out]
            go_enter Try.func29, Try.ntmps29
            go_wp2_with (first | (go_at_call 49; refine (within_c _ _ _ _).mono ?_; rintro e w' ⟨rfl, rfl⟩) | (go_at_call 50; refine (span_c _ _ _).mono ?_; rintro e w' ⟨rfl, rfl⟩) | (go_at_call 51; refine (some_c A cc v _ _ _ _ ?hv).mono ?_; (case hv => (with_reducible repeat (first | refine Kd.C_alloc ?_ _ | refine Kd.C_drewN ?_ _ | refine Kd.C_drew ?_)); exact HV.out); rintro e w' ⟨rfl, rfl⟩) | (go_at_call 52; refine (all_c _ _ [n, o] _ _ ?hv).mono ?_; (case hv => exact row_C (xs := [n, o]) (new_blk (by simp)) (by simp)); rintro e w' ⟨rfl, rfl⟩))
            go_ret
            exact ⟨rfl, by repeat (first | exact Below.refl _ _ | apply below_alloc)⟩
        · have z3 : (c == 0) = false := by simpa using hz3
          clear hz3
          have HR : Aside0 (chkB 22 a c v t n o = false) := ⟨by have hlw := low_two n o; simp_all [chkB]⟩
          rw [HR.out]
          go_enter Try.func29, Try.ntmps29
          go_wp2_with (first | (go_at_call 49; refine (within_c _ _ _ _).mono ?_; rintro e w' ⟨rfl, rfl⟩) | (go_at_call 50; refine (span_c _ _ _).mono ?_; rintro e w' ⟨rfl, rfl⟩) | (go_at_call 51; refine (some_c A cc v _ _ _ _ ?hv).mono ?_; (case hv => (with_reducible repeat (first | refine Kd.C_alloc ?_ _ | refine Kd.C_drewN ?_ _ | refine Kd.C_drew ?_)); exact HV.out); rintro e w' ⟨rfl, rfl⟩) | (go_at_call 52; refine (all_c _ _ [n, o] _ _ ?hv).mono ?_; (case hv => exact row_C (xs := [n, o]) (new_blk (by simp)) (by simp)); rintro e w' ⟨rfl, rfl⟩))
          go_ret
          exact ⟨rfl, by repeat (first | exact Below.refl _ _ | apply below_alloc)⟩
      · have z2 : ((v.length : Int) == 0) = false := by simpa using hz2
        clear hz2
        have HR : Aside0 (chkB 22 a c v t n o = false) := ⟨by have hlw := low_two n o; simp_all [chkB]⟩
        rw [HR.out]
        go_enter Try.func29, Try.ntmps29
        go_wp2_with (first | (go_at_call 49; refine (within_c _ _ _ _).mono ?_; rintro e w' ⟨rfl, rfl⟩) | (go_at_call 50; refine (span_c _ _ _).mono ?_; rintro e w' ⟨rfl, rfl⟩) | (go_at_call 51; refine (some_c A cc v _ _ _ _ ?hv).mono ?_; (case hv => (with_reducible repeat (first | refine Kd.C_alloc ?_ _ | refine Kd.C_drewN ?_ _ | refine Kd.C_drew ?_)); exact HV.out); rintro e w' ⟨rfl, rfl⟩) | (go_at_call 52; refine (all_c _ _ [n, o] _ _ ?hv).mono ?_; (case hv => exact row_C (xs := [n, o]) (new_blk (by simp)) (by simp)); rintro e w' ⟨rfl, rfl⟩))
        go_ret
        exact ⟨rfl, by repeat (first | exact Below.refl _ _ | apply below_alloc)⟩
  · have z0 : (t == 0) = false := by simpa using hz0
    clear hz0
    by_cases hz1 : ((v.length : Int) == 0) = true
    · have z1 : ((v.length : Int) == 0) = true := hz1; clear hz1
      have HR : Aside0 (chkB 22 a c v t n o = false) := ⟨by have hlw := low_two n o; simp_all [chkB]⟩
      rw [HR.out]
      go_enter Try.func29, Try.ntmps29
      go_wp2_with (first | (go_at_call 49; refine (within_c _ _ _ _).mono ?_; rintro e w' ⟨rfl, rfl⟩) | (go_at_call 50; refine (span_c _ _ _).mono ?_; rintro e w' ⟨rfl, rfl⟩) | (go_at_call 51; refine (some_c A cc v _ _ _ _ ?hv).mono ?_; (case hv => (with_reducible repeat (first | refine Kd.C_alloc ?_ _ | refine Kd.C_drewN ?_ _ | refine Kd.C_drew ?_)); exact HV.out); rintro e w' ⟨rfl, rfl⟩) | (go_at_call 52; refine (all_c _ _ [n, o] _ _ ?hv).mono ?_; (case hv => exact row_C (xs := [n, o]) (new_blk (by simp)) (by simp)); rintro e w' ⟨rfl, rfl⟩))
      go_ret
      exact ⟨rfl, by repeat (first | exact Below.refl _ _ | apply below_alloc)⟩
    · have z1 : ((v.length : Int) == 0) = false := by simpa using hz1
      clear hz1
      have HR : Aside0 (chkB 22 a c v t n o = false) := ⟨by have hlw := low_two n o; simp_all [chkB]⟩
      rw [HR.out]
      go_enter Try.func29, Try.ntmps29
      go_wp2_with (first | (go_at_call 49; refine (within_c _ _ _ _).mono ?_; rintro e w' ⟨rfl, rfl⟩) | (go_at_call 50; refine (span_c _ _ _).mono ?_; rintro e w' ⟨rfl, rfl⟩) | (go_at_call 51; refine (some_c A cc v _ _ _ _ ?hv).mono ?_; (case hv => (with_reducible repeat (first | refine Kd.C_alloc ?_ _ | refine Kd.C_drewN ?_ _ | refine Kd.C_drew ?_)); exact HV.out); rintro e w' ⟨rfl, rfl⟩) | (go_at_call 52; refine (all_c _ _ [n, o] _ _ ?hv).mono ?_; (case hv => exact row_C (xs := [n, o]) (new_blk (by simp)) (by simp)); rintro e w' ⟨rfl, rfl⟩))
      go_ret
      exact ⟨rfl, by repeat (first | exact Below.refl _ _ | apply below_alloc)⟩
end Go.Proofs.Ytocicifgglkaeaa.Chk
end

section
namespace Go.Proofs.Ytocicifgglkaeaa.Chk
open Go.RowKit Go.Proofs.YtocicifgglkaeaaW.PrintWords Go.Proofs.YtocicifgglkaeaaW.PrintLast Go.Proofs.YtocicifgglkaeaaW.PrintMore Go.Proofs.Ytocicifgglkaeaa.Core Go.Proofs.Ytocicifgglkaeaa.Wk
set_option linter.unusedVariables false
set_option linter.unusedSimpArgs false
set_option maxHeartbeats 4000000 in
set_option maxRecDepth 100000 in
theorem chk_23 (a c : Int) (A : Option Addr) (cc : Nat) (v : List Int) (t n o : Int) (w : World) (hV : Kd.C (Kd.int .i64) w A v.length v) : Calls Try.prog 29 #[.agg #[.int .i64 23, .int .i64 a, .int .i64 c, .slice A v.length cc, .int .i64 t, .int .i64 n, .int .i64 o]] w fun e w' => e = .returned (.int .i64 (if chkB 23 a c v t n o then 0 else 1)) ∧ Below w.heap.size w w' := by
  have HV := Aside0.mk hV; clear hV
  by_cases hz0 : (t == 0) = true
  · have z0 : (t == 0) = true := hz0; clear hz0
    by_cases hz1 : (n == 0) = true
    · have z1 : (n == 0) = true := hz1; clear hz1
      by_cases hz2 : (o == 0) = true
      · have z2 : (o == 0) = true := hz2; clear hz2
        by_cases hz3 : wB 1 125 c = true
        · have z3 : wB 1 125 c = true := hz3; clear hz3
          by_cases hz4 : spB a c = true
          · have z4 : spB a c = true := hz4; clear hz4
            by_cases hz5 : smB 1 121 65535 v = true
            · have z5 : smB 1 121 65535 v = true := hz5; clear hz5; have pz5 := smB_len z5
              by_cases hz6 : spB t v.length = true
              · have z6 : spB t v.length = true := hz6; clear hz6
                have HR : Aside0 (chkB 23 a c v t n o = true) := ⟨by simp [chkB, z0, z1, z2, z3, z4, z5, z6]⟩
                rw [HR.out]
                go_enter Try.func29, Try.ntmps29
                go_wp2_with (first | (go_at_call 49; refine (within_c _ _ _ _).mono ?_; rintro e w' ⟨rfl, rfl⟩) | (go_at_call 50; refine (span_c _ _ _).mono ?_; rintro e w' ⟨rfl, rfl⟩) | (go_at_call 51; refine (some_c A cc v _ _ _ _ ?hv).mono ?_; (case hv => (with_reducible repeat (first | refine Kd.C_alloc ?_ _ | refine Kd.C_drewN ?_ _ | refine Kd.C_drew ?_)); exact HV.out); rintro e w' ⟨rfl, rfl⟩) | (go_at_call 52; refine (all_c _ _ [n, o] _ _ ?hv).mono ?_; (case hv => exact row_C (xs := [n, o]) (new_blk (by simp)) (by simp)); rintro e w' ⟨rfl, rfl⟩))
                go_ret
                exact ⟨rfl, by repeat (first | exact Below.refl _ _ | apply below_alloc)⟩
              · have z6 : spB t v.length = false := by simpa using hz6
                clear hz6
                have HR : Aside0 (chkB 23 a c v t n o = false) := ⟨by simp [chkB, z0, z1, z2, z3, z4, z5, z6]⟩
                rw [HR.out]
                go_enter Try.func29, Try.ntmps29
                go_wp2_with (first | (go_at_call 49; refine (within_c _ _ _ _).mono ?_; rintro e w' ⟨rfl, rfl⟩) | (go_at_call 50; refine (span_c _ _ _).mono ?_; rintro e w' ⟨rfl, rfl⟩) | (go_at_call 51; refine (some_c A cc v _ _ _ _ ?hv).mono ?_; (case hv => (with_reducible repeat (first | refine Kd.C_alloc ?_ _ | refine Kd.C_drewN ?_ _ | refine Kd.C_drew ?_)); exact HV.out); rintro e w' ⟨rfl, rfl⟩) | (go_at_call 52; refine (all_c _ _ [n, o] _ _ ?hv).mono ?_; (case hv => exact row_C (xs := [n, o]) (new_blk (by simp)) (by simp)); rintro e w' ⟨rfl, rfl⟩))
                go_ret
                exact ⟨rfl, by repeat (first | exact Below.refl _ _ | apply below_alloc)⟩
            · have z5 : smB 1 121 65535 v = false := by simpa using hz5
              clear hz5
              have HR : Aside0 (chkB 23 a c v t n o = false) := ⟨by simp [chkB, z0, z1, z2, z3, z4, z5]⟩
              rw [HR.out]
              go_enter Try.func29, Try.ntmps29
              go_wp2_with (first | (go_at_call 49; refine (within_c _ _ _ _).mono ?_; rintro e w' ⟨rfl, rfl⟩) | (go_at_call 50; refine (span_c _ _ _).mono ?_; rintro e w' ⟨rfl, rfl⟩) | (go_at_call 51; refine (some_c A cc v _ _ _ _ ?hv).mono ?_; (case hv => (with_reducible repeat (first | refine Kd.C_alloc ?_ _ | refine Kd.C_drewN ?_ _ | refine Kd.C_drew ?_)); exact HV.out); rintro e w' ⟨rfl, rfl⟩) | (go_at_call 52; refine (all_c _ _ [n, o] _ _ ?hv).mono ?_; (case hv => exact row_C (xs := [n, o]) (new_blk (by simp)) (by simp)); rintro e w' ⟨rfl, rfl⟩))
              go_ret
              exact ⟨rfl, by repeat (first | exact Below.refl _ _ | apply below_alloc)⟩
          · have z4 : spB a c = false := by simpa using hz4
            clear hz4
            have HR : Aside0 (chkB 23 a c v t n o = false) := ⟨by simp [chkB, z0, z1, z2, z3, z4]⟩
            rw [HR.out]
            go_enter Try.func29, Try.ntmps29
            go_wp2_with (first | (go_at_call 49; refine (within_c _ _ _ _).mono ?_; rintro e w' ⟨rfl, rfl⟩) | (go_at_call 50; refine (span_c _ _ _).mono ?_; rintro e w' ⟨rfl, rfl⟩) | (go_at_call 51; refine (some_c A cc v _ _ _ _ ?hv).mono ?_; (case hv => (with_reducible repeat (first | refine Kd.C_alloc ?_ _ | refine Kd.C_drewN ?_ _ | refine Kd.C_drew ?_)); exact HV.out); rintro e w' ⟨rfl, rfl⟩) | (go_at_call 52; refine (all_c _ _ [n, o] _ _ ?hv).mono ?_; (case hv => exact row_C (xs := [n, o]) (new_blk (by simp)) (by simp)); rintro e w' ⟨rfl, rfl⟩))
            go_ret
            exact ⟨rfl, by repeat (first | exact Below.refl _ _ | apply below_alloc)⟩
        · have z3 : wB 1 125 c = false := by simpa using hz3
          clear hz3
          have HR : Aside0 (chkB 23 a c v t n o = false) := ⟨by simp [chkB, z0, z1, z2, z3]⟩
          rw [HR.out]
          go_enter Try.func29, Try.ntmps29
          go_wp2_with (first | (go_at_call 49; refine (within_c _ _ _ _).mono ?_; rintro e w' ⟨rfl, rfl⟩) | (go_at_call 50; refine (span_c _ _ _).mono ?_; rintro e w' ⟨rfl, rfl⟩) | (go_at_call 51; refine (some_c A cc v _ _ _ _ ?hv).mono ?_; (case hv => (with_reducible repeat (first | refine Kd.C_alloc ?_ _ | refine Kd.C_drewN ?_ _ | refine Kd.C_drew ?_)); exact HV.out); rintro e w' ⟨rfl, rfl⟩) | (go_at_call 52; refine (all_c _ _ [n, o] _ _ ?hv).mono ?_; (case hv => exact row_C (xs := [n, o]) (new_blk (by simp)) (by simp)); rintro e w' ⟨rfl, rfl⟩))
          go_ret
          exact ⟨rfl, by repeat (first | exact Below.refl _ _ | apply below_alloc)⟩
      · have z2 : (o == 0) = false := by simpa using hz2
        clear hz2
        have HR : Aside0 (chkB 23 a c v t n o = false) := ⟨by simp [chkB, z0, z1, z2]⟩
        rw [HR.out]
        go_enter Try.func29, Try.ntmps29
        go_wp2_with (first | (go_at_call 49; refine (within_c _ _ _ _).mono ?_; rintro e w' ⟨rfl, rfl⟩) | (go_at_call 50; refine (span_c _ _ _).mono ?_; rintro e w' ⟨rfl, rfl⟩) | (go_at_call 51; refine (some_c A cc v _ _ _ _ ?hv).mono ?_; (case hv => (with_reducible repeat (first | refine Kd.C_alloc ?_ _ | refine Kd.C_drewN ?_ _ | refine Kd.C_drew ?_)); exact HV.out); rintro e w' ⟨rfl, rfl⟩) | (go_at_call 52; refine (all_c _ _ [n, o] _ _ ?hv).mono ?_; (case hv => exact row_C (xs := [n, o]) (new_blk (by simp)) (by simp)); rintro e w' ⟨rfl, rfl⟩))
        go_ret
        exact ⟨rfl, by repeat (first | exact Below.refl _ _ | apply below_alloc)⟩
    · have z1 : (n == 0) = false := by simpa using hz1
      clear hz1
      have HR : Aside0 (chkB 23 a c v t n o = false) := ⟨by simp [chkB, z0, z1]⟩
      rw [HR.out]
      go_enter Try.func29, Try.ntmps29
      go_wp2_with (first | (go_at_call 49; refine (within_c _ _ _ _).mono ?_; rintro e w' ⟨rfl, rfl⟩) | (go_at_call 50; refine (span_c _ _ _).mono ?_; rintro e w' ⟨rfl, rfl⟩) | (go_at_call 51; refine (some_c A cc v _ _ _ _ ?hv).mono ?_; (case hv => (with_reducible repeat (first | refine Kd.C_alloc ?_ _ | refine Kd.C_drewN ?_ _ | refine Kd.C_drew ?_)); exact HV.out); rintro e w' ⟨rfl, rfl⟩) | (go_at_call 52; refine (all_c _ _ [n, o] _ _ ?hv).mono ?_; (case hv => exact row_C (xs := [n, o]) (new_blk (by simp)) (by simp)); rintro e w' ⟨rfl, rfl⟩))
      go_ret
      exact ⟨rfl, by repeat (first | exact Below.refl _ _ | apply below_alloc)⟩
  · have z0 : (t == 0) = false := by simpa using hz0
    clear hz0
    by_cases hz1 : (n == 0) = true
    · have z1 : (n == 0) = true := hz1; clear hz1
      by_cases hz2 : (o == 0) = true
      · have z2 : (o == 0) = true := hz2; clear hz2
        by_cases hz3 : wB 1 125 c = true
        · have z3 : wB 1 125 c = true := hz3; clear hz3
          by_cases hz4 : spB a c = true
          · have z4 : spB a c = true := hz4; clear hz4
            by_cases hz5 : smB 1 121 65535 v = true
            · have z5 : smB 1 121 65535 v = true := hz5; clear hz5; have pz5 := smB_len z5
              by_cases hz6 : spB t v.length = true
              · have z6 : spB t v.length = true := hz6; clear hz6
                have HR : Aside0 (chkB 23 a c v t n o = true) := ⟨by simp [chkB, z0, z1, z2, z3, z4, z5, z6]⟩
                rw [HR.out]
                go_enter Try.func29, Try.ntmps29
                go_wp2_with (first | (go_at_call 49; refine (within_c _ _ _ _).mono ?_; rintro e w' ⟨rfl, rfl⟩) | (go_at_call 50; refine (span_c _ _ _).mono ?_; rintro e w' ⟨rfl, rfl⟩) | (go_at_call 51; refine (some_c A cc v _ _ _ _ ?hv).mono ?_; (case hv => (with_reducible repeat (first | refine Kd.C_alloc ?_ _ | refine Kd.C_drewN ?_ _ | refine Kd.C_drew ?_)); exact HV.out); rintro e w' ⟨rfl, rfl⟩) | (go_at_call 52; refine (all_c _ _ [n, o] _ _ ?hv).mono ?_; (case hv => exact row_C (xs := [n, o]) (new_blk (by simp)) (by simp)); rintro e w' ⟨rfl, rfl⟩))
                go_ret
                exact ⟨rfl, by repeat (first | exact Below.refl _ _ | apply below_alloc)⟩
              · have z6 : spB t v.length = false := by simpa using hz6
                clear hz6
                have HR : Aside0 (chkB 23 a c v t n o = false) := ⟨by simp [chkB, z0, z1, z2, z3, z4, z5, z6]⟩
                rw [HR.out]
                go_enter Try.func29, Try.ntmps29
                go_wp2_with (first | (go_at_call 49; refine (within_c _ _ _ _).mono ?_; rintro e w' ⟨rfl, rfl⟩) | (go_at_call 50; refine (span_c _ _ _).mono ?_; rintro e w' ⟨rfl, rfl⟩) | (go_at_call 51; refine (some_c A cc v _ _ _ _ ?hv).mono ?_; (case hv => (with_reducible repeat (first | refine Kd.C_alloc ?_ _ | refine Kd.C_drewN ?_ _ | refine Kd.C_drew ?_)); exact HV.out); rintro e w' ⟨rfl, rfl⟩) | (go_at_call 52; refine (all_c _ _ [n, o] _ _ ?hv).mono ?_; (case hv => exact row_C (xs := [n, o]) (new_blk (by simp)) (by simp)); rintro e w' ⟨rfl, rfl⟩))
                go_ret
                exact ⟨rfl, by repeat (first | exact Below.refl _ _ | apply below_alloc)⟩
            · have z5 : smB 1 121 65535 v = false := by simpa using hz5
              clear hz5
              have HR : Aside0 (chkB 23 a c v t n o = false) := ⟨by simp [chkB, z0, z1, z2, z3, z4, z5]⟩
              rw [HR.out]
              go_enter Try.func29, Try.ntmps29
              go_wp2_with (first | (go_at_call 49; refine (within_c _ _ _ _).mono ?_; rintro e w' ⟨rfl, rfl⟩) | (go_at_call 50; refine (span_c _ _ _).mono ?_; rintro e w' ⟨rfl, rfl⟩) | (go_at_call 51; refine (some_c A cc v _ _ _ _ ?hv).mono ?_; (case hv => (with_reducible repeat (first | refine Kd.C_alloc ?_ _ | refine Kd.C_drewN ?_ _ | refine Kd.C_drew ?_)); exact HV.out); rintro e w' ⟨rfl, rfl⟩) | (go_at_call 52; refine (all_c _ _ [n, o] _ _ ?hv).mono ?_; (case hv => exact row_C (xs := [n, o]) (new_blk (by simp)) (by simp)); rintro e w' ⟨rfl, rfl⟩))
              go_ret
              exact ⟨rfl, by repeat (first | exact Below.refl _ _ | apply below_alloc)⟩
          · have z4 : spB a c = false := by simpa using hz4
            clear hz4
            have HR : Aside0 (chkB 23 a c v t n o = false) := ⟨by simp [chkB, z0, z1, z2, z3, z4]⟩
            rw [HR.out]
            go_enter Try.func29, Try.ntmps29
            go_wp2_with (first | (go_at_call 49; refine (within_c _ _ _ _).mono ?_; rintro e w' ⟨rfl, rfl⟩) | (go_at_call 50; refine (span_c _ _ _).mono ?_; rintro e w' ⟨rfl, rfl⟩) | (go_at_call 51; refine (some_c A cc v _ _ _ _ ?hv).mono ?_; (case hv => (with_reducible repeat (first | refine Kd.C_alloc ?_ _ | refine Kd.C_drewN ?_ _ | refine Kd.C_drew ?_)); exact HV.out); rintro e w' ⟨rfl, rfl⟩) | (go_at_call 52; refine (all_c _ _ [n, o] _ _ ?hv).mono ?_; (case hv => exact row_C (xs := [n, o]) (new_blk (by simp)) (by simp)); rintro e w' ⟨rfl, rfl⟩))
            go_ret
            exact ⟨rfl, by repeat (first | exact Below.refl _ _ | apply below_alloc)⟩
        · have z3 : wB 1 125 c = false := by simpa using hz3
          clear hz3
          have HR : Aside0 (chkB 23 a c v t n o = false) := ⟨by simp [chkB, z0, z1, z2, z3]⟩
          rw [HR.out]
          go_enter Try.func29, Try.ntmps29
          go_wp2_with (first | (go_at_call 49; refine (within_c _ _ _ _).mono ?_; rintro e w' ⟨rfl, rfl⟩) | (go_at_call 50; refine (span_c _ _ _).mono ?_; rintro e w' ⟨rfl, rfl⟩) | (go_at_call 51; refine (some_c A cc v _ _ _ _ ?hv).mono ?_; (case hv => (with_reducible repeat (first | refine Kd.C_alloc ?_ _ | refine Kd.C_drewN ?_ _ | refine Kd.C_drew ?_)); exact HV.out); rintro e w' ⟨rfl, rfl⟩) | (go_at_call 52; refine (all_c _ _ [n, o] _ _ ?hv).mono ?_; (case hv => exact row_C (xs := [n, o]) (new_blk (by simp)) (by simp)); rintro e w' ⟨rfl, rfl⟩))
          go_ret
          exact ⟨rfl, by repeat (first | exact Below.refl _ _ | apply below_alloc)⟩
      · have z2 : (o == 0) = false := by simpa using hz2
        clear hz2
        have HR : Aside0 (chkB 23 a c v t n o = false) := ⟨by simp [chkB, z0, z1, z2]⟩
        rw [HR.out]
        go_enter Try.func29, Try.ntmps29
        go_wp2_with (first | (go_at_call 49; refine (within_c _ _ _ _).mono ?_; rintro e w' ⟨rfl, rfl⟩) | (go_at_call 50; refine (span_c _ _ _).mono ?_; rintro e w' ⟨rfl, rfl⟩) | (go_at_call 51; refine (some_c A cc v _ _ _ _ ?hv).mono ?_; (case hv => (with_reducible repeat (first | refine Kd.C_alloc ?_ _ | refine Kd.C_drewN ?_ _ | refine Kd.C_drew ?_)); exact HV.out); rintro e w' ⟨rfl, rfl⟩) | (go_at_call 52; refine (all_c _ _ [n, o] _ _ ?hv).mono ?_; (case hv => exact row_C (xs := [n, o]) (new_blk (by simp)) (by simp)); rintro e w' ⟨rfl, rfl⟩))
        go_ret
        exact ⟨rfl, by repeat (first | exact Below.refl _ _ | apply below_alloc)⟩
    · have z1 : (n == 0) = false := by simpa using hz1
      clear hz1
      have HR : Aside0 (chkB 23 a c v t n o = false) := ⟨by simp [chkB, z0, z1]⟩
      rw [HR.out]
      go_enter Try.func29, Try.ntmps29
      go_wp2_with (first | (go_at_call 49; refine (within_c _ _ _ _).mono ?_; rintro e w' ⟨rfl, rfl⟩) | (go_at_call 50; refine (span_c _ _ _).mono ?_; rintro e w' ⟨rfl, rfl⟩) | (go_at_call 51; refine (some_c A cc v _ _ _ _ ?hv).mono ?_; (case hv => (with_reducible repeat (first | refine Kd.C_alloc ?_ _ | refine Kd.C_drewN ?_ _ | refine Kd.C_drew ?_)); exact HV.out); rintro e w' ⟨rfl, rfl⟩) | (go_at_call 52; refine (all_c _ _ [n, o] _ _ ?hv).mono ?_; (case hv => exact row_C (xs := [n, o]) (new_blk (by simp)) (by simp)); rintro e w' ⟨rfl, rfl⟩))
      go_ret
      exact ⟨rfl, by repeat (first | exact Below.refl _ _ | apply below_alloc)⟩
set_option maxHeartbeats 4000000 in
set_option maxRecDepth 100000 in
theorem chk_f (f a c : Int) (A : Option Addr) (cc : Nat) (v : List Int) (t n o : Int) (w : World) (hV : Kd.C (Kd.int .i64) w A v.length v) (hf : f ≠ 1 ∧ f ≠ 2 ∧ f ≠ 3 ∧ f ≠ 4 ∧ f ≠ 5 ∧ f ≠ 6 ∧ f ≠ 15 ∧ f ≠ 16 ∧ f ≠ 22 ∧ f ≠ 23) : Calls Try.prog 29 #[.agg #[.int .i64 f, .int .i64 a, .int .i64 c, .slice A v.length cc, .int .i64 t, .int .i64 n, .int .i64 o]] w fun e w' => e = .returned (.int .i64 (if chkB f a c v t n o then 0 else 1)) ∧ Below w.heap.size w w' := by
  have HV := Aside0.mk hV; clear hV
  obtain ⟨g1, g2, g3, g4, g5, g6, g7, g8, g9, g10⟩ := hf
  have HR : Aside0 (chkB f a c v t n o = false) := ⟨by unfold chkB; rw [if_neg (by omega), if_neg (by omega), if_neg g5, if_neg g6, if_neg g7, if_neg g8, if_neg g9, if_neg g10]⟩
  have y0 : (f == 1) = false := beq_eq_false_iff_ne.2 g1
  have y1 : (f == 2) = false := beq_eq_false_iff_ne.2 g2
  have y2 : (f == 3) = false := beq_eq_false_iff_ne.2 g3
  have y3 : (f == 4) = false := beq_eq_false_iff_ne.2 g4
  have y4 : (f == 5) = false := beq_eq_false_iff_ne.2 g5
  have y5 : (f == 6) = false := beq_eq_false_iff_ne.2 g6
  have y6 : (f == 15) = false := beq_eq_false_iff_ne.2 g7
  have y7 : (f == 16) = false := beq_eq_false_iff_ne.2 g8
  have y8 : (f == 22) = false := beq_eq_false_iff_ne.2 g9
  have y9 : (f == 23) = false := beq_eq_false_iff_ne.2 g10
  clear g1 g2 g3 g4 g5 g6 g7 g8 g9 g10
  rw [HR.out]
  by_cases hz0 : (t == 0) = true
  · have z0 : (t == 0) = true := hz0; clear hz0
    by_cases hz1 : (n == 0) = true
    · have z1 : (n == 0) = true := hz1; clear hz1
      by_cases hz2 : (o == 0) = true
      · have z2 : (o == 0) = true := hz2; clear hz2
        go_enter Try.func29, Try.ntmps29
        go_wp2_with (first | (go_at_call 49; refine (within_c _ _ _ _).mono ?_; rintro e w' ⟨rfl, rfl⟩) | (go_at_call 50; refine (span_c _ _ _).mono ?_; rintro e w' ⟨rfl, rfl⟩) | (go_at_call 51; refine (some_c A cc v _ _ _ _ ?hv).mono ?_; (case hv => (with_reducible repeat (first | refine Kd.C_alloc ?_ _ | refine Kd.C_drewN ?_ _ | refine Kd.C_drew ?_)); exact HV.out); rintro e w' ⟨rfl, rfl⟩) | (go_at_call 52; refine (all_c _ _ [n, o] _ _ ?hv).mono ?_; (case hv => exact row_C (xs := [n, o]) (new_blk (by simp)) (by simp)); rintro e w' ⟨rfl, rfl⟩))
        go_ret
        exact ⟨rfl, by repeat (first | exact Below.refl _ _ | apply below_alloc)⟩
      · have z2 : (o == 0) = false := by simpa using hz2
        clear hz2
        go_enter Try.func29, Try.ntmps29
        go_wp2_with (first | (go_at_call 49; refine (within_c _ _ _ _).mono ?_; rintro e w' ⟨rfl, rfl⟩) | (go_at_call 50; refine (span_c _ _ _).mono ?_; rintro e w' ⟨rfl, rfl⟩) | (go_at_call 51; refine (some_c A cc v _ _ _ _ ?hv).mono ?_; (case hv => (with_reducible repeat (first | refine Kd.C_alloc ?_ _ | refine Kd.C_drewN ?_ _ | refine Kd.C_drew ?_)); exact HV.out); rintro e w' ⟨rfl, rfl⟩) | (go_at_call 52; refine (all_c _ _ [n, o] _ _ ?hv).mono ?_; (case hv => exact row_C (xs := [n, o]) (new_blk (by simp)) (by simp)); rintro e w' ⟨rfl, rfl⟩))
        go_ret
        exact ⟨rfl, by repeat (first | exact Below.refl _ _ | apply below_alloc)⟩
    · have z1 : (n == 0) = false := by simpa using hz1
      clear hz1
      go_enter Try.func29, Try.ntmps29
      go_wp2_with (first | (go_at_call 49; refine (within_c _ _ _ _).mono ?_; rintro e w' ⟨rfl, rfl⟩) | (go_at_call 50; refine (span_c _ _ _).mono ?_; rintro e w' ⟨rfl, rfl⟩) | (go_at_call 51; refine (some_c A cc v _ _ _ _ ?hv).mono ?_; (case hv => (with_reducible repeat (first | refine Kd.C_alloc ?_ _ | refine Kd.C_drewN ?_ _ | refine Kd.C_drew ?_)); exact HV.out); rintro e w' ⟨rfl, rfl⟩) | (go_at_call 52; refine (all_c _ _ [n, o] _ _ ?hv).mono ?_; (case hv => exact row_C (xs := [n, o]) (new_blk (by simp)) (by simp)); rintro e w' ⟨rfl, rfl⟩))
      go_ret
      exact ⟨rfl, by repeat (first | exact Below.refl _ _ | apply below_alloc)⟩
  · have z0 : (t == 0) = false := by simpa using hz0
    clear hz0
    go_enter Try.func29, Try.ntmps29
    go_wp2_with (first | (go_at_call 49; refine (within_c _ _ _ _).mono ?_; rintro e w' ⟨rfl, rfl⟩) | (go_at_call 50; refine (span_c _ _ _).mono ?_; rintro e w' ⟨rfl, rfl⟩) | (go_at_call 51; refine (some_c A cc v _ _ _ _ ?hv).mono ?_; (case hv => (with_reducible repeat (first | refine Kd.C_alloc ?_ _ | refine Kd.C_drewN ?_ _ | refine Kd.C_drew ?_)); exact HV.out); rintro e w' ⟨rfl, rfl⟩) | (go_at_call 52; refine (all_c _ _ [n, o] _ _ ?hv).mono ?_; (case hv => exact row_C (xs := [n, o]) (new_blk (by simp)) (by simp)); rintro e w' ⟨rfl, rfl⟩))
    go_ret
    exact ⟨rfl, by repeat (first | exact Below.refl _ _ | apply below_alloc)⟩
end Go.Proofs.Ytocicifgglkaeaa.Chk
end

section
namespace Go.Proofs.Ytocicifgglkaeaa.Chk
open Go.RowKit Go.Proofs.YtocicifgglkaeaaW.PrintWords Go.Proofs.YtocicifgglkaeaaW.PrintLast Go.Proofs.YtocicifgglkaeaaW.PrintMore Go.Proofs.Ytocicifgglkaeaa.Core Go.Proofs.Ytocicifgglkaeaa.Wk
set_option linter.unusedVariables false
set_option linter.unusedSimpArgs false
def bitB (f : Int) : Bool := decide (f = 1 ∨ f = 2 ∨ f = 5 ∨ f = 15)
set_option maxHeartbeats 4000000 in
set_option maxRecDepth 100000 in
theorem bit_c (f : Int) (w : World) : Calls Try.prog 27 #[.int .i64 f] w fun e w' => e = .returned (.bool (bitB f)) ∧ w = w' := by
  by_cases h0 : f = 1
  · subst h0; rw [show bitB 1 = true from by decide]
    go_enter Try.func27, Try.ntmps27
    go_wp2
    go_ret
    exact ⟨rfl, rfl⟩
  by_cases h1 : f = 2
  · subst h1; rw [show bitB 2 = true from by decide]
    go_enter Try.func27, Try.ntmps27
    go_wp2
    go_ret
    exact ⟨rfl, rfl⟩
  by_cases h2 : f = 5
  · subst h2; rw [show bitB 5 = true from by decide]
    go_enter Try.func27, Try.ntmps27
    go_wp2
    go_ret
    exact ⟨rfl, rfl⟩
  by_cases h3 : f = 15
  · subst h3; rw [show bitB 15 = true from by decide]
    go_enter Try.func27, Try.ntmps27
    go_wp2
    go_ret
    exact ⟨rfl, rfl⟩
  have hr : Aside0 (bitB f = false) := ⟨decide_eq_false (by omega)⟩
  rw [hr.out]
  have y0 : (f == 1) = false := beq_eq_false_iff_ne.2 h0
  have y1 : (f == 2) = false := beq_eq_false_iff_ne.2 h1
  have y2 : (f == 5) = false := beq_eq_false_iff_ne.2 h2
  have y3 : (f == 15) = false := beq_eq_false_iff_ne.2 h3
  clear h0 h1 h2 h3
  go_enter Try.func27, Try.ntmps27
  go_wp2
  go_ret
  exact ⟨rfl, rfl⟩
set_option maxHeartbeats 4000000 in
set_option maxRecDepth 100000 in
theorem refspan_c (a n : Int) (w : World) (h0 : -1000000 ≤ n) (h1 : n ≤ 1000000) : Calls Try.prog 43 #[.int .i64 a, .int .i64 n] w fun e w' => e = .returned (.bool (spB a n)) ∧ w = w' := by
  by_cases h2 : wB 0 65535 a = true
  · have hb := wB_iff.1 h2
    have b0 := hb.1; have b1 := hb.2
    by_cases h3 : a + n ≤ 65536
    · have t1 : decide (a + n ≤ 65536) = true := decide_eq_true h3
      have hr : Aside0 (spB a n = true) := ⟨decide_eq_true ⟨b0, b1, h3⟩⟩
      rw [hr.out]; clear h3 hb
      go_enter Try.func43, Try.ntmps43
      go_wp2_with (go_at_call 45; refine (is_c _ _).mono ?_; rintro e w' ⟨rfl, rfl⟩)
      go_ret
      exact ⟨rfl, rfl⟩
    · have t1 : decide (a + n ≤ 65536) = false := decide_eq_false h3
      have hr : Aside0 (spB a n = false) := ⟨decide_eq_false (fun a => h3 a.2.2)⟩
      rw [hr.out]; clear h3 hb
      go_enter Try.func43, Try.ntmps43
      go_wp2_with (go_at_call 45; refine (is_c _ _).mono ?_; rintro e w' ⟨rfl, rfl⟩)
      go_ret
      exact ⟨rfl, rfl⟩
  · have t0 : wB 0 65535 a = false := by simpa using h2
    have hr : Aside0 (spB a n = false) := ⟨decide_eq_false (fun a => h2 (wB_iff.2 ⟨a.1, a.2.1⟩))⟩
    rw [hr.out]; clear h2
    go_enter Try.func43, Try.ntmps43
    go_wp2_with (go_at_call 45; refine (is_c _ _).mono ?_; rintro e w' ⟨rfl, rfl⟩)
    go_ret
    exact ⟨rfl, rfl⟩
set_option maxHeartbeats 4000000 in
set_option maxRecDepth 100000 in
theorem vals_1 (f a c : Int) (A : Option Addr) (cc : Nat) (v : List Int) (t n o lo hi : Int) (w : World) (hV : Kd.C (Kd.int .i64) w A v.length v) (h : (v.length : Int) < lo) : Calls Try.prog 44 #[.agg #[.int .i64 f, .int .i64 a, .int .i64 c, .slice A v.length cc, .int .i64 t, .int .i64 n, .int .i64 o], .int .i64 lo, .int .i64 hi] w fun e w' => e = .returned (.bool (false)) ∧ Below w.heap.size w w' := by
  have HV := Aside0.mk hV; clear hV
  have t1 : decide ((v.length : Int) < lo) = true := decide_eq_true h
  clear h
  go_enter Try.func44, Try.ntmps44
  go_wp2_with (first | fail)
  go_ret
  exact ⟨rfl, by repeat (first | exact Below.refl _ _ | apply below_alloc)⟩
set_option maxHeartbeats 4000000 in
set_option maxRecDepth 100000 in
theorem vals_2 (f a c : Int) (A : Option Addr) (cc : Nat) (v : List Int) (t n o lo hi : Int) (w : World) (hV : Kd.C (Kd.int .i64) w A v.length v) (h0 : ¬ (v.length : Int) < lo) (h : hi < (v.length : Int)) : Calls Try.prog 44 #[.agg #[.int .i64 f, .int .i64 a, .int .i64 c, .slice A v.length cc, .int .i64 t, .int .i64 n, .int .i64 o], .int .i64 lo, .int .i64 hi] w fun e w' => e = .returned (.bool (false)) ∧ Below w.heap.size w w' := by
  have HV := Aside0.mk hV; clear hV
  have t1 : decide ((v.length : Int) < lo) = false := decide_eq_false h0; have t2 : decide (hi < (v.length : Int)) = true := decide_eq_true h
  clear h h0
  go_enter Try.func44, Try.ntmps44
  go_wp2_with (first | fail)
  go_ret
  exact ⟨rfl, by repeat (first | exact Below.refl _ _ | apply below_alloc)⟩
set_option maxHeartbeats 4000000 in
set_option maxRecDepth 100000 in
theorem vals_3 (f a c : Int) (A : Option Addr) (cc : Nat) (v : List Int) (t n o lo hi : Int) (w : World) (hV : Kd.C (Kd.int .i64) w A v.length v) (h0 : ¬ (v.length : Int) < lo) (h : ¬ hi < (v.length : Int)) (hbt : bitB f = true) : Calls Try.prog 44 #[.agg #[.int .i64 f, .int .i64 a, .int .i64 c, .slice A v.length cc, .int .i64 t, .int .i64 n, .int .i64 o], .int .i64 lo, .int .i64 hi] w fun e w' => e = .returned (.bool (lowB 1 v)) ∧ Below w.heap.size w w' := by
  have HV := Aside0.mk hV; clear hV
  have t1 : decide ((v.length : Int) < lo) = false := decide_eq_false h0; have t2 : decide (hi < (v.length : Int)) = false := decide_eq_false h; have HBT := Aside0.mk hbt
  clear h h0 hbt
  go_enter Try.func44, Try.ntmps44
  go_wp2_with (first | (go_at_call 27; refine (bit_c _ _).mono ?_; rw [HBT.out]; rintro e w' ⟨rfl, rfl⟩) | (go_at_call 67; refine (bits_c A cc v _ ?hv).mono ?_; (case hv => (with_reducible repeat (first | refine Kd.C_alloc ?_ _ | refine Kd.C_drewN ?_ _ | refine Kd.C_drew ?_)); exact HV.out); rintro e w' ⟨rfl, rfl⟩))
  go_ret
  exact ⟨rfl, by repeat (first | exact Below.refl _ _ | apply below_alloc)⟩
set_option maxHeartbeats 4000000 in
set_option maxRecDepth 100000 in
theorem vals_4 (f a c : Int) (A : Option Addr) (cc : Nat) (v : List Int) (t n o lo hi : Int) (w : World) (hV : Kd.C (Kd.int .i64) w A v.length v) (h0 : ¬ (v.length : Int) < lo) (h : ¬ hi < (v.length : Int)) (hbt : bitB f = false) : Calls Try.prog 44 #[.agg #[.int .i64 f, .int .i64 a, .int .i64 c, .slice A v.length cc, .int .i64 t, .int .i64 n, .int .i64 o], .int .i64 lo, .int .i64 hi] w fun e w' => e = .returned (.bool (lowB 65535 v)) ∧ Below w.heap.size w w' := by
  have HV := Aside0.mk hV; clear hV
  have t1 : decide ((v.length : Int) < lo) = false := decide_eq_false h0; have t2 : decide (hi < (v.length : Int)) = false := decide_eq_false h; have HBT := Aside0.mk hbt
  clear h h0 hbt
  go_enter Try.func44, Try.ntmps44
  go_wp2_with (first | (go_at_call 27; refine (bit_c _ _).mono ?_; rw [HBT.out]; rintro e w' ⟨rfl, rfl⟩) | (go_at_call 68; refine (words_c A cc v _ ?hv).mono ?_; (case hv => (with_reducible repeat (first | refine Kd.C_alloc ?_ _ | refine Kd.C_drewN ?_ _ | refine Kd.C_drew ?_)); exact HV.out); rintro e w' ⟨rfl, rfl⟩))
  go_ret
  exact ⟨rfl, by repeat (first | exact Below.refl _ _ | apply below_alloc)⟩
theorem vals_c (f a c : Int) (A : Option Addr) (cc : Nat) (v : List Int) (t n o lo hi : Int) (w : World) (hV : Kd.C (Kd.int .i64) w A v.length v) {m : Int} (hm : (if bitB f = true then 1 else 65535) = m) : Calls Try.prog 44 #[.agg #[.int .i64 f, .int .i64 a, .int .i64 c, .slice A v.length cc, .int .i64 t, .int .i64 n, .int .i64 o], .int .i64 lo, .int .i64 hi] w fun e w' => e = .returned (.bool (smB lo hi m v)) ∧ Below w.heap.size w w' := by
  unfold smB
  by_cases h0 : (v.length : Int) < lo
  · rw [wB_no (fun a => by omega), Bool.false_and]; exact vals_1 f a c A cc v t n o lo hi w hV h0
  by_cases h1 : hi < (v.length : Int)
  · rw [wB_no (fun a => by omega), Bool.false_and]; exact vals_2 f a c A cc v t n o lo hi w hV h0 h1
  rw [wB_yes (by omega) (by omega), Bool.true_and]
  cases hb : bitB f with
  | true => rw [hb, if_pos rfl] at hm; subst hm; exact vals_3 f a c A cc v t n o lo hi w hV h0 h1 hb
  | false => rw [hb, if_neg (by simp)] at hm; subst hm; exact vals_4 f a c A cc v t n o lo hi w hV h0 h1 hb
theorem cells7 {w : World} {g : Nat} {v0 v1 v2 v3 v4 v5 v6 : Value} {T : TypeId} (h : w.heap[g]? = some (.cells #[v0, v1, v2, v3, v4, v5, v6] T (0, 0))) : w.cell? ⟨g, 0, none⟩ = some v0 ∧ w.cell? ⟨g, 1, none⟩ = some v1 ∧ w.cell? ⟨g, 2, none⟩ = some v2 ∧ w.cell? ⟨g, 3, none⟩ = some v3 ∧ w.cell? ⟨g, 4, none⟩ = some v4 ∧ w.cell? ⟨g, 5, none⟩ = some v5 ∧ w.cell? ⟨g, 6, none⟩ = some v6 :=
  ⟨(blk_cell h 0).trans rfl, (blk_cell h 1).trans rfl, (blk_cell h 2).trans rfl, (blk_cell h 3).trans rfl, (blk_cell h 4).trans rfl, (blk_cell h 5).trans rfl, (blk_cell h 6).trans rfl⟩
end Go.Proofs.Ytocicifgglkaeaa.Chk
end

section
namespace Go.Proofs.Ytocicifgglkaeaa.Chk
open Go.RowKit Go.Proofs.YtocicifgglkaeaaW.PrintWords Go.Proofs.YtocicifgglkaeaaW.PrintLast Go.Proofs.YtocicifgglkaeaaW.PrintMore Go.Proofs.Ytocicifgglkaeaa.Core Go.Proofs.Ytocicifgglkaeaa.Wk
set_option linter.unusedVariables false
set_option linter.unusedSimpArgs false
set_option maxHeartbeats 4000000 in
set_option maxRecDepth 100000 in
theorem may_1 (a c : Int) (A : Option Addr) (cc : Nat) (v : List Int) (t n o : Int) (w : World) (hV : Kd.C (Kd.int .i64) w A v.length v) : Calls Try.prog 20 #[.agg #[.int .i64 1, .int .i64 a, .int .i64 c, .slice A v.length cc, .int .i64 t, .int .i64 n, .int .i64 o]] w fun e w' => e = .returned (.bool (chkB 1 a c v t n o)) ∧ Below w.heap.size w w' := by
  have HV := Aside0.mk hV; clear hV
  by_cases hz0 : (n == 0) = true
  · have z0 : (n == 0) = true := hz0; clear hz0
    by_cases hz1 : (o == 0) = true
    · have z1 : (o == 0) = true := hz1; clear hz1
      by_cases hz2 : ((v.length : Int) == 0) = true
      · have z2 : ((v.length : Int) == 0) = true := hz2; clear hz2
        by_cases hz3 : (t == 0) = true
        · have z3 : (t == 0) = true := hz3; clear hz3
          by_cases hz4 : decide (1 ≤ c) = true
          · have z4 : decide (1 ≤ c) = true := hz4; clear hz4; have pz4 := of_decide_eq_true z4
            by_cases hz5 : decide (c ≤ 2000) = true
            · have z5 : decide (c ≤ 2000) = true := hz5; clear hz5; have pz5 := of_decide_eq_true z5
              by_cases hz6 : spB a c = true
              · have z6 : spB a c = true := hz6; clear hz6
                have HR : Aside0 (chkB 1 a c v t n o = true) := ⟨by simp_all [chkB, wB] <;> (intros; omega)⟩
                rw [HR.out]
                go_enter Try.func20, Try.ntmps20
                go_wp2_with (first | ((with_reducible refine gate_dst (N := 1) rfl ?_); refine box_event ?hg (N := 1) ?hd (cs := #[.int .i64 1, .int .i64 a, .int .i64 c, .slice A v.length cc, .int .i64 t, .int .i64 n, .int .i64 o]) (t := 24) ?hr ?_; (case hd => rfl); (case hg => rfl); (case hr => first | (go_simp; done) | (go_simp; rfl)); intro g hg w1 hb HB; have XB := Aside0.mk HB; have BK := Aside0.mk hb; obtain ⟨k0, k1, k2, k3, k4, k5, k6⟩ := cells7 hb; clear hg hb HB) | (go_at_call 45; refine (is_c _ _).mono ?_; rintro e w' ⟨rfl, rfl⟩) | (go_at_call 43; refine (refspan_c _ _ _ (by omega) (by omega)).mono ?_; rintro e w' ⟨rfl, rfl⟩))
                go_ret
                exact ⟨rfl, XB.out⟩
              · have z6 : spB a c = false := by simpa using hz6
                clear hz6
                have HR : Aside0 (chkB 1 a c v t n o = false) := ⟨by simp_all [chkB, wB] <;> (intros; omega)⟩
                rw [HR.out]
                go_enter Try.func20, Try.ntmps20
                go_wp2_with (first | ((with_reducible refine gate_dst (N := 1) rfl ?_); refine box_event ?hg (N := 1) ?hd (cs := #[.int .i64 1, .int .i64 a, .int .i64 c, .slice A v.length cc, .int .i64 t, .int .i64 n, .int .i64 o]) (t := 24) ?hr ?_; (case hd => rfl); (case hg => rfl); (case hr => first | (go_simp; done) | (go_simp; rfl)); intro g hg w1 hb HB; have XB := Aside0.mk HB; have BK := Aside0.mk hb; obtain ⟨k0, k1, k2, k3, k4, k5, k6⟩ := cells7 hb; clear hg hb HB) | (go_at_call 45; refine (is_c _ _).mono ?_; rintro e w' ⟨rfl, rfl⟩) | (go_at_call 43; refine (refspan_c _ _ _ (by omega) (by omega)).mono ?_; rintro e w' ⟨rfl, rfl⟩))
                go_ret
                exact ⟨rfl, XB.out⟩
            · have z5 : decide (c ≤ 2000) = false := by simpa using hz5
              clear hz5
              have HR : Aside0 (chkB 1 a c v t n o = false) := ⟨by simp_all [chkB, wB] <;> (intros; omega)⟩
              rw [HR.out]
              go_enter Try.func20, Try.ntmps20
              go_wp2_with (first | ((with_reducible refine gate_dst (N := 1) rfl ?_); refine box_event ?hg (N := 1) ?hd (cs := #[.int .i64 1, .int .i64 a, .int .i64 c, .slice A v.length cc, .int .i64 t, .int .i64 n, .int .i64 o]) (t := 24) ?hr ?_; (case hd => rfl); (case hg => rfl); (case hr => first | (go_simp; done) | (go_simp; rfl)); intro g hg w1 hb HB; have XB := Aside0.mk HB; have BK := Aside0.mk hb; obtain ⟨k0, k1, k2, k3, k4, k5, k6⟩ := cells7 hb; clear hg hb HB) | (go_at_call 45; refine (is_c _ _).mono ?_; rintro e w' ⟨rfl, rfl⟩) | (go_at_call 43; refine (refspan_c _ _ _ (by omega) (by omega)).mono ?_; rintro e w' ⟨rfl, rfl⟩))
              go_ret
              exact ⟨rfl, XB.out⟩
          · have z4 : decide (1 ≤ c) = false := by simpa using hz4
            clear hz4
            have HR : Aside0 (chkB 1 a c v t n o = false) := ⟨by simp_all [chkB, wB] <;> (intros; omega)⟩
            rw [HR.out]
            go_enter Try.func20, Try.ntmps20
            go_wp2_with (first | ((with_reducible refine gate_dst (N := 1) rfl ?_); refine box_event ?hg (N := 1) ?hd (cs := #[.int .i64 1, .int .i64 a, .int .i64 c, .slice A v.length cc, .int .i64 t, .int .i64 n, .int .i64 o]) (t := 24) ?hr ?_; (case hd => rfl); (case hg => rfl); (case hr => first | (go_simp; done) | (go_simp; rfl)); intro g hg w1 hb HB; have XB := Aside0.mk HB; have BK := Aside0.mk hb; obtain ⟨k0, k1, k2, k3, k4, k5, k6⟩ := cells7 hb; clear hg hb HB) | (go_at_call 45; refine (is_c _ _).mono ?_; rintro e w' ⟨rfl, rfl⟩) | (go_at_call 43; refine (refspan_c _ _ _ (by omega) (by omega)).mono ?_; rintro e w' ⟨rfl, rfl⟩))
            go_ret
            exact ⟨rfl, XB.out⟩
        · have z3 : (t == 0) = false := by simpa using hz3
          clear hz3
          have HR : Aside0 (chkB 1 a c v t n o = false) := ⟨by simp_all [chkB, wB] <;> (intros; omega)⟩
          rw [HR.out]
          go_enter Try.func20, Try.ntmps20
          go_wp2_with (first | ((with_reducible refine gate_dst (N := 1) rfl ?_); refine box_event ?hg (N := 1) ?hd (cs := #[.int .i64 1, .int .i64 a, .int .i64 c, .slice A v.length cc, .int .i64 t, .int .i64 n, .int .i64 o]) (t := 24) ?hr ?_; (case hd => rfl); (case hg => rfl); (case hr => first | (go_simp; done) | (go_simp; rfl)); intro g hg w1 hb HB; have XB := Aside0.mk HB; have BK := Aside0.mk hb; obtain ⟨k0, k1, k2, k3, k4, k5, k6⟩ := cells7 hb; clear hg hb HB) | (go_at_call 45; refine (is_c _ _).mono ?_; rintro e w' ⟨rfl, rfl⟩) | (go_at_call 43; refine (refspan_c _ _ _ (by omega) (by omega)).mono ?_; rintro e w' ⟨rfl, rfl⟩))
          go_ret
          exact ⟨rfl, XB.out⟩
      · have z2 : ((v.length : Int) == 0) = false := by simpa using hz2
        clear hz2
        have HR : Aside0 (chkB 1 a c v t n o = false) := ⟨by simp_all [chkB, wB] <;> (intros; omega)⟩
        rw [HR.out]
        go_enter Try.func20, Try.ntmps20
        go_wp2_with (first | ((with_reducible refine gate_dst (N := 1) rfl ?_); refine box_event ?hg (N := 1) ?hd (cs := #[.int .i64 1, .int .i64 a, .int .i64 c, .slice A v.length cc, .int .i64 t, .int .i64 n, .int .i64 o]) (t := 24) ?hr ?_; (case hd => rfl); (case hg => rfl); (case hr => first | (go_simp; done) | (go_simp; rfl)); intro g hg w1 hb HB; have XB := Aside0.mk HB; have BK := Aside0.mk hb; obtain ⟨k0, k1, k2, k3, k4, k5, k6⟩ := cells7 hb; clear hg hb HB) | (go_at_call 45; refine (is_c _ _).mono ?_; rintro e w' ⟨rfl, rfl⟩) | (go_at_call 43; refine (refspan_c _ _ _ (by omega) (by omega)).mono ?_; rintro e w' ⟨rfl, rfl⟩))
        go_ret
        exact ⟨rfl, XB.out⟩
    · have z1 : (o == 0) = false := by simpa using hz1
      clear hz1
      by_cases hz2 : ((v.length : Int) == 0) = true
      · have z2 : ((v.length : Int) == 0) = true := hz2; clear hz2
        have HR : Aside0 (chkB 1 a c v t n o = false) := ⟨by simp_all [chkB, wB] <;> (intros; omega)⟩
        rw [HR.out]
        go_enter Try.func20, Try.ntmps20
        go_wp2_with (first | ((with_reducible refine gate_dst (N := 1) rfl ?_); refine box_event ?hg (N := 1) ?hd (cs := #[.int .i64 1, .int .i64 a, .int .i64 c, .slice A v.length cc, .int .i64 t, .int .i64 n, .int .i64 o]) (t := 24) ?hr ?_; (case hd => rfl); (case hg => rfl); (case hr => first | (go_simp; done) | (go_simp; rfl)); intro g hg w1 hb HB; have XB := Aside0.mk HB; have BK := Aside0.mk hb; obtain ⟨k0, k1, k2, k3, k4, k5, k6⟩ := cells7 hb; clear hg hb HB) | (go_at_call 45; refine (is_c _ _).mono ?_; rintro e w' ⟨rfl, rfl⟩) | (go_at_call 43; refine (refspan_c _ _ _ (by omega) (by omega)).mono ?_; rintro e w' ⟨rfl, rfl⟩))
        go_ret
        exact ⟨rfl, XB.out⟩
      · have z2 : ((v.length : Int) == 0) = false := by simpa using hz2
        clear hz2
        have HR : Aside0 (chkB 1 a c v t n o = false) := ⟨by simp_all [chkB, wB] <;> (intros; omega)⟩
        rw [HR.out]
        go_enter Try.func20, Try.ntmps20
        go_wp2_with (first | ((with_reducible refine gate_dst (N := 1) rfl ?_); refine box_event ?hg (N := 1) ?hd (cs := #[.int .i64 1, .int .i64 a, .int .i64 c, .slice A v.length cc, .int .i64 t, .int .i64 n, .int .i64 o]) (t := 24) ?hr ?_; (case hd => rfl); (case hg => rfl); (case hr => first | (go_simp; done) | (go_simp; rfl)); intro g hg w1 hb HB; have XB := Aside0.mk HB; have BK := Aside0.mk hb; obtain ⟨k0, k1, k2, k3, k4, k5, k6⟩ := cells7 hb; clear hg hb HB) | (go_at_call 45; refine (is_c _ _).mono ?_; rintro e w' ⟨rfl, rfl⟩) | (go_at_call 43; refine (refspan_c _ _ _ (by omega) (by omega)).mono ?_; rintro e w' ⟨rfl, rfl⟩))
        go_ret
        exact ⟨rfl, XB.out⟩
  · have z0 : (n == 0) = false := by simpa using hz0
    clear hz0
    by_cases hz1 : ((v.length : Int) == 0) = true
    · have z1 : ((v.length : Int) == 0) = true := hz1; clear hz1
      have HR : Aside0 (chkB 1 a c v t n o = false) := ⟨by simp_all [chkB, wB] <;> (intros; omega)⟩
      rw [HR.out]
      go_enter Try.func20, Try.ntmps20
      go_wp2_with (first | ((with_reducible refine gate_dst (N := 1) rfl ?_); refine box_event ?hg (N := 1) ?hd (cs := #[.int .i64 1, .int .i64 a, .int .i64 c, .slice A v.length cc, .int .i64 t, .int .i64 n, .int .i64 o]) (t := 24) ?hr ?_; (case hd => rfl); (case hg => rfl); (case hr => first | (go_simp; done) | (go_simp; rfl)); intro g hg w1 hb HB; have XB := Aside0.mk HB; have BK := Aside0.mk hb; obtain ⟨k0, k1, k2, k3, k4, k5, k6⟩ := cells7 hb; clear hg hb HB) | (go_at_call 45; refine (is_c _ _).mono ?_; rintro e w' ⟨rfl, rfl⟩) | (go_at_call 43; refine (refspan_c _ _ _ (by omega) (by omega)).mono ?_; rintro e w' ⟨rfl, rfl⟩))
      go_ret
      exact ⟨rfl, XB.out⟩
    · have z1 : ((v.length : Int) == 0) = false := by simpa using hz1
      clear hz1
      have HR : Aside0 (chkB 1 a c v t n o = false) := ⟨by simp_all [chkB, wB] <;> (intros; omega)⟩
      rw [HR.out]
      go_enter Try.func20, Try.ntmps20
      go_wp2_with (first | ((with_reducible refine gate_dst (N := 1) rfl ?_); refine box_event ?hg (N := 1) ?hd (cs := #[.int .i64 1, .int .i64 a, .int .i64 c, .slice A v.length cc, .int .i64 t, .int .i64 n, .int .i64 o]) (t := 24) ?hr ?_; (case hd => rfl); (case hg => rfl); (case hr => first | (go_simp; done) | (go_simp; rfl)); intro g hg w1 hb HB; have XB := Aside0.mk HB; have BK := Aside0.mk hb; obtain ⟨k0, k1, k2, k3, k4, k5, k6⟩ := cells7 hb; clear hg hb HB) | (go_at_call 45; refine (is_c _ _).mono ?_; rintro e w' ⟨rfl, rfl⟩) | (go_at_call 43; refine (refspan_c _ _ _ (by omega) (by omega)).mono ?_; rintro e w' ⟨rfl, rfl⟩))
      go_ret
      exact ⟨rfl, XB.out⟩
set_option maxHeartbeats 4000000 in
set_option maxRecDepth 100000 in
theorem may_2 (a c : Int) (A : Option Addr) (cc : Nat) (v : List Int) (t n o : Int) (w : World) (hV : Kd.C (Kd.int .i64) w A v.length v) : Calls Try.prog 20 #[.agg #[.int .i64 2, .int .i64 a, .int .i64 c, .slice A v.length cc, .int .i64 t, .int .i64 n, .int .i64 o]] w fun e w' => e = .returned (.bool (chkB 2 a c v t n o)) ∧ Below w.heap.size w w' := by
  have HV := Aside0.mk hV; clear hV
  by_cases hz0 : (n == 0) = true
  · have z0 : (n == 0) = true := hz0; clear hz0
    by_cases hz1 : (o == 0) = true
    · have z1 : (o == 0) = true := hz1; clear hz1
      by_cases hz2 : ((v.length : Int) == 0) = true
      · have z2 : ((v.length : Int) == 0) = true := hz2; clear hz2
        by_cases hz3 : (t == 0) = true
        · have z3 : (t == 0) = true := hz3; clear hz3
          by_cases hz4 : decide (1 ≤ c) = true
          · have z4 : decide (1 ≤ c) = true := hz4; clear hz4; have pz4 := of_decide_eq_true z4
            by_cases hz5 : decide (c ≤ 2000) = true
            · have z5 : decide (c ≤ 2000) = true := hz5; clear hz5; have pz5 := of_decide_eq_true z5
              by_cases hz6 : spB a c = true
              · have z6 : spB a c = true := hz6; clear hz6
                have HR : Aside0 (chkB 2 a c v t n o = true) := ⟨by simp_all [chkB, wB] <;> (intros; omega)⟩
                rw [HR.out]
                go_enter Try.func20, Try.ntmps20
                go_wp2_with (first | ((with_reducible refine gate_dst (N := 1) rfl ?_); refine box_event ?hg (N := 1) ?hd (cs := #[.int .i64 2, .int .i64 a, .int .i64 c, .slice A v.length cc, .int .i64 t, .int .i64 n, .int .i64 o]) (t := 24) ?hr ?_; (case hd => rfl); (case hg => rfl); (case hr => first | (go_simp; done) | (go_simp; rfl)); intro g hg w1 hb HB; have XB := Aside0.mk HB; have BK := Aside0.mk hb; obtain ⟨k0, k1, k2, k3, k4, k5, k6⟩ := cells7 hb; clear hg hb HB) | (go_at_call 45; refine (is_c _ _).mono ?_; rintro e w' ⟨rfl, rfl⟩) | (go_at_call 43; refine (refspan_c _ _ _ (by omega) (by omega)).mono ?_; rintro e w' ⟨rfl, rfl⟩))
                go_ret
                exact ⟨rfl, XB.out⟩
              · have z6 : spB a c = false := by simpa using hz6
                clear hz6
                have HR : Aside0 (chkB 2 a c v t n o = false) := ⟨by simp_all [chkB, wB] <;> (intros; omega)⟩
                rw [HR.out]
                go_enter Try.func20, Try.ntmps20
                go_wp2_with (first | ((with_reducible refine gate_dst (N := 1) rfl ?_); refine box_event ?hg (N := 1) ?hd (cs := #[.int .i64 2, .int .i64 a, .int .i64 c, .slice A v.length cc, .int .i64 t, .int .i64 n, .int .i64 o]) (t := 24) ?hr ?_; (case hd => rfl); (case hg => rfl); (case hr => first | (go_simp; done) | (go_simp; rfl)); intro g hg w1 hb HB; have XB := Aside0.mk HB; have BK := Aside0.mk hb; obtain ⟨k0, k1, k2, k3, k4, k5, k6⟩ := cells7 hb; clear hg hb HB) | (go_at_call 45; refine (is_c _ _).mono ?_; rintro e w' ⟨rfl, rfl⟩) | (go_at_call 43; refine (refspan_c _ _ _ (by omega) (by omega)).mono ?_; rintro e w' ⟨rfl, rfl⟩))
                go_ret
                exact ⟨rfl, XB.out⟩
            · have z5 : decide (c ≤ 2000) = false := by simpa using hz5
              clear hz5
              have HR : Aside0 (chkB 2 a c v t n o = false) := ⟨by simp_all [chkB, wB] <;> (intros; omega)⟩
              rw [HR.out]
              go_enter Try.func20, Try.ntmps20
              go_wp2_with (first | ((with_reducible refine gate_dst (N := 1) rfl ?_); refine box_event ?hg (N := 1) ?hd (cs := #[.int .i64 2, .int .i64 a, .int .i64 c, .slice A v.length cc, .int .i64 t, .int .i64 n, .int .i64 o]) (t := 24) ?hr ?_; (case hd => rfl); (case hg => rfl); (case hr => first | (go_simp; done) | (go_simp; rfl)); intro g hg w1 hb HB; have XB := Aside0.mk HB; have BK := Aside0.mk hb; obtain ⟨k0, k1, k2, k3, k4, k5, k6⟩ := cells7 hb; clear hg hb HB) | (go_at_call 45; refine (is_c _ _).mono ?_; rintro e w' ⟨rfl, rfl⟩) | (go_at_call 43; refine (refspan_c _ _ _ (by omega) (by omega)).mono ?_; rintro e w' ⟨rfl, rfl⟩))
              go_ret
              exact ⟨rfl, XB.out⟩
          · have z4 : decide (1 ≤ c) = false := by simpa using hz4
            clear hz4
            have HR : Aside0 (chkB 2 a c v t n o = false) := ⟨by simp_all [chkB, wB] <;> (intros; omega)⟩
            rw [HR.out]
            go_enter Try.func20, Try.ntmps20
            go_wp2_with (first | ((with_reducible refine gate_dst (N := 1) rfl ?_); refine box_event ?hg (N := 1) ?hd (cs := #[.int .i64 2, .int .i64 a, .int .i64 c, .slice A v.length cc, .int .i64 t, .int .i64 n, .int .i64 o]) (t := 24) ?hr ?_; (case hd => rfl); (case hg => rfl); (case hr => first | (go_simp; done) | (go_simp; rfl)); intro g hg w1 hb HB; have XB := Aside0.mk HB; have BK := Aside0.mk hb; obtain ⟨k0, k1, k2, k3, k4, k5, k6⟩ := cells7 hb; clear hg hb HB) | (go_at_call 45; refine (is_c _ _).mono ?_; rintro e w' ⟨rfl, rfl⟩) | (go_at_call 43; refine (refspan_c _ _ _ (by omega) (by omega)).mono ?_; rintro e w' ⟨rfl, rfl⟩))
            go_ret
            exact ⟨rfl, XB.out⟩
        · have z3 : (t == 0) = false := by simpa using hz3
          clear hz3
          have HR : Aside0 (chkB 2 a c v t n o = false) := ⟨by simp_all [chkB, wB] <;> (intros; omega)⟩
          rw [HR.out]
          go_enter Try.func20, Try.ntmps20
          go_wp2_with (first | ((with_reducible refine gate_dst (N := 1) rfl ?_); refine box_event ?hg (N := 1) ?hd (cs := #[.int .i64 2, .int .i64 a, .int .i64 c, .slice A v.length cc, .int .i64 t, .int .i64 n, .int .i64 o]) (t := 24) ?hr ?_; (case hd => rfl); (case hg => rfl); (case hr => first | (go_simp; done) | (go_simp; rfl)); intro g hg w1 hb HB; have XB := Aside0.mk HB; have BK := Aside0.mk hb; obtain ⟨k0, k1, k2, k3, k4, k5, k6⟩ := cells7 hb; clear hg hb HB) | (go_at_call 45; refine (is_c _ _).mono ?_; rintro e w' ⟨rfl, rfl⟩) | (go_at_call 43; refine (refspan_c _ _ _ (by omega) (by omega)).mono ?_; rintro e w' ⟨rfl, rfl⟩))
          go_ret
          exact ⟨rfl, XB.out⟩
      · have z2 : ((v.length : Int) == 0) = false := by simpa using hz2
        clear hz2
        have HR : Aside0 (chkB 2 a c v t n o = false) := ⟨by simp_all [chkB, wB] <;> (intros; omega)⟩
        rw [HR.out]
        go_enter Try.func20, Try.ntmps20
        go_wp2_with (first | ((with_reducible refine gate_dst (N := 1) rfl ?_); refine box_event ?hg (N := 1) ?hd (cs := #[.int .i64 2, .int .i64 a, .int .i64 c, .slice A v.length cc, .int .i64 t, .int .i64 n, .int .i64 o]) (t := 24) ?hr ?_; (case hd => rfl); (case hg => rfl); (case hr => first | (go_simp; done) | (go_simp; rfl)); intro g hg w1 hb HB; have XB := Aside0.mk HB; have BK := Aside0.mk hb; obtain ⟨k0, k1, k2, k3, k4, k5, k6⟩ := cells7 hb; clear hg hb HB) | (go_at_call 45; refine (is_c _ _).mono ?_; rintro e w' ⟨rfl, rfl⟩) | (go_at_call 43; refine (refspan_c _ _ _ (by omega) (by omega)).mono ?_; rintro e w' ⟨rfl, rfl⟩))
        go_ret
        exact ⟨rfl, XB.out⟩
    · have z1 : (o == 0) = false := by simpa using hz1
      clear hz1
      by_cases hz2 : ((v.length : Int) == 0) = true
      · have z2 : ((v.length : Int) == 0) = true := hz2; clear hz2
        have HR : Aside0 (chkB 2 a c v t n o = false) := ⟨by simp_all [chkB, wB] <;> (intros; omega)⟩
        rw [HR.out]
        go_enter Try.func20, Try.ntmps20
        go_wp2_with (first | ((with_reducible refine gate_dst (N := 1) rfl ?_); refine box_event ?hg (N := 1) ?hd (cs := #[.int .i64 2, .int .i64 a, .int .i64 c, .slice A v.length cc, .int .i64 t, .int .i64 n, .int .i64 o]) (t := 24) ?hr ?_; (case hd => rfl); (case hg => rfl); (case hr => first | (go_simp; done) | (go_simp; rfl)); intro g hg w1 hb HB; have XB := Aside0.mk HB; have BK := Aside0.mk hb; obtain ⟨k0, k1, k2, k3, k4, k5, k6⟩ := cells7 hb; clear hg hb HB) | (go_at_call 45; refine (is_c _ _).mono ?_; rintro e w' ⟨rfl, rfl⟩) | (go_at_call 43; refine (refspan_c _ _ _ (by omega) (by omega)).mono ?_; rintro e w' ⟨rfl, rfl⟩))
        go_ret
        exact ⟨rfl, XB.out⟩
      · have z2 : ((v.length : Int) == 0) = false := by simpa using hz2
        clear hz2
        have HR : Aside0 (chkB 2 a c v t n o = false) := ⟨by simp_all [chkB, wB] <;> (intros; omega)⟩
        rw [HR.out]
        go_enter Try.func20, Try.ntmps20
        go_wp2_with (first | ((with_reducible refine gate_dst (N := 1) rfl ?_); refine box_event ?hg (N := 1) ?hd (cs := #[.int .i64 2, .int .i64 a, .int .i64 c, .slice A v.length cc, .int .i64 t, .int .i64 n, .int .i64 o]) (t := 24) ?hr ?_; (case hd => rfl); (case hg => rfl); (case hr => first | (go_simp; done) | (go_simp; rfl)); intro g hg w1 hb HB; have XB := Aside0.mk HB; have BK := Aside0.mk hb; obtain ⟨k0, k1, k2, k3, k4, k5, k6⟩ := cells7 hb; clear hg hb HB) | (go_at_call 45; refine (is_c _ _).mono ?_; rintro e w' ⟨rfl, rfl⟩) | (go_at_call 43; refine (refspan_c _ _ _ (by omega) (by omega)).mono ?_; rintro e w' ⟨rfl, rfl⟩))
        go_ret
        exact ⟨rfl, XB.out⟩
  · have z0 : (n == 0) = false := by simpa using hz0
    clear hz0
    by_cases hz1 : ((v.length : Int) == 0) = true
    · have z1 : ((v.length : Int) == 0) = true := hz1; clear hz1
      have HR : Aside0 (chkB 2 a c v t n o = false) := ⟨by simp_all [chkB, wB] <;> (intros; omega)⟩
      rw [HR.out]
      go_enter Try.func20, Try.ntmps20
      go_wp2_with (first | ((with_reducible refine gate_dst (N := 1) rfl ?_); refine box_event ?hg (N := 1) ?hd (cs := #[.int .i64 2, .int .i64 a, .int .i64 c, .slice A v.length cc, .int .i64 t, .int .i64 n, .int .i64 o]) (t := 24) ?hr ?_; (case hd => rfl); (case hg => rfl); (case hr => first | (go_simp; done) | (go_simp; rfl)); intro g hg w1 hb HB; have XB := Aside0.mk HB; have BK := Aside0.mk hb; obtain ⟨k0, k1, k2, k3, k4, k5, k6⟩ := cells7 hb; clear hg hb HB) | (go_at_call 45; refine (is_c _ _).mono ?_; rintro e w' ⟨rfl, rfl⟩) | (go_at_call 43; refine (refspan_c _ _ _ (by omega) (by omega)).mono ?_; rintro e w' ⟨rfl, rfl⟩))
      go_ret
      exact ⟨rfl, XB.out⟩
    · have z1 : ((v.length : Int) == 0) = false := by simpa using hz1
      clear hz1
      have HR : Aside0 (chkB 2 a c v t n o = false) := ⟨by simp_all [chkB, wB] <;> (intros; omega)⟩
      rw [HR.out]
      go_enter Try.func20, Try.ntmps20
      go_wp2_with (first | ((with_reducible refine gate_dst (N := 1) rfl ?_); refine box_event ?hg (N := 1) ?hd (cs := #[.int .i64 2, .int .i64 a, .int .i64 c, .slice A v.length cc, .int .i64 t, .int .i64 n, .int .i64 o]) (t := 24) ?hr ?_; (case hd => rfl); (case hg => rfl); (case hr => first | (go_simp; done) | (go_simp; rfl)); intro g hg w1 hb HB; have XB := Aside0.mk HB; have BK := Aside0.mk hb; obtain ⟨k0, k1, k2, k3, k4, k5, k6⟩ := cells7 hb; clear hg hb HB) | (go_at_call 45; refine (is_c _ _).mono ?_; rintro e w' ⟨rfl, rfl⟩) | (go_at_call 43; refine (refspan_c _ _ _ (by omega) (by omega)).mono ?_; rintro e w' ⟨rfl, rfl⟩))
      go_ret
      exact ⟨rfl, XB.out⟩
end Go.Proofs.Ytocicifgglkaeaa.Chk
end

section
namespace Go.Proofs.Ytocicifgglkaeaa.Chk
open Go.RowKit Go.Proofs.YtocicifgglkaeaaW.PrintWords Go.Proofs.YtocicifgglkaeaaW.PrintLast Go.Proofs.YtocicifgglkaeaaW.PrintMore Go.Proofs.Ytocicifgglkaeaa.Core Go.Proofs.Ytocicifgglkaeaa.Wk
set_option linter.unusedVariables false
set_option linter.unusedSimpArgs false
set_option maxHeartbeats 4000000 in
set_option maxRecDepth 100000 in
theorem may_3 (a c : Int) (A : Option Addr) (cc : Nat) (v : List Int) (t n o : Int) (w : World) (hV : Kd.C (Kd.int .i64) w A v.length v) : Calls Try.prog 20 #[.agg #[.int .i64 3, .int .i64 a, .int .i64 c, .slice A v.length cc, .int .i64 t, .int .i64 n, .int .i64 o]] w fun e w' => e = .returned (.bool (chkB 3 a c v t n o)) ∧ Below w.heap.size w w' := by
  have HV := Aside0.mk hV; clear hV
  by_cases hz0 : (n == 0) = true
  · have z0 : (n == 0) = true := hz0; clear hz0
    by_cases hz1 : (o == 0) = true
    · have z1 : (o == 0) = true := hz1; clear hz1
      by_cases hz2 : ((v.length : Int) == 0) = true
      · have z2 : ((v.length : Int) == 0) = true := hz2; clear hz2
        by_cases hz3 : (t == 0) = true
        · have z3 : (t == 0) = true := hz3; clear hz3
          by_cases hz4 : decide (1 ≤ c) = true
          · have z4 : decide (1 ≤ c) = true := hz4; clear hz4; have pz4 := of_decide_eq_true z4
            by_cases hz5 : decide (c ≤ 125) = true
            · have z5 : decide (c ≤ 125) = true := hz5; clear hz5; have pz5 := of_decide_eq_true z5
              by_cases hz6 : spB a c = true
              · have z6 : spB a c = true := hz6; clear hz6
                have HR : Aside0 (chkB 3 a c v t n o = true) := ⟨by simp_all [chkB, wB] <;> (intros; omega)⟩
                rw [HR.out]
                go_enter Try.func20, Try.ntmps20
                go_wp2_with (first | ((with_reducible refine gate_dst (N := 1) rfl ?_); refine box_event ?hg (N := 1) ?hd (cs := #[.int .i64 3, .int .i64 a, .int .i64 c, .slice A v.length cc, .int .i64 t, .int .i64 n, .int .i64 o]) (t := 24) ?hr ?_; (case hd => rfl); (case hg => rfl); (case hr => first | (go_simp; done) | (go_simp; rfl)); intro g hg w1 hb HB; have XB := Aside0.mk HB; have BK := Aside0.mk hb; obtain ⟨k0, k1, k2, k3, k4, k5, k6⟩ := cells7 hb; clear hg hb HB) | (go_at_call 45; refine (is_c _ _).mono ?_; rintro e w' ⟨rfl, rfl⟩) | (go_at_call 43; refine (refspan_c _ _ _ (by omega) (by omega)).mono ?_; rintro e w' ⟨rfl, rfl⟩))
                go_ret
                exact ⟨rfl, XB.out⟩
              · have z6 : spB a c = false := by simpa using hz6
                clear hz6
                have HR : Aside0 (chkB 3 a c v t n o = false) := ⟨by simp_all [chkB, wB] <;> (intros; omega)⟩
                rw [HR.out]
                go_enter Try.func20, Try.ntmps20
                go_wp2_with (first | ((with_reducible refine gate_dst (N := 1) rfl ?_); refine box_event ?hg (N := 1) ?hd (cs := #[.int .i64 3, .int .i64 a, .int .i64 c, .slice A v.length cc, .int .i64 t, .int .i64 n, .int .i64 o]) (t := 24) ?hr ?_; (case hd => rfl); (case hg => rfl); (case hr => first | (go_simp; done) | (go_simp; rfl)); intro g hg w1 hb HB; have XB := Aside0.mk HB; have BK := Aside0.mk hb; obtain ⟨k0, k1, k2, k3, k4, k5, k6⟩ := cells7 hb; clear hg hb HB) | (go_at_call 45; refine (is_c _ _).mono ?_; rintro e w' ⟨rfl, rfl⟩) | (go_at_call 43; refine (refspan_c _ _ _ (by omega) (by omega)).mono ?_; rintro e w' ⟨rfl, rfl⟩))
                go_ret
                exact ⟨rfl, XB.out⟩
            · have z5 : decide (c ≤ 125) = false := by simpa using hz5
              clear hz5
              have HR : Aside0 (chkB 3 a c v t n o = false) := ⟨by simp_all [chkB, wB] <;> (intros; omega)⟩
              rw [HR.out]
              go_enter Try.func20, Try.ntmps20
              go_wp2_with (first | ((with_reducible refine gate_dst (N := 1) rfl ?_); refine box_event ?hg (N := 1) ?hd (cs := #[.int .i64 3, .int .i64 a, .int .i64 c, .slice A v.length cc, .int .i64 t, .int .i64 n, .int .i64 o]) (t := 24) ?hr ?_; (case hd => rfl); (case hg => rfl); (case hr => first | (go_simp; done) | (go_simp; rfl)); intro g hg w1 hb HB; have XB := Aside0.mk HB; have BK := Aside0.mk hb; obtain ⟨k0, k1, k2, k3, k4, k5, k6⟩ := cells7 hb; clear hg hb HB) | (go_at_call 45; refine (is_c _ _).mono ?_; rintro e w' ⟨rfl, rfl⟩) | (go_at_call 43; refine (refspan_c _ _ _ (by omega) (by omega)).mono ?_; rintro e w' ⟨rfl, rfl⟩))
              go_ret
              exact ⟨rfl, XB.out⟩
          · have z4 : decide (1 ≤ c) = false := by simpa using hz4
            clear hz4
            have HR : Aside0 (chkB 3 a c v t n o = false) := ⟨by simp_all [chkB, wB] <;> (intros; omega)⟩
            rw [HR.out]
            go_enter Try.func20, Try.ntmps20
            go_wp2_with (first | ((with_reducible refine gate_dst (N := 1) rfl ?_); refine box_event ?hg (N := 1) ?hd (cs := #[.int .i64 3, .int .i64 a, .int .i64 c, .slice A v.length cc, .int .i64 t, .int .i64 n, .int .i64 o]) (t := 24) ?hr ?_; (case hd => rfl); (case hg => rfl); (case hr => first | (go_simp; done) | (go_simp; rfl)); intro g hg w1 hb HB; have XB := Aside0.mk HB; have BK := Aside0.mk hb; obtain ⟨k0, k1, k2, k3, k4, k5, k6⟩ := cells7 hb; clear hg hb HB) | (go_at_call 45; refine (is_c _ _).mono ?_; rintro e w' ⟨rfl, rfl⟩) | (go_at_call 43; refine (refspan_c _ _ _ (by omega) (by omega)).mono ?_; rintro e w' ⟨rfl, rfl⟩))
            go_ret
            exact ⟨rfl, XB.out⟩
        · have z3 : (t == 0) = false := by simpa using hz3
          clear hz3
          have HR : Aside0 (chkB 3 a c v t n o = false) := ⟨by simp_all [chkB, wB] <;> (intros; omega)⟩
          rw [HR.out]
          go_enter Try.func20, Try.ntmps20
          go_wp2_with (first | ((with_reducible refine gate_dst (N := 1) rfl ?_); refine box_event ?hg (N := 1) ?hd (cs := #[.int .i64 3, .int .i64 a, .int .i64 c, .slice A v.length cc, .int .i64 t, .int .i64 n, .int .i64 o]) (t := 24) ?hr ?_; (case hd => rfl); (case hg => rfl); (case hr => first | (go_simp; done) | (go_simp; rfl)); intro g hg w1 hb HB; have XB := Aside0.mk HB; have BK := Aside0.mk hb; obtain ⟨k0, k1, k2, k3, k4, k5, k6⟩ := cells7 hb; clear hg hb HB) | (go_at_call 45; refine (is_c _ _).mono ?_; rintro e w' ⟨rfl, rfl⟩) | (go_at_call 43; refine (refspan_c _ _ _ (by omega) (by omega)).mono ?_; rintro e w' ⟨rfl, rfl⟩))
          go_ret
          exact ⟨rfl, XB.out⟩
      · have z2 : ((v.length : Int) == 0) = false := by simpa using hz2
        clear hz2
        have HR : Aside0 (chkB 3 a c v t n o = false) := ⟨by simp_all [chkB, wB] <;> (intros; omega)⟩
        rw [HR.out]
        go_enter Try.func20, Try.ntmps20
        go_wp2_with (first | ((with_reducible refine gate_dst (N := 1) rfl ?_); refine box_event ?hg (N := 1) ?hd (cs := #[.int .i64 3, .int .i64 a, .int .i64 c, .slice A v.length cc, .int .i64 t, .int .i64 n, .int .i64 o]) (t := 24) ?hr ?_; (case hd => rfl); (case hg => rfl); (case hr => first | (go_simp; done) | (go_simp; rfl)); intro g hg w1 hb HB; have XB := Aside0.mk HB; have BK := Aside0.mk hb; obtain ⟨k0, k1, k2, k3, k4, k5, k6⟩ := cells7 hb; clear hg hb HB) | (go_at_call 45; refine (is_c _ _).mono ?_; rintro e w' ⟨rfl, rfl⟩) | (go_at_call 43; refine (refspan_c _ _ _ (by omega) (by omega)).mono ?_; rintro e w' ⟨rfl, rfl⟩))
        go_ret
        exact ⟨rfl, XB.out⟩
    · have z1 : (o == 0) = false := by simpa using hz1
      clear hz1
      by_cases hz2 : ((v.length : Int) == 0) = true
      · have z2 : ((v.length : Int) == 0) = true := hz2; clear hz2
        have HR : Aside0 (chkB 3 a c v t n o = false) := ⟨by simp_all [chkB, wB] <;> (intros; omega)⟩
        rw [HR.out]
        go_enter Try.func20, Try.ntmps20
        go_wp2_with (first | ((with_reducible refine gate_dst (N := 1) rfl ?_); refine box_event ?hg (N := 1) ?hd (cs := #[.int .i64 3, .int .i64 a, .int .i64 c, .slice A v.length cc, .int .i64 t, .int .i64 n, .int .i64 o]) (t := 24) ?hr ?_; (case hd => rfl); (case hg => rfl); (case hr => first | (go_simp; done) | (go_simp; rfl)); intro g hg w1 hb HB; have XB := Aside0.mk HB; have BK := Aside0.mk hb; obtain ⟨k0, k1, k2, k3, k4, k5, k6⟩ := cells7 hb; clear hg hb HB) | (go_at_call 45; refine (is_c _ _).mono ?_; rintro e w' ⟨rfl, rfl⟩) | (go_at_call 43; refine (refspan_c _ _ _ (by omega) (by omega)).mono ?_; rintro e w' ⟨rfl, rfl⟩))
        go_ret
        exact ⟨rfl, XB.out⟩
      · have z2 : ((v.length : Int) == 0) = false := by simpa using hz2
        clear hz2
        have HR : Aside0 (chkB 3 a c v t n o = false) := ⟨by simp_all [chkB, wB] <;> (intros; omega)⟩
        rw [HR.out]
        go_enter Try.func20, Try.ntmps20
        go_wp2_with (first | ((with_reducible refine gate_dst (N := 1) rfl ?_); refine box_event ?hg (N := 1) ?hd (cs := #[.int .i64 3, .int .i64 a, .int .i64 c, .slice A v.length cc, .int .i64 t, .int .i64 n, .int .i64 o]) (t := 24) ?hr ?_; (case hd => rfl); (case hg => rfl); (case hr => first | (go_simp; done) | (go_simp; rfl)); intro g hg w1 hb HB; have XB := Aside0.mk HB; have BK := Aside0.mk hb; obtain ⟨k0, k1, k2, k3, k4, k5, k6⟩ := cells7 hb; clear hg hb HB) | (go_at_call 45; refine (is_c _ _).mono ?_; rintro e w' ⟨rfl, rfl⟩) | (go_at_call 43; refine (refspan_c _ _ _ (by omega) (by omega)).mono ?_; rintro e w' ⟨rfl, rfl⟩))
        go_ret
        exact ⟨rfl, XB.out⟩
  · have z0 : (n == 0) = false := by simpa using hz0
    clear hz0
    by_cases hz1 : ((v.length : Int) == 0) = true
    · have z1 : ((v.length : Int) == 0) = true := hz1; clear hz1
      have HR : Aside0 (chkB 3 a c v t n o = false) := ⟨by simp_all [chkB, wB] <;> (intros; omega)⟩
      rw [HR.out]
      go_enter Try.func20, Try.ntmps20
      go_wp2_with (first | ((with_reducible refine gate_dst (N := 1) rfl ?_); refine box_event ?hg (N := 1) ?hd (cs := #[.int .i64 3, .int .i64 a, .int .i64 c, .slice A v.length cc, .int .i64 t, .int .i64 n, .int .i64 o]) (t := 24) ?hr ?_; (case hd => rfl); (case hg => rfl); (case hr => first | (go_simp; done) | (go_simp; rfl)); intro g hg w1 hb HB; have XB := Aside0.mk HB; have BK := Aside0.mk hb; obtain ⟨k0, k1, k2, k3, k4, k5, k6⟩ := cells7 hb; clear hg hb HB) | (go_at_call 45; refine (is_c _ _).mono ?_; rintro e w' ⟨rfl, rfl⟩) | (go_at_call 43; refine (refspan_c _ _ _ (by omega) (by omega)).mono ?_; rintro e w' ⟨rfl, rfl⟩))
      go_ret
      exact ⟨rfl, XB.out⟩
    · have z1 : ((v.length : Int) == 0) = false := by simpa using hz1
      clear hz1
      have HR : Aside0 (chkB 3 a c v t n o = false) := ⟨by simp_all [chkB, wB] <;> (intros; omega)⟩
      rw [HR.out]
      go_enter Try.func20, Try.ntmps20
      go_wp2_with (first | ((with_reducible refine gate_dst (N := 1) rfl ?_); refine box_event ?hg (N := 1) ?hd (cs := #[.int .i64 3, .int .i64 a, .int .i64 c, .slice A v.length cc, .int .i64 t, .int .i64 n, .int .i64 o]) (t := 24) ?hr ?_; (case hd => rfl); (case hg => rfl); (case hr => first | (go_simp; done) | (go_simp; rfl)); intro g hg w1 hb HB; have XB := Aside0.mk HB; have BK := Aside0.mk hb; obtain ⟨k0, k1, k2, k3, k4, k5, k6⟩ := cells7 hb; clear hg hb HB) | (go_at_call 45; refine (is_c _ _).mono ?_; rintro e w' ⟨rfl, rfl⟩) | (go_at_call 43; refine (refspan_c _ _ _ (by omega) (by omega)).mono ?_; rintro e w' ⟨rfl, rfl⟩))
      go_ret
      exact ⟨rfl, XB.out⟩
set_option maxHeartbeats 4000000 in
set_option maxRecDepth 100000 in
theorem may_4 (a c : Int) (A : Option Addr) (cc : Nat) (v : List Int) (t n o : Int) (w : World) (hV : Kd.C (Kd.int .i64) w A v.length v) : Calls Try.prog 20 #[.agg #[.int .i64 4, .int .i64 a, .int .i64 c, .slice A v.length cc, .int .i64 t, .int .i64 n, .int .i64 o]] w fun e w' => e = .returned (.bool (chkB 4 a c v t n o)) ∧ Below w.heap.size w w' := by
  have HV := Aside0.mk hV; clear hV
  by_cases hz0 : (n == 0) = true
  · have z0 : (n == 0) = true := hz0; clear hz0
    by_cases hz1 : (o == 0) = true
    · have z1 : (o == 0) = true := hz1; clear hz1
      by_cases hz2 : ((v.length : Int) == 0) = true
      · have z2 : ((v.length : Int) == 0) = true := hz2; clear hz2
        by_cases hz3 : (t == 0) = true
        · have z3 : (t == 0) = true := hz3; clear hz3
          by_cases hz4 : decide (1 ≤ c) = true
          · have z4 : decide (1 ≤ c) = true := hz4; clear hz4; have pz4 := of_decide_eq_true z4
            by_cases hz5 : decide (c ≤ 125) = true
            · have z5 : decide (c ≤ 125) = true := hz5; clear hz5; have pz5 := of_decide_eq_true z5
              by_cases hz6 : spB a c = true
              · have z6 : spB a c = true := hz6; clear hz6
                have HR : Aside0 (chkB 4 a c v t n o = true) := ⟨by simp_all [chkB, wB] <;> (intros; omega)⟩
                rw [HR.out]
                go_enter Try.func20, Try.ntmps20
                go_wp2_with (first | ((with_reducible refine gate_dst (N := 1) rfl ?_); refine box_event ?hg (N := 1) ?hd (cs := #[.int .i64 4, .int .i64 a, .int .i64 c, .slice A v.length cc, .int .i64 t, .int .i64 n, .int .i64 o]) (t := 24) ?hr ?_; (case hd => rfl); (case hg => rfl); (case hr => first | (go_simp; done) | (go_simp; rfl)); intro g hg w1 hb HB; have XB := Aside0.mk HB; have BK := Aside0.mk hb; obtain ⟨k0, k1, k2, k3, k4, k5, k6⟩ := cells7 hb; clear hg hb HB) | (go_at_call 45; refine (is_c _ _).mono ?_; rintro e w' ⟨rfl, rfl⟩) | (go_at_call 43; refine (refspan_c _ _ _ (by omega) (by omega)).mono ?_; rintro e w' ⟨rfl, rfl⟩))
                go_ret
                exact ⟨rfl, XB.out⟩
              · have z6 : spB a c = false := by simpa using hz6
                clear hz6
                have HR : Aside0 (chkB 4 a c v t n o = false) := ⟨by simp_all [chkB, wB] <;> (intros; omega)⟩
                rw [HR.out]
                go_enter Try.func20, Try.ntmps20
                go_wp2_with (first | ((with_reducible refine gate_dst (N := 1) rfl ?_); refine box_event ?hg (N := 1) ?hd (cs := #[.int .i64 4, .int .i64 a, .int .i64 c, .slice A v.length cc, .int .i64 t, .int .i64 n, .int .i64 o]) (t := 24) ?hr ?_; (case hd => rfl); (case hg => rfl); (case hr => first | (go_simp; done) | (go_simp; rfl)); intro g hg w1 hb HB; have XB := Aside0.mk HB; have BK := Aside0.mk hb; obtain ⟨k0, k1, k2, k3, k4, k5, k6⟩ := cells7 hb; clear hg hb HB) | (go_at_call 45; refine (is_c _ _).mono ?_; rintro e w' ⟨rfl, rfl⟩) | (go_at_call 43; refine (refspan_c _ _ _ (by omega) (by omega)).mono ?_; rintro e w' ⟨rfl, rfl⟩))
                go_ret
                exact ⟨rfl, XB.out⟩
            · have z5 : decide (c ≤ 125) = false := by simpa using hz5
              clear hz5
              have HR : Aside0 (chkB 4 a c v t n o = false) := ⟨by simp_all [chkB, wB] <;> (intros; omega)⟩
              rw [HR.out]
              go_enter Try.func20, Try.ntmps20
              go_wp2_with (first | ((with_reducible refine gate_dst (N := 1) rfl ?_); refine box_event ?hg (N := 1) ?hd (cs := #[.int .i64 4, .int .i64 a, .int .i64 c, .slice A v.length cc, .int .i64 t, .int .i64 n, .int .i64 o]) (t := 24) ?hr ?_; (case hd => rfl); (case hg => rfl); (case hr => first | (go_simp; done) | (go_simp; rfl)); intro g hg w1 hb HB; have XB := Aside0.mk HB; have BK := Aside0.mk hb; obtain ⟨k0, k1, k2, k3, k4, k5, k6⟩ := cells7 hb; clear hg hb HB) | (go_at_call 45; refine (is_c _ _).mono ?_; rintro e w' ⟨rfl, rfl⟩) | (go_at_call 43; refine (refspan_c _ _ _ (by omega) (by omega)).mono ?_; rintro e w' ⟨rfl, rfl⟩))
              go_ret
              exact ⟨rfl, XB.out⟩
          · have z4 : decide (1 ≤ c) = false := by simpa using hz4
            clear hz4
            have HR : Aside0 (chkB 4 a c v t n o = false) := ⟨by simp_all [chkB, wB] <;> (intros; omega)⟩
            rw [HR.out]
            go_enter Try.func20, Try.ntmps20
            go_wp2_with (first | ((with_reducible refine gate_dst (N := 1) rfl ?_); refine box_event ?hg (N := 1) ?hd (cs := #[.int .i64 4, .int .i64 a, .int .i64 c, .slice A v.length cc, .int .i64 t, .int .i64 n, .int .i64 o]) (t := 24) ?hr ?_; (case hd => rfl); (case hg => rfl); (case hr => first | (go_simp; done) | (go_simp; rfl)); intro g hg w1 hb HB; have XB := Aside0.mk HB; have BK := Aside0.mk hb; obtain ⟨k0, k1, k2, k3, k4, k5, k6⟩ := cells7 hb; clear hg hb HB) | (go_at_call 45; refine (is_c _ _).mono ?_; rintro e w' ⟨rfl, rfl⟩) | (go_at_call 43; refine (refspan_c _ _ _ (by omega) (by omega)).mono ?_; rintro e w' ⟨rfl, rfl⟩))
            go_ret
            exact ⟨rfl, XB.out⟩
        · have z3 : (t == 0) = false := by simpa using hz3
          clear hz3
          have HR : Aside0 (chkB 4 a c v t n o = false) := ⟨by simp_all [chkB, wB] <;> (intros; omega)⟩
          rw [HR.out]
          go_enter Try.func20, Try.ntmps20
          go_wp2_with (first | ((with_reducible refine gate_dst (N := 1) rfl ?_); refine box_event ?hg (N := 1) ?hd (cs := #[.int .i64 4, .int .i64 a, .int .i64 c, .slice A v.length cc, .int .i64 t, .int .i64 n, .int .i64 o]) (t := 24) ?hr ?_; (case hd => rfl); (case hg => rfl); (case hr => first | (go_simp; done) | (go_simp; rfl)); intro g hg w1 hb HB; have XB := Aside0.mk HB; have BK := Aside0.mk hb; obtain ⟨k0, k1, k2, k3, k4, k5, k6⟩ := cells7 hb; clear hg hb HB) | (go_at_call 45; refine (is_c _ _).mono ?_; rintro e w' ⟨rfl, rfl⟩) | (go_at_call 43; refine (refspan_c _ _ _ (by omega) (by omega)).mono ?_; rintro e w' ⟨rfl, rfl⟩))
          go_ret
          exact ⟨rfl, XB.out⟩
      · have z2 : ((v.length : Int) == 0) = false := by simpa using hz2
        clear hz2
        have HR : Aside0 (chkB 4 a c v t n o = false) := ⟨by simp_all [chkB, wB] <;> (intros; omega)⟩
        rw [HR.out]
        go_enter Try.func20, Try.ntmps20
        go_wp2_with (first | ((with_reducible refine gate_dst (N := 1) rfl ?_); refine box_event ?hg (N := 1) ?hd (cs := #[.int .i64 4, .int .i64 a, .int .i64 c, .slice A v.length cc, .int .i64 t, .int .i64 n, .int .i64 o]) (t := 24) ?hr ?_; (case hd => rfl); (case hg => rfl); (case hr => first | (go_simp; done) | (go_simp; rfl)); intro g hg w1 hb HB; have XB := Aside0.mk HB; have BK := Aside0.mk hb; obtain ⟨k0, k1, k2, k3, k4, k5, k6⟩ := cells7 hb; clear hg hb HB) | (go_at_call 45; refine (is_c _ _).mono ?_; rintro e w' ⟨rfl, rfl⟩) | (go_at_call 43; refine (refspan_c _ _ _ (by omega) (by omega)).mono ?_; rintro e w' ⟨rfl, rfl⟩))
        go_ret
        exact ⟨rfl, XB.out⟩
    · have z1 : (o == 0) = false := by simpa using hz1
      clear hz1
      by_cases hz2 : ((v.length : Int) == 0) = true
      · have z2 : ((v.length : Int) == 0) = true := hz2; clear hz2
        have HR : Aside0 (chkB 4 a c v t n o = false) := ⟨by simp_all [chkB, wB] <;> (intros; omega)⟩
        rw [HR.out]
        go_enter Try.func20, Try.ntmps20
        go_wp2_with (first | ((with_reducible refine gate_dst (N := 1) rfl ?_); refine box_event ?hg (N := 1) ?hd (cs := #[.int .i64 4, .int .i64 a, .int .i64 c, .slice A v.length cc, .int .i64 t, .int .i64 n, .int .i64 o]) (t := 24) ?hr ?_; (case hd => rfl); (case hg => rfl); (case hr => first | (go_simp; done) | (go_simp; rfl)); intro g hg w1 hb HB; have XB := Aside0.mk HB; have BK := Aside0.mk hb; obtain ⟨k0, k1, k2, k3, k4, k5, k6⟩ := cells7 hb; clear hg hb HB) | (go_at_call 45; refine (is_c _ _).mono ?_; rintro e w' ⟨rfl, rfl⟩) | (go_at_call 43; refine (refspan_c _ _ _ (by omega) (by omega)).mono ?_; rintro e w' ⟨rfl, rfl⟩))
        go_ret
        exact ⟨rfl, XB.out⟩
      · have z2 : ((v.length : Int) == 0) = false := by simpa using hz2
        clear hz2
        have HR : Aside0 (chkB 4 a c v t n o = false) := ⟨by simp_all [chkB, wB] <;> (intros; omega)⟩
        rw [HR.out]
        go_enter Try.func20, Try.ntmps20
        go_wp2_with (first | ((with_reducible refine gate_dst (N := 1) rfl ?_); refine box_event ?hg (N := 1) ?hd (cs := #[.int .i64 4, .int .i64 a, .int .i64 c, .slice A v.length cc, .int .i64 t, .int .i64 n, .int .i64 o]) (t := 24) ?hr ?_; (case hd => rfl); (case hg => rfl); (case hr => first | (go_simp; done) | (go_simp; rfl)); intro g hg w1 hb HB; have XB := Aside0.mk HB; have BK := Aside0.mk hb; obtain ⟨k0, k1, k2, k3, k4, k5, k6⟩ := cells7 hb; clear hg hb HB) | (go_at_call 45; refine (is_c _ _).mono ?_; rintro e w' ⟨rfl, rfl⟩) | (go_at_call 43; refine (refspan_c _ _ _ (by omega) (by omega)).mono ?_; rintro e w' ⟨rfl, rfl⟩))
        go_ret
        exact ⟨rfl, XB.out⟩
  · have z0 : (n == 0) = false := by simpa using hz0
    clear hz0
    by_cases hz1 : ((v.length : Int) == 0) = true
    · have z1 : ((v.length : Int) == 0) = true := hz1; clear hz1
      have HR : Aside0 (chkB 4 a c v t n o = false) := ⟨by simp_all [chkB, wB] <;> (intros; omega)⟩
      rw [HR.out]
      go_enter Try.func20, Try.ntmps20
      go_wp2_with (first | ((with_reducible refine gate_dst (N := 1) rfl ?_); refine box_event ?hg (N := 1) ?hd (cs := #[.int .i64 4, .int .i64 a, .int .i64 c, .slice A v.length cc, .int .i64 t, .int .i64 n, .int .i64 o]) (t := 24) ?hr ?_; (case hd => rfl); (case hg => rfl); (case hr => first | (go_simp; done) | (go_simp; rfl)); intro g hg w1 hb HB; have XB := Aside0.mk HB; have BK := Aside0.mk hb; obtain ⟨k0, k1, k2, k3, k4, k5, k6⟩ := cells7 hb; clear hg hb HB) | (go_at_call 45; refine (is_c _ _).mono ?_; rintro e w' ⟨rfl, rfl⟩) | (go_at_call 43; refine (refspan_c _ _ _ (by omega) (by omega)).mono ?_; rintro e w' ⟨rfl, rfl⟩))
      go_ret
      exact ⟨rfl, XB.out⟩
    · have z1 : ((v.length : Int) == 0) = false := by simpa using hz1
      clear hz1
      have HR : Aside0 (chkB 4 a c v t n o = false) := ⟨by simp_all [chkB, wB] <;> (intros; omega)⟩
      rw [HR.out]
      go_enter Try.func20, Try.ntmps20
      go_wp2_with (first | ((with_reducible refine gate_dst (N := 1) rfl ?_); refine box_event ?hg (N := 1) ?hd (cs := #[.int .i64 4, .int .i64 a, .int .i64 c, .slice A v.length cc, .int .i64 t, .int .i64 n, .int .i64 o]) (t := 24) ?hr ?_; (case hd => rfl); (case hg => rfl); (case hr => first | (go_simp; done) | (go_simp; rfl)); intro g hg w1 hb HB; have XB := Aside0.mk HB; have BK := Aside0.mk hb; obtain ⟨k0, k1, k2, k3, k4, k5, k6⟩ := cells7 hb; clear hg hb HB) | (go_at_call 45; refine (is_c _ _).mono ?_; rintro e w' ⟨rfl, rfl⟩) | (go_at_call 43; refine (refspan_c _ _ _ (by omega) (by omega)).mono ?_; rintro e w' ⟨rfl, rfl⟩))
      go_ret
      exact ⟨rfl, XB.out⟩
end Go.Proofs.Ytocicifgglkaeaa.Chk
end

section
namespace Go.Proofs.Ytocicifgglkaeaa.Chk
open Go.RowKit Go.Proofs.YtocicifgglkaeaaW.PrintWords Go.Proofs.YtocicifgglkaeaaW.PrintLast Go.Proofs.YtocicifgglkaeaaW.PrintMore Go.Proofs.Ytocicifgglkaeaa.Core Go.Proofs.Ytocicifgglkaeaa.Wk
set_option linter.unusedVariables false
set_option linter.unusedSimpArgs false
set_option maxHeartbeats 4000000 in
set_option maxRecDepth 100000 in
theorem may_5 (a c : Int) (A : Option Addr) (cc : Nat) (v : List Int) (t n o : Int) (w : World) (hV : Kd.C (Kd.int .i64) w A v.length v) : Calls Try.prog 20 #[.agg #[.int .i64 5, .int .i64 a, .int .i64 c, .slice A v.length cc, .int .i64 t, .int .i64 n, .int .i64 o]] w fun e w' => e = .returned (.bool (chkB 5 a c v t n o)) ∧ Below w.heap.size w w' := by
  have HV := Aside0.mk hV; clear hV
  by_cases hz0 : (n == 0) = true
  · have z0 : (n == 0) = true := hz0; clear hz0
    by_cases hz1 : (o == 0) = true
    · have z1 : (o == 0) = true := hz1; clear hz1
      by_cases hz2 : (t == 0) = true
      · have z2 : (t == 0) = true := hz2; clear hz2
        by_cases hz3 : (c == 0) = true
        · have z3 : (c == 0) = true := hz3; clear hz3
          by_cases hz4 : smB 1 1 1 v = true
          · have z4 : smB 1 1 1 v = true := hz4; clear hz4; have pz4 := smB_len z4
            by_cases hz5 : spB a 1 = true
            · have z5 : spB a 1 = true := hz5; clear hz5
              have HR : Aside0 (chkB 5 a c v t n o = true) := ⟨by simp_all [chkB, wB] <;> (intros; omega)⟩
              rw [HR.out]
              go_enter Try.func20, Try.ntmps20
              go_wp2_with (first | ((with_reducible refine gate_dst (N := 1) rfl ?_); refine box_event ?hg (N := 1) ?hd (cs := #[.int .i64 5, .int .i64 a, .int .i64 c, .slice A v.length cc, .int .i64 t, .int .i64 n, .int .i64 o]) (t := 24) ?hr ?_; (case hd => rfl); (case hg => rfl); (case hr => first | (go_simp; done) | (go_simp; rfl)); intro g hg w1 hb HB; have XB := Aside0.mk HB; have BK := Aside0.mk hb; obtain ⟨k0, k1, k2, k3, k4, k5, k6⟩ := cells7 hb; clear hg hb HB) | (go_at_call 45; refine (is_c _ _).mono ?_; rintro e w' ⟨rfl, rfl⟩) | (go_at_call 43; refine (refspan_c _ _ _ (by omega) (by omega)).mono ?_; rintro e w' ⟨rfl, rfl⟩) | (go_at_call 44; refine (vals_c 5 a c A cc v t n o _ _ _ (Kd.C_below HV.out XB.out) (m := 1) (by decide)).mono ?_; rintro e w2 ⟨rfl, HB⟩; have XBn := Aside0.mk (below_step XB.out HB); have BKn := Aside0.mk (blk_below BK.out HB); obtain ⟨k0, k1, k2, k3, k4, k5, k6⟩ := cells7 BKn.out; clear HB XB BK; have XB := XBn; have BK := BKn))
              go_ret
              exact ⟨rfl, XB.out⟩
            · have z5 : spB a 1 = false := by simpa using hz5
              clear hz5
              have HR : Aside0 (chkB 5 a c v t n o = false) := ⟨by simp_all [chkB, wB] <;> (intros; omega)⟩
              rw [HR.out]
              go_enter Try.func20, Try.ntmps20
              go_wp2_with (first | ((with_reducible refine gate_dst (N := 1) rfl ?_); refine box_event ?hg (N := 1) ?hd (cs := #[.int .i64 5, .int .i64 a, .int .i64 c, .slice A v.length cc, .int .i64 t, .int .i64 n, .int .i64 o]) (t := 24) ?hr ?_; (case hd => rfl); (case hg => rfl); (case hr => first | (go_simp; done) | (go_simp; rfl)); intro g hg w1 hb HB; have XB := Aside0.mk HB; have BK := Aside0.mk hb; obtain ⟨k0, k1, k2, k3, k4, k5, k6⟩ := cells7 hb; clear hg hb HB) | (go_at_call 45; refine (is_c _ _).mono ?_; rintro e w' ⟨rfl, rfl⟩) | (go_at_call 43; refine (refspan_c _ _ _ (by omega) (by omega)).mono ?_; rintro e w' ⟨rfl, rfl⟩) | (go_at_call 44; refine (vals_c 5 a c A cc v t n o _ _ _ (Kd.C_below HV.out XB.out) (m := 1) (by decide)).mono ?_; rintro e w2 ⟨rfl, HB⟩; have XBn := Aside0.mk (below_step XB.out HB); have BKn := Aside0.mk (blk_below BK.out HB); obtain ⟨k0, k1, k2, k3, k4, k5, k6⟩ := cells7 BKn.out; clear HB XB BK; have XB := XBn; have BK := BKn))
              go_ret
              exact ⟨rfl, XB.out⟩
          · have z4 : smB 1 1 1 v = false := by simpa using hz4
            clear hz4
            have HR : Aside0 (chkB 5 a c v t n o = false) := ⟨by simp_all [chkB, wB] <;> (intros; omega)⟩
            rw [HR.out]
            go_enter Try.func20, Try.ntmps20
            go_wp2_with (first | ((with_reducible refine gate_dst (N := 1) rfl ?_); refine box_event ?hg (N := 1) ?hd (cs := #[.int .i64 5, .int .i64 a, .int .i64 c, .slice A v.length cc, .int .i64 t, .int .i64 n, .int .i64 o]) (t := 24) ?hr ?_; (case hd => rfl); (case hg => rfl); (case hr => first | (go_simp; done) | (go_simp; rfl)); intro g hg w1 hb HB; have XB := Aside0.mk HB; have BK := Aside0.mk hb; obtain ⟨k0, k1, k2, k3, k4, k5, k6⟩ := cells7 hb; clear hg hb HB) | (go_at_call 45; refine (is_c _ _).mono ?_; rintro e w' ⟨rfl, rfl⟩) | (go_at_call 43; refine (refspan_c _ _ _ (by omega) (by omega)).mono ?_; rintro e w' ⟨rfl, rfl⟩) | (go_at_call 44; refine (vals_c 5 a c A cc v t n o _ _ _ (Kd.C_below HV.out XB.out) (m := 1) (by decide)).mono ?_; rintro e w2 ⟨rfl, HB⟩; have XBn := Aside0.mk (below_step XB.out HB); have BKn := Aside0.mk (blk_below BK.out HB); obtain ⟨k0, k1, k2, k3, k4, k5, k6⟩ := cells7 BKn.out; clear HB XB BK; have XB := XBn; have BK := BKn))
            go_ret
            exact ⟨rfl, XB.out⟩
        · have z3 : (c == 0) = false := by simpa using hz3
          clear hz3
          have HR : Aside0 (chkB 5 a c v t n o = false) := ⟨by simp_all [chkB, wB] <;> (intros; omega)⟩
          rw [HR.out]
          go_enter Try.func20, Try.ntmps20
          go_wp2_with (first | ((with_reducible refine gate_dst (N := 1) rfl ?_); refine box_event ?hg (N := 1) ?hd (cs := #[.int .i64 5, .int .i64 a, .int .i64 c, .slice A v.length cc, .int .i64 t, .int .i64 n, .int .i64 o]) (t := 24) ?hr ?_; (case hd => rfl); (case hg => rfl); (case hr => first | (go_simp; done) | (go_simp; rfl)); intro g hg w1 hb HB; have XB := Aside0.mk HB; have BK := Aside0.mk hb; obtain ⟨k0, k1, k2, k3, k4, k5, k6⟩ := cells7 hb; clear hg hb HB) | (go_at_call 45; refine (is_c _ _).mono ?_; rintro e w' ⟨rfl, rfl⟩) | (go_at_call 43; refine (refspan_c _ _ _ (by omega) (by omega)).mono ?_; rintro e w' ⟨rfl, rfl⟩) | (go_at_call 44; refine (vals_c 5 a c A cc v t n o _ _ _ (Kd.C_below HV.out XB.out) (m := 1) (by decide)).mono ?_; rintro e w2 ⟨rfl, HB⟩; have XBn := Aside0.mk (below_step XB.out HB); have BKn := Aside0.mk (blk_below BK.out HB); obtain ⟨k0, k1, k2, k3, k4, k5, k6⟩ := cells7 BKn.out; clear HB XB BK; have XB := XBn; have BK := BKn))
          go_ret
          exact ⟨rfl, XB.out⟩
      · have z2 : (t == 0) = false := by simpa using hz2
        clear hz2
        have HR : Aside0 (chkB 5 a c v t n o = false) := ⟨by simp_all [chkB, wB] <;> (intros; omega)⟩
        rw [HR.out]
        go_enter Try.func20, Try.ntmps20
        go_wp2_with (first | ((with_reducible refine gate_dst (N := 1) rfl ?_); refine box_event ?hg (N := 1) ?hd (cs := #[.int .i64 5, .int .i64 a, .int .i64 c, .slice A v.length cc, .int .i64 t, .int .i64 n, .int .i64 o]) (t := 24) ?hr ?_; (case hd => rfl); (case hg => rfl); (case hr => first | (go_simp; done) | (go_simp; rfl)); intro g hg w1 hb HB; have XB := Aside0.mk HB; have BK := Aside0.mk hb; obtain ⟨k0, k1, k2, k3, k4, k5, k6⟩ := cells7 hb; clear hg hb HB) | (go_at_call 45; refine (is_c _ _).mono ?_; rintro e w' ⟨rfl, rfl⟩) | (go_at_call 43; refine (refspan_c _ _ _ (by omega) (by omega)).mono ?_; rintro e w' ⟨rfl, rfl⟩) | (go_at_call 44; refine (vals_c 5 a c A cc v t n o _ _ _ (Kd.C_below HV.out XB.out) (m := 1) (by decide)).mono ?_; rintro e w2 ⟨rfl, HB⟩; have XBn := Aside0.mk (below_step XB.out HB); have BKn := Aside0.mk (blk_below BK.out HB); obtain ⟨k0, k1, k2, k3, k4, k5, k6⟩ := cells7 BKn.out; clear HB XB BK; have XB := XBn; have BK := BKn))
        go_ret
        exact ⟨rfl, XB.out⟩
    · have z1 : (o == 0) = false := by simpa using hz1
      clear hz1
      have HR : Aside0 (chkB 5 a c v t n o = false) := ⟨by simp_all [chkB, wB] <;> (intros; omega)⟩
      rw [HR.out]
      go_enter Try.func20, Try.ntmps20
      go_wp2_with (first | ((with_reducible refine gate_dst (N := 1) rfl ?_); refine box_event ?hg (N := 1) ?hd (cs := #[.int .i64 5, .int .i64 a, .int .i64 c, .slice A v.length cc, .int .i64 t, .int .i64 n, .int .i64 o]) (t := 24) ?hr ?_; (case hd => rfl); (case hg => rfl); (case hr => first | (go_simp; done) | (go_simp; rfl)); intro g hg w1 hb HB; have XB := Aside0.mk HB; have BK := Aside0.mk hb; obtain ⟨k0, k1, k2, k3, k4, k5, k6⟩ := cells7 hb; clear hg hb HB) | (go_at_call 45; refine (is_c _ _).mono ?_; rintro e w' ⟨rfl, rfl⟩) | (go_at_call 43; refine (refspan_c _ _ _ (by omega) (by omega)).mono ?_; rintro e w' ⟨rfl, rfl⟩) | (go_at_call 44; refine (vals_c 5 a c A cc v t n o _ _ _ (Kd.C_below HV.out XB.out) (m := 1) (by decide)).mono ?_; rintro e w2 ⟨rfl, HB⟩; have XBn := Aside0.mk (below_step XB.out HB); have BKn := Aside0.mk (blk_below BK.out HB); obtain ⟨k0, k1, k2, k3, k4, k5, k6⟩ := cells7 BKn.out; clear HB XB BK; have XB := XBn; have BK := BKn))
      go_ret
      exact ⟨rfl, XB.out⟩
  · have z0 : (n == 0) = false := by simpa using hz0
    clear hz0
    have HR : Aside0 (chkB 5 a c v t n o = false) := ⟨by simp_all [chkB, wB] <;> (intros; omega)⟩
    rw [HR.out]
    go_enter Try.func20, Try.ntmps20
    go_wp2_with (first | ((with_reducible refine gate_dst (N := 1) rfl ?_); refine box_event ?hg (N := 1) ?hd (cs := #[.int .i64 5, .int .i64 a, .int .i64 c, .slice A v.length cc, .int .i64 t, .int .i64 n, .int .i64 o]) (t := 24) ?hr ?_; (case hd => rfl); (case hg => rfl); (case hr => first | (go_simp; done) | (go_simp; rfl)); intro g hg w1 hb HB; have XB := Aside0.mk HB; have BK := Aside0.mk hb; obtain ⟨k0, k1, k2, k3, k4, k5, k6⟩ := cells7 hb; clear hg hb HB) | (go_at_call 45; refine (is_c _ _).mono ?_; rintro e w' ⟨rfl, rfl⟩) | (go_at_call 43; refine (refspan_c _ _ _ (by omega) (by omega)).mono ?_; rintro e w' ⟨rfl, rfl⟩) | (go_at_call 44; refine (vals_c 5 a c A cc v t n o _ _ _ (Kd.C_below HV.out XB.out) (m := 1) (by decide)).mono ?_; rintro e w2 ⟨rfl, HB⟩; have XBn := Aside0.mk (below_step XB.out HB); have BKn := Aside0.mk (blk_below BK.out HB); obtain ⟨k0, k1, k2, k3, k4, k5, k6⟩ := cells7 BKn.out; clear HB XB BK; have XB := XBn; have BK := BKn))
    go_ret
    exact ⟨rfl, XB.out⟩
set_option maxHeartbeats 4000000 in
set_option maxRecDepth 100000 in
theorem may_6 (a c : Int) (A : Option Addr) (cc : Nat) (v : List Int) (t n o : Int) (w : World) (hV : Kd.C (Kd.int .i64) w A v.length v) : Calls Try.prog 20 #[.agg #[.int .i64 6, .int .i64 a, .int .i64 c, .slice A v.length cc, .int .i64 t, .int .i64 n, .int .i64 o]] w fun e w' => e = .returned (.bool (chkB 6 a c v t n o)) ∧ Below w.heap.size w w' := by
  have HV := Aside0.mk hV; clear hV
  by_cases hz0 : (n == 0) = true
  · have z0 : (n == 0) = true := hz0; clear hz0
    by_cases hz1 : (o == 0) = true
    · have z1 : (o == 0) = true := hz1; clear hz1
      by_cases hz2 : (t == 0) = true
      · have z2 : (t == 0) = true := hz2; clear hz2
        by_cases hz3 : (c == 0) = true
        · have z3 : (c == 0) = true := hz3; clear hz3
          by_cases hz4 : smB 1 1 65535 v = true
          · have z4 : smB 1 1 65535 v = true := hz4; clear hz4; have pz4 := smB_len z4
            by_cases hz5 : spB a 1 = true
            · have z5 : spB a 1 = true := hz5; clear hz5
              have HR : Aside0 (chkB 6 a c v t n o = true) := ⟨by simp_all [chkB, wB] <;> (intros; omega)⟩
              rw [HR.out]
              go_enter Try.func20, Try.ntmps20
              go_wp2_with (first | ((with_reducible refine gate_dst (N := 1) rfl ?_); refine box_event ?hg (N := 1) ?hd (cs := #[.int .i64 6, .int .i64 a, .int .i64 c, .slice A v.length cc, .int .i64 t, .int .i64 n, .int .i64 o]) (t := 24) ?hr ?_; (case hd => rfl); (case hg => rfl); (case hr => first | (go_simp; done) | (go_simp; rfl)); intro g hg w1 hb HB; have XB := Aside0.mk HB; have BK := Aside0.mk hb; obtain ⟨k0, k1, k2, k3, k4, k5, k6⟩ := cells7 hb; clear hg hb HB) | (go_at_call 45; refine (is_c _ _).mono ?_; rintro e w' ⟨rfl, rfl⟩) | (go_at_call 43; refine (refspan_c _ _ _ (by omega) (by omega)).mono ?_; rintro e w' ⟨rfl, rfl⟩) | (go_at_call 44; refine (vals_c 6 a c A cc v t n o _ _ _ (Kd.C_below HV.out XB.out) (m := 65535) (by decide)).mono ?_; rintro e w2 ⟨rfl, HB⟩; have XBn := Aside0.mk (below_step XB.out HB); have BKn := Aside0.mk (blk_below BK.out HB); obtain ⟨k0, k1, k2, k3, k4, k5, k6⟩ := cells7 BKn.out; clear HB XB BK; have XB := XBn; have BK := BKn))
              go_ret
              exact ⟨rfl, XB.out⟩
            · have z5 : spB a 1 = false := by simpa using hz5
              clear hz5
              have HR : Aside0 (chkB 6 a c v t n o = false) := ⟨by simp_all [chkB, wB] <;> (intros; omega)⟩
              rw [HR.out]
              go_enter Try.func20, Try.ntmps20
              go_wp2_with (first | ((with_reducible refine gate_dst (N := 1) rfl ?_); refine box_event ?hg (N := 1) ?hd (cs := #[.int .i64 6, .int .i64 a, .int .i64 c, .slice A v.length cc, .int .i64 t, .int .i64 n, .int .i64 o]) (t := 24) ?hr ?_; (case hd => rfl); (case hg => rfl); (case hr => first | (go_simp; done) | (go_simp; rfl)); intro g hg w1 hb HB; have XB := Aside0.mk HB; have BK := Aside0.mk hb; obtain ⟨k0, k1, k2, k3, k4, k5, k6⟩ := cells7 hb; clear hg hb HB) | (go_at_call 45; refine (is_c _ _).mono ?_; rintro e w' ⟨rfl, rfl⟩) | (go_at_call 43; refine (refspan_c _ _ _ (by omega) (by omega)).mono ?_; rintro e w' ⟨rfl, rfl⟩) | (go_at_call 44; refine (vals_c 6 a c A cc v t n o _ _ _ (Kd.C_below HV.out XB.out) (m := 65535) (by decide)).mono ?_; rintro e w2 ⟨rfl, HB⟩; have XBn := Aside0.mk (below_step XB.out HB); have BKn := Aside0.mk (blk_below BK.out HB); obtain ⟨k0, k1, k2, k3, k4, k5, k6⟩ := cells7 BKn.out; clear HB XB BK; have XB := XBn; have BK := BKn))
              go_ret
              exact ⟨rfl, XB.out⟩
          · have z4 : smB 1 1 65535 v = false := by simpa using hz4
            clear hz4
            have HR : Aside0 (chkB 6 a c v t n o = false) := ⟨by simp_all [chkB, wB] <;> (intros; omega)⟩
            rw [HR.out]
            go_enter Try.func20, Try.ntmps20
            go_wp2_with (first | ((with_reducible refine gate_dst (N := 1) rfl ?_); refine box_event ?hg (N := 1) ?hd (cs := #[.int .i64 6, .int .i64 a, .int .i64 c, .slice A v.length cc, .int .i64 t, .int .i64 n, .int .i64 o]) (t := 24) ?hr ?_; (case hd => rfl); (case hg => rfl); (case hr => first | (go_simp; done) | (go_simp; rfl)); intro g hg w1 hb HB; have XB := Aside0.mk HB; have BK := Aside0.mk hb; obtain ⟨k0, k1, k2, k3, k4, k5, k6⟩ := cells7 hb; clear hg hb HB) | (go_at_call 45; refine (is_c _ _).mono ?_; rintro e w' ⟨rfl, rfl⟩) | (go_at_call 43; refine (refspan_c _ _ _ (by omega) (by omega)).mono ?_; rintro e w' ⟨rfl, rfl⟩) | (go_at_call 44; refine (vals_c 6 a c A cc v t n o _ _ _ (Kd.C_below HV.out XB.out) (m := 65535) (by decide)).mono ?_; rintro e w2 ⟨rfl, HB⟩; have XBn := Aside0.mk (below_step XB.out HB); have BKn := Aside0.mk (blk_below BK.out HB); obtain ⟨k0, k1, k2, k3, k4, k5, k6⟩ := cells7 BKn.out; clear HB XB BK; have XB := XBn; have BK := BKn))
            go_ret
            exact ⟨rfl, XB.out⟩
        · have z3 : (c == 0) = false := by simpa using hz3
          clear hz3
          have HR : Aside0 (chkB 6 a c v t n o = false) := ⟨by simp_all [chkB, wB] <;> (intros; omega)⟩
          rw [HR.out]
          go_enter Try.func20, Try.ntmps20
          go_wp2_with (first | ((with_reducible refine gate_dst (N := 1) rfl ?_); refine box_event ?hg (N := 1) ?hd (cs := #[.int .i64 6, .int .i64 a, .int .i64 c, .slice A v.length cc, .int .i64 t, .int .i64 n, .int .i64 o]) (t := 24) ?hr ?_; (case hd => rfl); (case hg => rfl); (case hr => first | (go_simp; done) | (go_simp; rfl)); intro g hg w1 hb HB; have XB := Aside0.mk HB; have BK := Aside0.mk hb; obtain ⟨k0, k1, k2, k3, k4, k5, k6⟩ := cells7 hb; clear hg hb HB) | (go_at_call 45; refine (is_c _ _).mono ?_; rintro e w' ⟨rfl, rfl⟩) | (go_at_call 43; refine (refspan_c _ _ _ (by omega) (by omega)).mono ?_; rintro e w' ⟨rfl, rfl⟩) | (go_at_call 44; refine (vals_c 6 a c A cc v t n o _ _ _ (Kd.C_below HV.out XB.out) (m := 65535) (by decide)).mono ?_; rintro e w2 ⟨rfl, HB⟩; have XBn := Aside0.mk (below_step XB.out HB); have BKn := Aside0.mk (blk_below BK.out HB); obtain ⟨k0, k1, k2, k3, k4, k5, k6⟩ := cells7 BKn.out; clear HB XB BK; have XB := XBn; have BK := BKn))
          go_ret
          exact ⟨rfl, XB.out⟩
      · have z2 : (t == 0) = false := by simpa using hz2
        clear hz2
        have HR : Aside0 (chkB 6 a c v t n o = false) := ⟨by simp_all [chkB, wB] <;> (intros; omega)⟩
        rw [HR.out]
        go_enter Try.func20, Try.ntmps20
        go_wp2_with (first | ((with_reducible refine gate_dst (N := 1) rfl ?_); refine box_event ?hg (N := 1) ?hd (cs := #[.int .i64 6, .int .i64 a, .int .i64 c, .slice A v.length cc, .int .i64 t, .int .i64 n, .int .i64 o]) (t := 24) ?hr ?_; (case hd => rfl); (case hg => rfl); (case hr => first | (go_simp; done) | (go_simp; rfl)); intro g hg w1 hb HB; have XB := Aside0.mk HB; have BK := Aside0.mk hb; obtain ⟨k0, k1, k2, k3, k4, k5, k6⟩ := cells7 hb; clear hg hb HB) | (go_at_call 45; refine (is_c _ _).mono ?_; rintro e w' ⟨rfl, rfl⟩) | (go_at_call 43; refine (refspan_c _ _ _ (by omega) (by omega)).mono ?_; rintro e w' ⟨rfl, rfl⟩) | (go_at_call 44; refine (vals_c 6 a c A cc v t n o _ _ _ (Kd.C_below HV.out XB.out) (m := 65535) (by decide)).mono ?_; rintro e w2 ⟨rfl, HB⟩; have XBn := Aside0.mk (below_step XB.out HB); have BKn := Aside0.mk (blk_below BK.out HB); obtain ⟨k0, k1, k2, k3, k4, k5, k6⟩ := cells7 BKn.out; clear HB XB BK; have XB := XBn; have BK := BKn))
        go_ret
        exact ⟨rfl, XB.out⟩
    · have z1 : (o == 0) = false := by simpa using hz1
      clear hz1
      have HR : Aside0 (chkB 6 a c v t n o = false) := ⟨by simp_all [chkB, wB] <;> (intros; omega)⟩
      rw [HR.out]
      go_enter Try.func20, Try.ntmps20
      go_wp2_with (first | ((with_reducible refine gate_dst (N := 1) rfl ?_); refine box_event ?hg (N := 1) ?hd (cs := #[.int .i64 6, .int .i64 a, .int .i64 c, .slice A v.length cc, .int .i64 t, .int .i64 n, .int .i64 o]) (t := 24) ?hr ?_; (case hd => rfl); (case hg => rfl); (case hr => first | (go_simp; done) | (go_simp; rfl)); intro g hg w1 hb HB; have XB := Aside0.mk HB; have BK := Aside0.mk hb; obtain ⟨k0, k1, k2, k3, k4, k5, k6⟩ := cells7 hb; clear hg hb HB) | (go_at_call 45; refine (is_c _ _).mono ?_; rintro e w' ⟨rfl, rfl⟩) | (go_at_call 43; refine (refspan_c _ _ _ (by omega) (by omega)).mono ?_; rintro e w' ⟨rfl, rfl⟩) | (go_at_call 44; refine (vals_c 6 a c A cc v t n o _ _ _ (Kd.C_below HV.out XB.out) (m := 65535) (by decide)).mono ?_; rintro e w2 ⟨rfl, HB⟩; have XBn := Aside0.mk (below_step XB.out HB); have BKn := Aside0.mk (blk_below BK.out HB); obtain ⟨k0, k1, k2, k3, k4, k5, k6⟩ := cells7 BKn.out; clear HB XB BK; have XB := XBn; have BK := BKn))
      go_ret
      exact ⟨rfl, XB.out⟩
  · have z0 : (n == 0) = false := by simpa using hz0
    clear hz0
    have HR : Aside0 (chkB 6 a c v t n o = false) := ⟨by simp_all [chkB, wB] <;> (intros; omega)⟩
    rw [HR.out]
    go_enter Try.func20, Try.ntmps20
    go_wp2_with (first | ((with_reducible refine gate_dst (N := 1) rfl ?_); refine box_event ?hg (N := 1) ?hd (cs := #[.int .i64 6, .int .i64 a, .int .i64 c, .slice A v.length cc, .int .i64 t, .int .i64 n, .int .i64 o]) (t := 24) ?hr ?_; (case hd => rfl); (case hg => rfl); (case hr => first | (go_simp; done) | (go_simp; rfl)); intro g hg w1 hb HB; have XB := Aside0.mk HB; have BK := Aside0.mk hb; obtain ⟨k0, k1, k2, k3, k4, k5, k6⟩ := cells7 hb; clear hg hb HB) | (go_at_call 45; refine (is_c _ _).mono ?_; rintro e w' ⟨rfl, rfl⟩) | (go_at_call 43; refine (refspan_c _ _ _ (by omega) (by omega)).mono ?_; rintro e w' ⟨rfl, rfl⟩) | (go_at_call 44; refine (vals_c 6 a c A cc v t n o _ _ _ (Kd.C_below HV.out XB.out) (m := 65535) (by decide)).mono ?_; rintro e w2 ⟨rfl, HB⟩; have XBn := Aside0.mk (below_step XB.out HB); have BKn := Aside0.mk (blk_below BK.out HB); obtain ⟨k0, k1, k2, k3, k4, k5, k6⟩ := cells7 BKn.out; clear HB XB BK; have XB := XBn; have BK := BKn))
    go_ret
    exact ⟨rfl, XB.out⟩
end Go.Proofs.Ytocicifgglkaeaa.Chk
end

section
namespace Go.Proofs.Ytocicifgglkaeaa.Chk
open Go.RowKit Go.Proofs.YtocicifgglkaeaaW.PrintWords Go.Proofs.YtocicifgglkaeaaW.PrintLast Go.Proofs.YtocicifgglkaeaaW.PrintMore Go.Proofs.Ytocicifgglkaeaa.Core Go.Proofs.Ytocicifgglkaeaa.Wk
set_option linter.unusedVariables false
set_option linter.unusedSimpArgs false
set_option maxHeartbeats 4000000 in
set_option maxRecDepth 100000 in
theorem may_15 (a c : Int) (A : Option Addr) (cc : Nat) (v : List Int) (t n o : Int) (w : World) (hV : Kd.C (Kd.int .i64) w A v.length v) : Calls Try.prog 20 #[.agg #[.int .i64 15, .int .i64 a, .int .i64 c, .slice A v.length cc, .int .i64 t, .int .i64 n, .int .i64 o]] w fun e w' => e = .returned (.bool (chkB 15 a c v t n o)) ∧ Below w.heap.size w w' := by
  have HV := Aside0.mk hV; clear hV
  by_cases hz0 : (n == 0) = true
  · have z0 : (n == 0) = true := hz0; clear hz0
    by_cases hz1 : (o == 0) = true
    · have z1 : (o == 0) = true := hz1; clear hz1
      by_cases hz2 : (t == 0) = true
      · have z2 : (t == 0) = true := hz2; clear hz2
        by_cases hz3 : (c == (v.length : Int)) = true
        · have z3 : (c == (v.length : Int)) = true := hz3; clear hz3
          by_cases hz4 : smB 1 1968 1 v = true
          · have z4 : smB 1 1968 1 v = true := hz4; clear hz4; have pz4 := smB_len z4
            by_cases hz5 : spB a v.length = true
            · have z5 : spB a v.length = true := hz5; clear hz5
              have HR : Aside0 (chkB 15 a c v t n o = true) := ⟨by simp_all [chkB, wB] <;> (intros; omega)⟩
              rw [HR.out]
              go_enter Try.func20, Try.ntmps20
              go_wp2_with (first | ((with_reducible refine gate_dst (N := 1) rfl ?_); refine box_event ?hg (N := 1) ?hd (cs := #[.int .i64 15, .int .i64 a, .int .i64 c, .slice A v.length cc, .int .i64 t, .int .i64 n, .int .i64 o]) (t := 24) ?hr ?_; (case hd => rfl); (case hg => rfl); (case hr => first | (go_simp; done) | (go_simp; rfl)); intro g hg w1 hb HB; have XB := Aside0.mk HB; have BK := Aside0.mk hb; obtain ⟨k0, k1, k2, k3, k4, k5, k6⟩ := cells7 hb; clear hg hb HB) | (go_at_call 45; refine (is_c _ _).mono ?_; rintro e w' ⟨rfl, rfl⟩) | (go_at_call 43; refine (refspan_c _ _ _ (by omega) (by omega)).mono ?_; rintro e w' ⟨rfl, rfl⟩) | (go_at_call 44; refine (vals_c 15 a c A cc v t n o _ _ _ (Kd.C_below HV.out XB.out) (m := 1) (by decide)).mono ?_; rintro e w2 ⟨rfl, HB⟩; have XBn := Aside0.mk (below_step XB.out HB); have BKn := Aside0.mk (blk_below BK.out HB); obtain ⟨k0, k1, k2, k3, k4, k5, k6⟩ := cells7 BKn.out; clear HB XB BK; have XB := XBn; have BK := BKn))
              go_ret
              exact ⟨rfl, XB.out⟩
            · have z5 : spB a v.length = false := by simpa using hz5
              clear hz5
              have HR : Aside0 (chkB 15 a c v t n o = false) := ⟨by simp_all [chkB, wB] <;> (intros; omega)⟩
              rw [HR.out]
              go_enter Try.func20, Try.ntmps20
              go_wp2_with (first | ((with_reducible refine gate_dst (N := 1) rfl ?_); refine box_event ?hg (N := 1) ?hd (cs := #[.int .i64 15, .int .i64 a, .int .i64 c, .slice A v.length cc, .int .i64 t, .int .i64 n, .int .i64 o]) (t := 24) ?hr ?_; (case hd => rfl); (case hg => rfl); (case hr => first | (go_simp; done) | (go_simp; rfl)); intro g hg w1 hb HB; have XB := Aside0.mk HB; have BK := Aside0.mk hb; obtain ⟨k0, k1, k2, k3, k4, k5, k6⟩ := cells7 hb; clear hg hb HB) | (go_at_call 45; refine (is_c _ _).mono ?_; rintro e w' ⟨rfl, rfl⟩) | (go_at_call 43; refine (refspan_c _ _ _ (by omega) (by omega)).mono ?_; rintro e w' ⟨rfl, rfl⟩) | (go_at_call 44; refine (vals_c 15 a c A cc v t n o _ _ _ (Kd.C_below HV.out XB.out) (m := 1) (by decide)).mono ?_; rintro e w2 ⟨rfl, HB⟩; have XBn := Aside0.mk (below_step XB.out HB); have BKn := Aside0.mk (blk_below BK.out HB); obtain ⟨k0, k1, k2, k3, k4, k5, k6⟩ := cells7 BKn.out; clear HB XB BK; have XB := XBn; have BK := BKn))
              go_ret
              exact ⟨rfl, XB.out⟩
          · have z4 : smB 1 1968 1 v = false := by simpa using hz4
            clear hz4
            have HR : Aside0 (chkB 15 a c v t n o = false) := ⟨by simp_all [chkB, wB] <;> (intros; omega)⟩
            rw [HR.out]
            go_enter Try.func20, Try.ntmps20
            go_wp2_with (first | ((with_reducible refine gate_dst (N := 1) rfl ?_); refine box_event ?hg (N := 1) ?hd (cs := #[.int .i64 15, .int .i64 a, .int .i64 c, .slice A v.length cc, .int .i64 t, .int .i64 n, .int .i64 o]) (t := 24) ?hr ?_; (case hd => rfl); (case hg => rfl); (case hr => first | (go_simp; done) | (go_simp; rfl)); intro g hg w1 hb HB; have XB := Aside0.mk HB; have BK := Aside0.mk hb; obtain ⟨k0, k1, k2, k3, k4, k5, k6⟩ := cells7 hb; clear hg hb HB) | (go_at_call 45; refine (is_c _ _).mono ?_; rintro e w' ⟨rfl, rfl⟩) | (go_at_call 43; refine (refspan_c _ _ _ (by omega) (by omega)).mono ?_; rintro e w' ⟨rfl, rfl⟩) | (go_at_call 44; refine (vals_c 15 a c A cc v t n o _ _ _ (Kd.C_below HV.out XB.out) (m := 1) (by decide)).mono ?_; rintro e w2 ⟨rfl, HB⟩; have XBn := Aside0.mk (below_step XB.out HB); have BKn := Aside0.mk (blk_below BK.out HB); obtain ⟨k0, k1, k2, k3, k4, k5, k6⟩ := cells7 BKn.out; clear HB XB BK; have XB := XBn; have BK := BKn))
            go_ret
            exact ⟨rfl, XB.out⟩
        · have z3 : (c == (v.length : Int)) = false := by simpa using hz3
          clear hz3
          have HR : Aside0 (chkB 15 a c v t n o = false) := ⟨by simp_all [chkB, wB] <;> (intros; omega)⟩
          rw [HR.out]
          go_enter Try.func20, Try.ntmps20
          go_wp2_with (first | ((with_reducible refine gate_dst (N := 1) rfl ?_); refine box_event ?hg (N := 1) ?hd (cs := #[.int .i64 15, .int .i64 a, .int .i64 c, .slice A v.length cc, .int .i64 t, .int .i64 n, .int .i64 o]) (t := 24) ?hr ?_; (case hd => rfl); (case hg => rfl); (case hr => first | (go_simp; done) | (go_simp; rfl)); intro g hg w1 hb HB; have XB := Aside0.mk HB; have BK := Aside0.mk hb; obtain ⟨k0, k1, k2, k3, k4, k5, k6⟩ := cells7 hb; clear hg hb HB) | (go_at_call 45; refine (is_c _ _).mono ?_; rintro e w' ⟨rfl, rfl⟩) | (go_at_call 43; refine (refspan_c _ _ _ (by omega) (by omega)).mono ?_; rintro e w' ⟨rfl, rfl⟩) | (go_at_call 44; refine (vals_c 15 a c A cc v t n o _ _ _ (Kd.C_below HV.out XB.out) (m := 1) (by decide)).mono ?_; rintro e w2 ⟨rfl, HB⟩; have XBn := Aside0.mk (below_step XB.out HB); have BKn := Aside0.mk (blk_below BK.out HB); obtain ⟨k0, k1, k2, k3, k4, k5, k6⟩ := cells7 BKn.out; clear HB XB BK; have XB := XBn; have BK := BKn))
          go_ret
          exact ⟨rfl, XB.out⟩
      · have z2 : (t == 0) = false := by simpa using hz2
        clear hz2
        have HR : Aside0 (chkB 15 a c v t n o = false) := ⟨by simp_all [chkB, wB] <;> (intros; omega)⟩
        rw [HR.out]
        go_enter Try.func20, Try.ntmps20
        go_wp2_with (first | ((with_reducible refine gate_dst (N := 1) rfl ?_); refine box_event ?hg (N := 1) ?hd (cs := #[.int .i64 15, .int .i64 a, .int .i64 c, .slice A v.length cc, .int .i64 t, .int .i64 n, .int .i64 o]) (t := 24) ?hr ?_; (case hd => rfl); (case hg => rfl); (case hr => first | (go_simp; done) | (go_simp; rfl)); intro g hg w1 hb HB; have XB := Aside0.mk HB; have BK := Aside0.mk hb; obtain ⟨k0, k1, k2, k3, k4, k5, k6⟩ := cells7 hb; clear hg hb HB) | (go_at_call 45; refine (is_c _ _).mono ?_; rintro e w' ⟨rfl, rfl⟩) | (go_at_call 43; refine (refspan_c _ _ _ (by omega) (by omega)).mono ?_; rintro e w' ⟨rfl, rfl⟩) | (go_at_call 44; refine (vals_c 15 a c A cc v t n o _ _ _ (Kd.C_below HV.out XB.out) (m := 1) (by decide)).mono ?_; rintro e w2 ⟨rfl, HB⟩; have XBn := Aside0.mk (below_step XB.out HB); have BKn := Aside0.mk (blk_below BK.out HB); obtain ⟨k0, k1, k2, k3, k4, k5, k6⟩ := cells7 BKn.out; clear HB XB BK; have XB := XBn; have BK := BKn))
        go_ret
        exact ⟨rfl, XB.out⟩
    · have z1 : (o == 0) = false := by simpa using hz1
      clear hz1
      have HR : Aside0 (chkB 15 a c v t n o = false) := ⟨by simp_all [chkB, wB] <;> (intros; omega)⟩
      rw [HR.out]
      go_enter Try.func20, Try.ntmps20
      go_wp2_with (first | ((with_reducible refine gate_dst (N := 1) rfl ?_); refine box_event ?hg (N := 1) ?hd (cs := #[.int .i64 15, .int .i64 a, .int .i64 c, .slice A v.length cc, .int .i64 t, .int .i64 n, .int .i64 o]) (t := 24) ?hr ?_; (case hd => rfl); (case hg => rfl); (case hr => first | (go_simp; done) | (go_simp; rfl)); intro g hg w1 hb HB; have XB := Aside0.mk HB; have BK := Aside0.mk hb; obtain ⟨k0, k1, k2, k3, k4, k5, k6⟩ := cells7 hb; clear hg hb HB) | (go_at_call 45; refine (is_c _ _).mono ?_; rintro e w' ⟨rfl, rfl⟩) | (go_at_call 43; refine (refspan_c _ _ _ (by omega) (by omega)).mono ?_; rintro e w' ⟨rfl, rfl⟩) | (go_at_call 44; refine (vals_c 15 a c A cc v t n o _ _ _ (Kd.C_below HV.out XB.out) (m := 1) (by decide)).mono ?_; rintro e w2 ⟨rfl, HB⟩; have XBn := Aside0.mk (below_step XB.out HB); have BKn := Aside0.mk (blk_below BK.out HB); obtain ⟨k0, k1, k2, k3, k4, k5, k6⟩ := cells7 BKn.out; clear HB XB BK; have XB := XBn; have BK := BKn))
      go_ret
      exact ⟨rfl, XB.out⟩
  · have z0 : (n == 0) = false := by simpa using hz0
    clear hz0
    have HR : Aside0 (chkB 15 a c v t n o = false) := ⟨by simp_all [chkB, wB] <;> (intros; omega)⟩
    rw [HR.out]
    go_enter Try.func20, Try.ntmps20
    go_wp2_with (first | ((with_reducible refine gate_dst (N := 1) rfl ?_); refine box_event ?hg (N := 1) ?hd (cs := #[.int .i64 15, .int .i64 a, .int .i64 c, .slice A v.length cc, .int .i64 t, .int .i64 n, .int .i64 o]) (t := 24) ?hr ?_; (case hd => rfl); (case hg => rfl); (case hr => first | (go_simp; done) | (go_simp; rfl)); intro g hg w1 hb HB; have XB := Aside0.mk HB; have BK := Aside0.mk hb; obtain ⟨k0, k1, k2, k3, k4, k5, k6⟩ := cells7 hb; clear hg hb HB) | (go_at_call 45; refine (is_c _ _).mono ?_; rintro e w' ⟨rfl, rfl⟩) | (go_at_call 43; refine (refspan_c _ _ _ (by omega) (by omega)).mono ?_; rintro e w' ⟨rfl, rfl⟩) | (go_at_call 44; refine (vals_c 15 a c A cc v t n o _ _ _ (Kd.C_below HV.out XB.out) (m := 1) (by decide)).mono ?_; rintro e w2 ⟨rfl, HB⟩; have XBn := Aside0.mk (below_step XB.out HB); have BKn := Aside0.mk (blk_below BK.out HB); obtain ⟨k0, k1, k2, k3, k4, k5, k6⟩ := cells7 BKn.out; clear HB XB BK; have XB := XBn; have BK := BKn))
    go_ret
    exact ⟨rfl, XB.out⟩
set_option maxHeartbeats 4000000 in
set_option maxRecDepth 100000 in
theorem may_16 (a c : Int) (A : Option Addr) (cc : Nat) (v : List Int) (t n o : Int) (w : World) (hV : Kd.C (Kd.int .i64) w A v.length v) : Calls Try.prog 20 #[.agg #[.int .i64 16, .int .i64 a, .int .i64 c, .slice A v.length cc, .int .i64 t, .int .i64 n, .int .i64 o]] w fun e w' => e = .returned (.bool (chkB 16 a c v t n o)) ∧ Below w.heap.size w w' := by
  have HV := Aside0.mk hV; clear hV
  by_cases hz0 : (n == 0) = true
  · have z0 : (n == 0) = true := hz0; clear hz0
    by_cases hz1 : (o == 0) = true
    · have z1 : (o == 0) = true := hz1; clear hz1
      by_cases hz2 : (t == 0) = true
      · have z2 : (t == 0) = true := hz2; clear hz2
        by_cases hz3 : (c == (v.length : Int)) = true
        · have z3 : (c == (v.length : Int)) = true := hz3; clear hz3
          by_cases hz4 : smB 1 123 65535 v = true
          · have z4 : smB 1 123 65535 v = true := hz4; clear hz4; have pz4 := smB_len z4
            by_cases hz5 : spB a v.length = true
            · have z5 : spB a v.length = true := hz5; clear hz5
              have HR : Aside0 (chkB 16 a c v t n o = true) := ⟨by simp_all [chkB, wB] <;> (intros; omega)⟩
              rw [HR.out]
              go_enter Try.func20, Try.ntmps20
              go_wp2_with (first | ((with_reducible refine gate_dst (N := 1) rfl ?_); refine box_event ?hg (N := 1) ?hd (cs := #[.int .i64 16, .int .i64 a, .int .i64 c, .slice A v.length cc, .int .i64 t, .int .i64 n, .int .i64 o]) (t := 24) ?hr ?_; (case hd => rfl); (case hg => rfl); (case hr => first | (go_simp; done) | (go_simp; rfl)); intro g hg w1 hb HB; have XB := Aside0.mk HB; have BK := Aside0.mk hb; obtain ⟨k0, k1, k2, k3, k4, k5, k6⟩ := cells7 hb; clear hg hb HB) | (go_at_call 45; refine (is_c _ _).mono ?_; rintro e w' ⟨rfl, rfl⟩) | (go_at_call 43; refine (refspan_c _ _ _ (by omega) (by omega)).mono ?_; rintro e w' ⟨rfl, rfl⟩) | (go_at_call 44; refine (vals_c 16 a c A cc v t n o _ _ _ (Kd.C_below HV.out XB.out) (m := 65535) (by decide)).mono ?_; rintro e w2 ⟨rfl, HB⟩; have XBn := Aside0.mk (below_step XB.out HB); have BKn := Aside0.mk (blk_below BK.out HB); obtain ⟨k0, k1, k2, k3, k4, k5, k6⟩ := cells7 BKn.out; clear HB XB BK; have XB := XBn; have BK := BKn))
              go_ret
              exact ⟨rfl, XB.out⟩
            · have z5 : spB a v.length = false := by simpa using hz5
              clear hz5
              have HR : Aside0 (chkB 16 a c v t n o = false) := ⟨by simp_all [chkB, wB] <;> (intros; omega)⟩
              rw [HR.out]
              go_enter Try.func20, Try.ntmps20
              go_wp2_with (first | ((with_reducible refine gate_dst (N := 1) rfl ?_); refine box_event ?hg (N := 1) ?hd (cs := #[.int .i64 16, .int .i64 a, .int .i64 c, .slice A v.length cc, .int .i64 t, .int .i64 n, .int .i64 o]) (t := 24) ?hr ?_; (case hd => rfl); (case hg => rfl); (case hr => first | (go_simp; done) | (go_simp; rfl)); intro g hg w1 hb HB; have XB := Aside0.mk HB; have BK := Aside0.mk hb; obtain ⟨k0, k1, k2, k3, k4, k5, k6⟩ := cells7 hb; clear hg hb HB) | (go_at_call 45; refine (is_c _ _).mono ?_; rintro e w' ⟨rfl, rfl⟩) | (go_at_call 43; refine (refspan_c _ _ _ (by omega) (by omega)).mono ?_; rintro e w' ⟨rfl, rfl⟩) | (go_at_call 44; refine (vals_c 16 a c A cc v t n o _ _ _ (Kd.C_below HV.out XB.out) (m := 65535) (by decide)).mono ?_; rintro e w2 ⟨rfl, HB⟩; have XBn := Aside0.mk (below_step XB.out HB); have BKn := Aside0.mk (blk_below BK.out HB); obtain ⟨k0, k1, k2, k3, k4, k5, k6⟩ := cells7 BKn.out; clear HB XB BK; have XB := XBn; have BK := BKn))
              go_ret
              exact ⟨rfl, XB.out⟩
          · have z4 : smB 1 123 65535 v = false := by simpa using hz4
            clear hz4
            have HR : Aside0 (chkB 16 a c v t n o = false) := ⟨by simp_all [chkB, wB] <;> (intros; omega)⟩
            rw [HR.out]
            go_enter Try.func20, Try.ntmps20
            go_wp2_with (first | ((with_reducible refine gate_dst (N := 1) rfl ?_); refine box_event ?hg (N := 1) ?hd (cs := #[.int .i64 16, .int .i64 a, .int .i64 c, .slice A v.length cc, .int .i64 t, .int .i64 n, .int .i64 o]) (t := 24) ?hr ?_; (case hd => rfl); (case hg => rfl); (case hr => first | (go_simp; done) | (go_simp; rfl)); intro g hg w1 hb HB; have XB := Aside0.mk HB; have BK := Aside0.mk hb; obtain ⟨k0, k1, k2, k3, k4, k5, k6⟩ := cells7 hb; clear hg hb HB) | (go_at_call 45; refine (is_c _ _).mono ?_; rintro e w' ⟨rfl, rfl⟩) | (go_at_call 43; refine (refspan_c _ _ _ (by omega) (by omega)).mono ?_; rintro e w' ⟨rfl, rfl⟩) | (go_at_call 44; refine (vals_c 16 a c A cc v t n o _ _ _ (Kd.C_below HV.out XB.out) (m := 65535) (by decide)).mono ?_; rintro e w2 ⟨rfl, HB⟩; have XBn := Aside0.mk (below_step XB.out HB); have BKn := Aside0.mk (blk_below BK.out HB); obtain ⟨k0, k1, k2, k3, k4, k5, k6⟩ := cells7 BKn.out; clear HB XB BK; have XB := XBn; have BK := BKn))
            go_ret
            exact ⟨rfl, XB.out⟩
        · have z3 : (c == (v.length : Int)) = false := by simpa using hz3
          clear hz3
          have HR : Aside0 (chkB 16 a c v t n o = false) := ⟨by simp_all [chkB, wB] <;> (intros; omega)⟩
          rw [HR.out]
          go_enter Try.func20, Try.ntmps20
          go_wp2_with (first | ((with_reducible refine gate_dst (N := 1) rfl ?_); refine box_event ?hg (N := 1) ?hd (cs := #[.int .i64 16, .int .i64 a, .int .i64 c, .slice A v.length cc, .int .i64 t, .int .i64 n, .int .i64 o]) (t := 24) ?hr ?_; (case hd => rfl); (case hg => rfl); (case hr => first | (go_simp; done) | (go_simp; rfl)); intro g hg w1 hb HB; have XB := Aside0.mk HB; have BK := Aside0.mk hb; obtain ⟨k0, k1, k2, k3, k4, k5, k6⟩ := cells7 hb; clear hg hb HB) | (go_at_call 45; refine (is_c _ _).mono ?_; rintro e w' ⟨rfl, rfl⟩) | (go_at_call 43; refine (refspan_c _ _ _ (by omega) (by omega)).mono ?_; rintro e w' ⟨rfl, rfl⟩) | (go_at_call 44; refine (vals_c 16 a c A cc v t n o _ _ _ (Kd.C_below HV.out XB.out) (m := 65535) (by decide)).mono ?_; rintro e w2 ⟨rfl, HB⟩; have XBn := Aside0.mk (below_step XB.out HB); have BKn := Aside0.mk (blk_below BK.out HB); obtain ⟨k0, k1, k2, k3, k4, k5, k6⟩ := cells7 BKn.out; clear HB XB BK; have XB := XBn; have BK := BKn))
          go_ret
          exact ⟨rfl, XB.out⟩
      · have z2 : (t == 0) = false := by simpa using hz2
        clear hz2
        have HR : Aside0 (chkB 16 a c v t n o = false) := ⟨by simp_all [chkB, wB] <;> (intros; omega)⟩
        rw [HR.out]
        go_enter Try.func20, Try.ntmps20
        go_wp2_with (first | ((with_reducible refine gate_dst (N := 1) rfl ?_); refine box_event ?hg (N := 1) ?hd (cs := #[.int .i64 16, .int .i64 a, .int .i64 c, .slice A v.length cc, .int .i64 t, .int .i64 n, .int .i64 o]) (t := 24) ?hr ?_; (case hd => rfl); (case hg => rfl); (case hr => first | (go_simp; done) | (go_simp; rfl)); intro g hg w1 hb HB; have XB := Aside0.mk HB; have BK := Aside0.mk hb; obtain ⟨k0, k1, k2, k3, k4, k5, k6⟩ := cells7 hb; clear hg hb HB) | (go_at_call 45; refine (is_c _ _).mono ?_; rintro e w' ⟨rfl, rfl⟩) | (go_at_call 43; refine (refspan_c _ _ _ (by omega) (by omega)).mono ?_; rintro e w' ⟨rfl, rfl⟩) | (go_at_call 44; refine (vals_c 16 a c A cc v t n o _ _ _ (Kd.C_below HV.out XB.out) (m := 65535) (by decide)).mono ?_; rintro e w2 ⟨rfl, HB⟩; have XBn := Aside0.mk (below_step XB.out HB); have BKn := Aside0.mk (blk_below BK.out HB); obtain ⟨k0, k1, k2, k3, k4, k5, k6⟩ := cells7 BKn.out; clear HB XB BK; have XB := XBn; have BK := BKn))
        go_ret
        exact ⟨rfl, XB.out⟩
    · have z1 : (o == 0) = false := by simpa using hz1
      clear hz1
      have HR : Aside0 (chkB 16 a c v t n o = false) := ⟨by simp_all [chkB, wB] <;> (intros; omega)⟩
      rw [HR.out]
      go_enter Try.func20, Try.ntmps20
      go_wp2_with (first | ((with_reducible refine gate_dst (N := 1) rfl ?_); refine box_event ?hg (N := 1) ?hd (cs := #[.int .i64 16, .int .i64 a, .int .i64 c, .slice A v.length cc, .int .i64 t, .int .i64 n, .int .i64 o]) (t := 24) ?hr ?_; (case hd => rfl); (case hg => rfl); (case hr => first | (go_simp; done) | (go_simp; rfl)); intro g hg w1 hb HB; have XB := Aside0.mk HB; have BK := Aside0.mk hb; obtain ⟨k0, k1, k2, k3, k4, k5, k6⟩ := cells7 hb; clear hg hb HB) | (go_at_call 45; refine (is_c _ _).mono ?_; rintro e w' ⟨rfl, rfl⟩) | (go_at_call 43; refine (refspan_c _ _ _ (by omega) (by omega)).mono ?_; rintro e w' ⟨rfl, rfl⟩) | (go_at_call 44; refine (vals_c 16 a c A cc v t n o _ _ _ (Kd.C_below HV.out XB.out) (m := 65535) (by decide)).mono ?_; rintro e w2 ⟨rfl, HB⟩; have XBn := Aside0.mk (below_step XB.out HB); have BKn := Aside0.mk (blk_below BK.out HB); obtain ⟨k0, k1, k2, k3, k4, k5, k6⟩ := cells7 BKn.out; clear HB XB BK; have XB := XBn; have BK := BKn))
      go_ret
      exact ⟨rfl, XB.out⟩
  · have z0 : (n == 0) = false := by simpa using hz0
    clear hz0
    have HR : Aside0 (chkB 16 a c v t n o = false) := ⟨by simp_all [chkB, wB] <;> (intros; omega)⟩
    rw [HR.out]
    go_enter Try.func20, Try.ntmps20
    go_wp2_with (first | ((with_reducible refine gate_dst (N := 1) rfl ?_); refine box_event ?hg (N := 1) ?hd (cs := #[.int .i64 16, .int .i64 a, .int .i64 c, .slice A v.length cc, .int .i64 t, .int .i64 n, .int .i64 o]) (t := 24) ?hr ?_; (case hd => rfl); (case hg => rfl); (case hr => first | (go_simp; done) | (go_simp; rfl)); intro g hg w1 hb HB; have XB := Aside0.mk HB; have BK := Aside0.mk hb; obtain ⟨k0, k1, k2, k3, k4, k5, k6⟩ := cells7 hb; clear hg hb HB) | (go_at_call 45; refine (is_c _ _).mono ?_; rintro e w' ⟨rfl, rfl⟩) | (go_at_call 43; refine (refspan_c _ _ _ (by omega) (by omega)).mono ?_; rintro e w' ⟨rfl, rfl⟩) | (go_at_call 44; refine (vals_c 16 a c A cc v t n o _ _ _ (Kd.C_below HV.out XB.out) (m := 65535) (by decide)).mono ?_; rintro e w2 ⟨rfl, HB⟩; have XBn := Aside0.mk (below_step XB.out HB); have BKn := Aside0.mk (blk_below BK.out HB); obtain ⟨k0, k1, k2, k3, k4, k5, k6⟩ := cells7 BKn.out; clear HB XB BK; have XB := XBn; have BK := BKn))
    go_ret
    exact ⟨rfl, XB.out⟩
end Go.Proofs.Ytocicifgglkaeaa.Chk
end

section
namespace Go.Proofs.Ytocicifgglkaeaa.Chk
open Go.RowKit Go.Proofs.YtocicifgglkaeaaW.PrintWords Go.Proofs.YtocicifgglkaeaaW.PrintLast Go.Proofs.YtocicifgglkaeaaW.PrintMore Go.Proofs.Ytocicifgglkaeaa.Core Go.Proofs.Ytocicifgglkaeaa.Wk
set_option linter.unusedVariables false
set_option linter.unusedSimpArgs false
set_option maxHeartbeats 4000000 in
set_option maxRecDepth 100000 in
theorem may_22 (a c : Int) (A : Option Addr) (cc : Nat) (v : List Int) (t n o : Int) (w : World) (hV : Kd.C (Kd.int .i64) w A v.length v) : Calls Try.prog 20 #[.agg #[.int .i64 22, .int .i64 a, .int .i64 c, .slice A v.length cc, .int .i64 t, .int .i64 n, .int .i64 o]] w fun e w' => e = .returned (.bool (chkB 22 a c v t n o)) ∧ Below w.heap.size w w' := by
  have HV := Aside0.mk hV; clear hV
  by_cases hz0 : (n == 0) = true
  · have z0 : (n == 0) = true := hz0; clear hz0
    by_cases hz1 : (o == 0) = true
    · have z1 : (o == 0) = true := hz1; clear hz1
      by_cases hz2 : ((v.length : Int) == 0) = true
      · have z2 : ((v.length : Int) == 0) = true := hz2; clear hz2
        by_cases hz3 : (t == 0) = true
        · have z3 : (t == 0) = true := hz3; clear hz3
          by_cases hz4 : (c == 0) = true
          · have z4 : (c == 0) = true := hz4; clear hz4
            by_cases hz5 : spB a 1 = true
            · have z5 : spB a 1 = true := hz5; clear hz5
              by_cases hz6 : wB 0 65535 n = true
              · have z6 : wB 0 65535 n = true := hz6; clear hz6
                by_cases hz7 : wB 0 65535 o = true
                · have z7 : wB 0 65535 o = true := hz7; clear hz7
                  have HR : Aside0 (chkB 22 a c v t n o = true) := ⟨by simp_all [chkB]⟩
                  rw [HR.out]
                  go_enter Try.func20, Try.ntmps20
                  go_wp2_with (first | ((with_reducible refine gate_dst (N := 1) rfl ?_); refine box_event ?hg (N := 1) ?hd (cs := #[.int .i64 22, .int .i64 a, .int .i64 c, .slice A v.length cc, .int .i64 t, .int .i64 n, .int .i64 o]) (t := 24) ?hr ?_; (case hd => rfl); (case hg => rfl); (case hr => first | (go_simp; done) | (go_simp; rfl)); intro g hg w1 hb HB; have XB := Aside0.mk HB; have BK := Aside0.mk hb; obtain ⟨k0, k1, k2, k3, k4, k5, k6⟩ := cells7 hb; clear hg hb HB) | (go_at_call 45; refine (is_c _ _).mono ?_; rintro e w' ⟨rfl, rfl⟩) | (go_at_call 43; refine (refspan_c _ _ _ (by omega) (by omega)).mono ?_; rintro e w' ⟨rfl, rfl⟩))
                  go_ret
                  exact ⟨rfl, XB.out⟩
                · have z7 : wB 0 65535 o = false := by simpa using hz7
                  clear hz7
                  have HR : Aside0 (chkB 22 a c v t n o = false) := ⟨by simp_all [chkB]⟩
                  rw [HR.out]
                  go_enter Try.func20, Try.ntmps20
                  go_wp2_with (first | ((with_reducible refine gate_dst (N := 1) rfl ?_); refine box_event ?hg (N := 1) ?hd (cs := #[.int .i64 22, .int .i64 a, .int .i64 c, .slice A v.length cc, .int .i64 t, .int .i64 n, .int .i64 o]) (t := 24) ?hr ?_; (case hd => rfl); (case hg => rfl); (case hr => first | (go_simp; done) | (go_simp; rfl)); intro g hg w1 hb HB; have XB := Aside0.mk HB; have BK := Aside0.mk hb; obtain ⟨k0, k1, k2, k3, k4, k5, k6⟩ := cells7 hb; clear hg hb HB) | (go_at_call 45; refine (is_c _ _).mono ?_; rintro e w' ⟨rfl, rfl⟩) | (go_at_call 43; refine (refspan_c _ _ _ (by omega) (by omega)).mono ?_; rintro e w' ⟨rfl, rfl⟩))
                  go_ret
                  exact ⟨rfl, XB.out⟩
              · have z6 : wB 0 65535 n = false := by simpa using hz6
                clear hz6
                have HR : Aside0 (chkB 22 a c v t n o = false) := ⟨by simp_all [chkB]⟩
                rw [HR.out]
                go_enter Try.func20, Try.ntmps20
                go_wp2_with (first | ((with_reducible refine gate_dst (N := 1) rfl ?_); refine box_event ?hg (N := 1) ?hd (cs := #[.int .i64 22, .int .i64 a, .int .i64 c, .slice A v.length cc, .int .i64 t, .int .i64 n, .int .i64 o]) (t := 24) ?hr ?_; (case hd => rfl); (case hg => rfl); (case hr => first | (go_simp; done) | (go_simp; rfl)); intro g hg w1 hb HB; have XB := Aside0.mk HB; have BK := Aside0.mk hb; obtain ⟨k0, k1, k2, k3, k4, k5, k6⟩ := cells7 hb; clear hg hb HB) | (go_at_call 45; refine (is_c _ _).mono ?_; rintro e w' ⟨rfl, rfl⟩) | (go_at_call 43; refine (refspan_c _ _ _ (by omega) (by omega)).mono ?_; rintro e w' ⟨rfl, rfl⟩))
                go_ret
                exact ⟨rfl, XB.out⟩
            · have z5 : spB a 1 = false := by simpa using hz5
              clear hz5
              have HR : Aside0 (chkB 22 a c v t n o = false) := ⟨by simp_all [chkB]⟩
              rw [HR.out]
              go_enter Try.func20, Try.ntmps20
              go_wp2_with (first | ((with_reducible refine gate_dst (N := 1) rfl ?_); refine box_event ?hg (N := 1) ?hd (cs := #[.int .i64 22, .int .i64 a, .int .i64 c, .slice A v.length cc, .int .i64 t, .int .i64 n, .int .i64 o]) (t := 24) ?hr ?_; (case hd => rfl); (case hg => rfl); (case hr => first | (go_simp; done) | (go_simp; rfl)); intro g hg w1 hb HB; have XB := Aside0.mk HB; have BK := Aside0.mk hb; obtain ⟨k0, k1, k2, k3, k4, k5, k6⟩ := cells7 hb; clear hg hb HB) | (go_at_call 45; refine (is_c _ _).mono ?_; rintro e w' ⟨rfl, rfl⟩) | (go_at_call 43; refine (refspan_c _ _ _ (by omega) (by omega)).mono ?_; rintro e w' ⟨rfl, rfl⟩))
              go_ret
              exact ⟨rfl, XB.out⟩
          · have z4 : (c == 0) = false := by simpa using hz4
            clear hz4
            have HR : Aside0 (chkB 22 a c v t n o = false) := ⟨by simp_all [chkB]⟩
            rw [HR.out]
            go_enter Try.func20, Try.ntmps20
            go_wp2_with (first | ((with_reducible refine gate_dst (N := 1) rfl ?_); refine box_event ?hg (N := 1) ?hd (cs := #[.int .i64 22, .int .i64 a, .int .i64 c, .slice A v.length cc, .int .i64 t, .int .i64 n, .int .i64 o]) (t := 24) ?hr ?_; (case hd => rfl); (case hg => rfl); (case hr => first | (go_simp; done) | (go_simp; rfl)); intro g hg w1 hb HB; have XB := Aside0.mk HB; have BK := Aside0.mk hb; obtain ⟨k0, k1, k2, k3, k4, k5, k6⟩ := cells7 hb; clear hg hb HB) | (go_at_call 45; refine (is_c _ _).mono ?_; rintro e w' ⟨rfl, rfl⟩) | (go_at_call 43; refine (refspan_c _ _ _ (by omega) (by omega)).mono ?_; rintro e w' ⟨rfl, rfl⟩))
            go_ret
            exact ⟨rfl, XB.out⟩
        · have z3 : (t == 0) = false := by simpa using hz3
          clear hz3
          have HR : Aside0 (chkB 22 a c v t n o = false) := ⟨by simp_all [chkB]⟩
          rw [HR.out]
          go_enter Try.func20, Try.ntmps20
          go_wp2_with (first | ((with_reducible refine gate_dst (N := 1) rfl ?_); refine box_event ?hg (N := 1) ?hd (cs := #[.int .i64 22, .int .i64 a, .int .i64 c, .slice A v.length cc, .int .i64 t, .int .i64 n, .int .i64 o]) (t := 24) ?hr ?_; (case hd => rfl); (case hg => rfl); (case hr => first | (go_simp; done) | (go_simp; rfl)); intro g hg w1 hb HB; have XB := Aside0.mk HB; have BK := Aside0.mk hb; obtain ⟨k0, k1, k2, k3, k4, k5, k6⟩ := cells7 hb; clear hg hb HB) | (go_at_call 45; refine (is_c _ _).mono ?_; rintro e w' ⟨rfl, rfl⟩) | (go_at_call 43; refine (refspan_c _ _ _ (by omega) (by omega)).mono ?_; rintro e w' ⟨rfl, rfl⟩))
          go_ret
          exact ⟨rfl, XB.out⟩
      · have z2 : ((v.length : Int) == 0) = false := by simpa using hz2
        clear hz2
        have HR : Aside0 (chkB 22 a c v t n o = false) := ⟨by simp_all [chkB]⟩
        rw [HR.out]
        go_enter Try.func20, Try.ntmps20
        go_wp2_with (first | ((with_reducible refine gate_dst (N := 1) rfl ?_); refine box_event ?hg (N := 1) ?hd (cs := #[.int .i64 22, .int .i64 a, .int .i64 c, .slice A v.length cc, .int .i64 t, .int .i64 n, .int .i64 o]) (t := 24) ?hr ?_; (case hd => rfl); (case hg => rfl); (case hr => first | (go_simp; done) | (go_simp; rfl)); intro g hg w1 hb HB; have XB := Aside0.mk HB; have BK := Aside0.mk hb; obtain ⟨k0, k1, k2, k3, k4, k5, k6⟩ := cells7 hb; clear hg hb HB) | (go_at_call 45; refine (is_c _ _).mono ?_; rintro e w' ⟨rfl, rfl⟩) | (go_at_call 43; refine (refspan_c _ _ _ (by omega) (by omega)).mono ?_; rintro e w' ⟨rfl, rfl⟩))
        go_ret
        exact ⟨rfl, XB.out⟩
    · have z1 : (o == 0) = false := by simpa using hz1
      clear hz1
      by_cases hz2 : ((v.length : Int) == 0) = true
      · have z2 : ((v.length : Int) == 0) = true := hz2; clear hz2
        by_cases hz3 : (t == 0) = true
        · have z3 : (t == 0) = true := hz3; clear hz3
          by_cases hz4 : (c == 0) = true
          · have z4 : (c == 0) = true := hz4; clear hz4
            by_cases hz5 : spB a 1 = true
            · have z5 : spB a 1 = true := hz5; clear hz5
              by_cases hz6 : wB 0 65535 n = true
              · have z6 : wB 0 65535 n = true := hz6; clear hz6
                by_cases hz7 : wB 0 65535 o = true
                · have z7 : wB 0 65535 o = true := hz7; clear hz7
                  have HR : Aside0 (chkB 22 a c v t n o = true) := ⟨by simp_all [chkB]⟩
                  rw [HR.out]
                  go_enter Try.func20, Try.ntmps20
                  go_wp2_with (first | ((with_reducible refine gate_dst (N := 1) rfl ?_); refine box_event ?hg (N := 1) ?hd (cs := #[.int .i64 22, .int .i64 a, .int .i64 c, .slice A v.length cc, .int .i64 t, .int .i64 n, .int .i64 o]) (t := 24) ?hr ?_; (case hd => rfl); (case hg => rfl); (case hr => first | (go_simp; done) | (go_simp; rfl)); intro g hg w1 hb HB; have XB := Aside0.mk HB; have BK := Aside0.mk hb; obtain ⟨k0, k1, k2, k3, k4, k5, k6⟩ := cells7 hb; clear hg hb HB) | (go_at_call 45; refine (is_c _ _).mono ?_; rintro e w' ⟨rfl, rfl⟩) | (go_at_call 43; refine (refspan_c _ _ _ (by omega) (by omega)).mono ?_; rintro e w' ⟨rfl, rfl⟩))
                  go_ret
                  exact ⟨rfl, XB.out⟩
                · have z7 : wB 0 65535 o = false := by simpa using hz7
                  clear hz7
                  have HR : Aside0 (chkB 22 a c v t n o = false) := ⟨by simp_all [chkB]⟩
                  rw [HR.out]
                  go_enter Try.func20, Try.ntmps20
                  go_wp2_with (first | ((with_reducible refine gate_dst (N := 1) rfl ?_); refine box_event ?hg (N := 1) ?hd (cs := #[.int .i64 22, .int .i64 a, .int .i64 c, .slice A v.length cc, .int .i64 t, .int .i64 n, .int .i64 o]) (t := 24) ?hr ?_; (case hd => rfl); (case hg => rfl); (case hr => first | (go_simp; done) | (go_simp; rfl)); intro g hg w1 hb HB; have XB := Aside0.mk HB; have BK := Aside0.mk hb; obtain ⟨k0, k1, k2, k3, k4, k5, k6⟩ := cells7 hb; clear hg hb HB) | (go_at_call 45; refine (is_c _ _).mono ?_; rintro e w' ⟨rfl, rfl⟩) | (go_at_call 43; refine (refspan_c _ _ _ (by omega) (by omega)).mono ?_; rintro e w' ⟨rfl, rfl⟩))
                  go_ret
                  exact ⟨rfl, XB.out⟩
              · have z6 : wB 0 65535 n = false := by simpa using hz6
                clear hz6
                have HR : Aside0 (chkB 22 a c v t n o = false) := ⟨by simp_all [chkB]⟩
                rw [HR.out]
                go_enter Try.func20, Try.ntmps20
                go_wp2_with (first | ((with_reducible refine gate_dst (N := 1) rfl ?_); refine box_event ?hg (N := 1) ?hd (cs := #[.int .i64 22, .int .i64 a, .int .i64 c, .slice A v.length cc, .int .i64 t, .int .i64 n, .int .i64 o]) (t := 24) ?hr ?_; (case hd => rfl); (case hg => rfl); (case hr => first | (go_simp; done) | (go_simp; rfl)); intro g hg w1 hb HB; have XB := Aside0.mk HB; have BK := Aside0.mk hb; obtain ⟨k0, k1, k2, k3, k4, k5, k6⟩ := cells7 hb; clear hg hb HB) | (go_at_call 45; refine (is_c _ _).mono ?_; rintro e w' ⟨rfl, rfl⟩) | (go_at_call 43; refine (refspan_c _ _ _ (by omega) (by omega)).mono ?_; rintro e w' ⟨rfl, rfl⟩))
                go_ret
                exact ⟨rfl, XB.out⟩
            · have z5 : spB a 1 = false := by simpa using hz5
              clear hz5
              have HR : Aside0 (chkB 22 a c v t n o = false) := ⟨by simp_all [chkB]⟩
              rw [HR.out]
              go_enter Try.func20, Try.ntmps20
              go_wp2_with (first | ((with_reducible refine gate_dst (N := 1) rfl ?_); refine box_event ?hg (N := 1) ?hd (cs := #[.int .i64 22, .int .i64 a, .int .i64 c, .slice A v.length cc, .int .i64 t, .int .i64 n, .int .i64 o]) (t := 24) ?hr ?_; (case hd => rfl); (case hg => rfl); (case hr => first | (go_simp; done) | (go_simp; rfl)); intro g hg w1 hb HB; have XB := Aside0.mk HB; have BK := Aside0.mk hb; obtain ⟨k0, k1, k2, k3, k4, k5, k6⟩ := cells7 hb; clear hg hb HB) | (go_at_call 45; refine (is_c _ _).mono ?_; rintro e w' ⟨rfl, rfl⟩) | (go_at_call 43; refine (refspan_c _ _ _ (by omega) (by omega)).mono ?_; rintro e w' ⟨rfl, rfl⟩))
              go_ret
              exact ⟨rfl, XB.out⟩
          · have z4 : (c == 0) = false := by simpa using hz4
            clear hz4
            have HR : Aside0 (chkB 22 a c v t n o = false) := ⟨by simp_all [chkB]⟩
            rw [HR.out]
            go_enter Try.func20, Try.ntmps20
            go_wp2_with (first | ((with_reducible refine gate_dst (N := 1) rfl ?_); refine box_event ?hg (N := 1) ?hd (cs := #[.int .i64 22, .int .i64 a, .int .i64 c, .slice A v.length cc, .int .i64 t, .int .i64 n, .int .i64 o]) (t := 24) ?hr ?_; (case hd => rfl); (case hg => rfl); (case hr => first | (go_simp; done) | (go_simp; rfl)); intro g hg w1 hb HB; have XB := Aside0.mk HB; have BK := Aside0.mk hb; obtain ⟨k0, k1, k2, k3, k4, k5, k6⟩ := cells7 hb; clear hg hb HB) | (go_at_call 45; refine (is_c _ _).mono ?_; rintro e w' ⟨rfl, rfl⟩) | (go_at_call 43; refine (refspan_c _ _ _ (by omega) (by omega)).mono ?_; rintro e w' ⟨rfl, rfl⟩))
            go_ret
            exact ⟨rfl, XB.out⟩
        · have z3 : (t == 0) = false := by simpa using hz3
          clear hz3
          have HR : Aside0 (chkB 22 a c v t n o = false) := ⟨by simp_all [chkB]⟩
          rw [HR.out]
          go_enter Try.func20, Try.ntmps20
          go_wp2_with (first | ((with_reducible refine gate_dst (N := 1) rfl ?_); refine box_event ?hg (N := 1) ?hd (cs := #[.int .i64 22, .int .i64 a, .int .i64 c, .slice A v.length cc, .int .i64 t, .int .i64 n, .int .i64 o]) (t := 24) ?hr ?_; (case hd => rfl); (case hg => rfl); (case hr => first | (go_simp; done) | (go_simp; rfl)); intro g hg w1 hb HB; have XB := Aside0.mk HB; have BK := Aside0.mk hb; obtain ⟨k0, k1, k2, k3, k4, k5, k6⟩ := cells7 hb; clear hg hb HB) | (go_at_call 45; refine (is_c _ _).mono ?_; rintro e w' ⟨rfl, rfl⟩) | (go_at_call 43; refine (refspan_c _ _ _ (by omega) (by omega)).mono ?_; rintro e w' ⟨rfl, rfl⟩))
          go_ret
          exact ⟨rfl, XB.out⟩
      · have z2 : ((v.length : Int) == 0) = false := by simpa using hz2
        clear hz2
        have HR : Aside0 (chkB 22 a c v t n o = false) := ⟨by simp_all [chkB]⟩
        rw [HR.out]
        go_enter Try.func20, Try.ntmps20
        go_wp2_with (first | ((with_reducible refine gate_dst (N := 1) rfl ?_); refine box_event ?hg (N := 1) ?hd (cs := #[.int .i64 22, .int .i64 a, .int .i64 c, .slice A v.length cc, .int .i64 t, .int .i64 n, .int .i64 o]) (t := 24) ?hr ?_; (case hd => rfl); (case hg => rfl); (case hr => first | (go_simp; done) | (go_simp; rfl)); intro g hg w1 hb HB; have XB := Aside0.mk HB; have BK := Aside0.mk hb; obtain ⟨k0, k1, k2, k3, k4, k5, k6⟩ := cells7 hb; clear hg hb HB) | (go_at_call 45; refine (is_c _ _).mono ?_; rintro e w' ⟨rfl, rfl⟩) | (go_at_call 43; refine (refspan_c _ _ _ (by omega) (by omega)).mono ?_; rintro e w' ⟨rfl, rfl⟩))
        go_ret
        exact ⟨rfl, XB.out⟩
  · have z0 : (n == 0) = false := by simpa using hz0
    clear hz0
    by_cases hz1 : ((v.length : Int) == 0) = true
    · have z1 : ((v.length : Int) == 0) = true := hz1; clear hz1
      by_cases hz2 : (t == 0) = true
      · have z2 : (t == 0) = true := hz2; clear hz2
        by_cases hz3 : (c == 0) = true
        · have z3 : (c == 0) = true := hz3; clear hz3
          by_cases hz4 : spB a 1 = true
          · have z4 : spB a 1 = true := hz4; clear hz4
            by_cases hz5 : wB 0 65535 n = true
            · have z5 : wB 0 65535 n = true := hz5; clear hz5
              by_cases hz6 : wB 0 65535 o = true
              · have z6 : wB 0 65535 o = true := hz6; clear hz6
                have HR : Aside0 (chkB 22 a c v t n o = true) := ⟨by simp_all [chkB]⟩
                rw [HR.out]
                go_enter Try.func20, Try.ntmps20
                go_wp2_with (first | ((with_reducible refine gate_dst (N := 1) rfl ?_); refine box_event ?hg (N := 1) ?hd (cs := #[.int .i64 22, .int .i64 a, .int .i64 c, .slice A v.length cc, .int .i64 t, .int .i64 n, .int .i64 o]) (t := 24) ?hr ?_; (case hd => rfl); (case hg => rfl); (case hr => first | (go_simp; done) | (go_simp; rfl)); intro g hg w1 hb HB; have XB := Aside0.mk HB; have BK := Aside0.mk hb; obtain ⟨k0, k1, k2, k3, k4, k5, k6⟩ := cells7 hb; clear hg hb HB) | (go_at_call 45; refine (is_c _ _).mono ?_; rintro e w' ⟨rfl, rfl⟩) | (go_at_call 43; refine (refspan_c _ _ _ (by omega) (by omega)).mono ?_; rintro e w' ⟨rfl, rfl⟩))
                go_ret
                exact ⟨rfl, XB.out⟩
              · have z6 : wB 0 65535 o = false := by simpa using hz6
                clear hz6
                have HR : Aside0 (chkB 22 a c v t n o = false) := ⟨by simp_all [chkB]⟩
                rw [HR.out]
                go_enter Try.func20, Try.ntmps20
                go_wp2_with (first | ((with_reducible refine gate_dst (N := 1) rfl ?_); refine box_event ?hg (N := 1) ?hd (cs := #[.int .i64 22, .int .i64 a, .int .i64 c, .slice A v.length cc, .int .i64 t, .int .i64 n, .int .i64 o]) (t := 24) ?hr ?_; (case hd => rfl); (case hg => rfl); (case hr => first | (go_simp; done) | (go_simp; rfl)); intro g hg w1 hb HB; have XB := Aside0.mk HB; have BK := Aside0.mk hb; obtain ⟨k0, k1, k2, k3, k4, k5, k6⟩ := cells7 hb; clear hg hb HB) | (go_at_call 45; refine (is_c _ _).mono ?_; rintro e w' ⟨rfl, rfl⟩) | (go_at_call 43; refine (refspan_c _ _ _ (by omega) (by omega)).mono ?_; rintro e w' ⟨rfl, rfl⟩))
                go_ret
                exact ⟨rfl, XB.out⟩
            · have z5 : wB 0 65535 n = false := by simpa using hz5
              clear hz5
              have HR : Aside0 (chkB 22 a c v t n o = false) := ⟨by simp_all [chkB]⟩
              rw [HR.out]
              go_enter Try.func20, Try.ntmps20
              go_wp2_with (first | ((with_reducible refine gate_dst (N := 1) rfl ?_); refine box_event ?hg (N := 1) ?hd (cs := #[.int .i64 22, .int .i64 a, .int .i64 c, .slice A v.length cc, .int .i64 t, .int .i64 n, .int .i64 o]) (t := 24) ?hr ?_; (case hd => rfl); (case hg => rfl); (case hr => first | (go_simp; done) | (go_simp; rfl)); intro g hg w1 hb HB; have XB := Aside0.mk HB; have BK := Aside0.mk hb; obtain ⟨k0, k1, k2, k3, k4, k5, k6⟩ := cells7 hb; clear hg hb HB) | (go_at_call 45; refine (is_c _ _).mono ?_; rintro e w' ⟨rfl, rfl⟩) | (go_at_call 43; refine (refspan_c _ _ _ (by omega) (by omega)).mono ?_; rintro e w' ⟨rfl, rfl⟩))
              go_ret
              exact ⟨rfl, XB.out⟩
          · have z4 : spB a 1 = false := by simpa using hz4
            clear hz4
            have HR : Aside0 (chkB 22 a c v t n o = false) := ⟨by simp_all [chkB]⟩
            rw [HR.out]
            go_enter Try.func20, Try.ntmps20
            go_wp2_with (first | ((with_reducible refine gate_dst (N := 1) rfl ?_); refine box_event ?hg (N := 1) ?hd (cs := #[.int .i64 22, .int .i64 a, .int .i64 c, .slice A v.length cc, .int .i64 t, .int .i64 n, .int .i64 o]) (t := 24) ?hr ?_; (case hd => rfl); (case hg => rfl); (case hr => first | (go_simp; done) | (go_simp; rfl)); intro g hg w1 hb HB; have XB := Aside0.mk HB; have BK := Aside0.mk hb; obtain ⟨k0, k1, k2, k3, k4, k5, k6⟩ := cells7 hb; clear hg hb HB) | (go_at_call 45; refine (is_c _ _).mono ?_; rintro e w' ⟨rfl, rfl⟩) | (go_at_call 43; refine (refspan_c _ _ _ (by omega) (by omega)).mono ?_; rintro e w' ⟨rfl, rfl⟩))
            go_ret
            exact ⟨rfl, XB.out⟩
        · have z3 : (c == 0) = false := by simpa using hz3
          clear hz3
          have HR : Aside0 (chkB 22 a c v t n o = false) := ⟨by simp_all [chkB]⟩
          rw [HR.out]
          go_enter Try.func20, Try.ntmps20
          go_wp2_with (first | ((with_reducible refine gate_dst (N := 1) rfl ?_); refine box_event ?hg (N := 1) ?hd (cs := #[.int .i64 22, .int .i64 a, .int .i64 c, .slice A v.length cc, .int .i64 t, .int .i64 n, .int .i64 o]) (t := 24) ?hr ?_; (case hd => rfl); (case hg => rfl); (case hr => first | (go_simp; done) | (go_simp; rfl)); intro g hg w1 hb HB; have XB := Aside0.mk HB; have BK := Aside0.mk hb; obtain ⟨k0, k1, k2, k3, k4, k5, k6⟩ := cells7 hb; clear hg hb HB) | (go_at_call 45; refine (is_c _ _).mono ?_; rintro e w' ⟨rfl, rfl⟩) | (go_at_call 43; refine (refspan_c _ _ _ (by omega) (by omega)).mono ?_; rintro e w' ⟨rfl, rfl⟩))
          go_ret
          exact ⟨rfl, XB.out⟩
      · have z2 : (t == 0) = false := by simpa using hz2
        clear hz2
        have HR : Aside0 (chkB 22 a c v t n o = false) := ⟨by simp_all [chkB]⟩
        rw [HR.out]
        go_enter Try.func20, Try.ntmps20
        go_wp2_with (first | ((with_reducible refine gate_dst (N := 1) rfl ?_); refine box_event ?hg (N := 1) ?hd (cs := #[.int .i64 22, .int .i64 a, .int .i64 c, .slice A v.length cc, .int .i64 t, .int .i64 n, .int .i64 o]) (t := 24) ?hr ?_; (case hd => rfl); (case hg => rfl); (case hr => first | (go_simp; done) | (go_simp; rfl)); intro g hg w1 hb HB; have XB := Aside0.mk HB; have BK := Aside0.mk hb; obtain ⟨k0, k1, k2, k3, k4, k5, k6⟩ := cells7 hb; clear hg hb HB) | (go_at_call 45; refine (is_c _ _).mono ?_; rintro e w' ⟨rfl, rfl⟩) | (go_at_call 43; refine (refspan_c _ _ _ (by omega) (by omega)).mono ?_; rintro e w' ⟨rfl, rfl⟩))
        go_ret
        exact ⟨rfl, XB.out⟩
    · have z1 : ((v.length : Int) == 0) = false := by simpa using hz1
      clear hz1
      have HR : Aside0 (chkB 22 a c v t n o = false) := ⟨by simp_all [chkB]⟩
      rw [HR.out]
      go_enter Try.func20, Try.ntmps20
      go_wp2_with (first | ((with_reducible refine gate_dst (N := 1) rfl ?_); refine box_event ?hg (N := 1) ?hd (cs := #[.int .i64 22, .int .i64 a, .int .i64 c, .slice A v.length cc, .int .i64 t, .int .i64 n, .int .i64 o]) (t := 24) ?hr ?_; (case hd => rfl); (case hg => rfl); (case hr => first | (go_simp; done) | (go_simp; rfl)); intro g hg w1 hb HB; have XB := Aside0.mk HB; have BK := Aside0.mk hb; obtain ⟨k0, k1, k2, k3, k4, k5, k6⟩ := cells7 hb; clear hg hb HB) | (go_at_call 45; refine (is_c _ _).mono ?_; rintro e w' ⟨rfl, rfl⟩) | (go_at_call 43; refine (refspan_c _ _ _ (by omega) (by omega)).mono ?_; rintro e w' ⟨rfl, rfl⟩))
      go_ret
      exact ⟨rfl, XB.out⟩
set_option maxHeartbeats 4000000 in
set_option maxRecDepth 100000 in
theorem may_f (f a c : Int) (A : Option Addr) (cc : Nat) (v : List Int) (t n o : Int) (w : World) (hV : Kd.C (Kd.int .i64) w A v.length v) (hf : f ≠ 1 ∧ f ≠ 2 ∧ f ≠ 3 ∧ f ≠ 4 ∧ f ≠ 5 ∧ f ≠ 6 ∧ f ≠ 15 ∧ f ≠ 16 ∧ f ≠ 22 ∧ f ≠ 23) : Calls Try.prog 20 #[.agg #[.int .i64 f, .int .i64 a, .int .i64 c, .slice A v.length cc, .int .i64 t, .int .i64 n, .int .i64 o]] w fun e w' => e = .returned (.bool (chkB f a c v t n o)) ∧ Below w.heap.size w w' := by
  have HV := Aside0.mk hV; clear hV
  obtain ⟨g1, g2, g3, g4, g5, g6, g7, g8, g9, g10⟩ := hf
  have HR : Aside0 (chkB f a c v t n o = false) := ⟨by unfold chkB; rw [if_neg (by omega), if_neg (by omega), if_neg g5, if_neg g6, if_neg g7, if_neg g8, if_neg g9, if_neg g10]⟩
  have y0 : (f == 1) = false := beq_eq_false_iff_ne.2 g1
  have y1 : (f == 2) = false := beq_eq_false_iff_ne.2 g2
  have y2 : (f == 3) = false := beq_eq_false_iff_ne.2 g3
  have y3 : (f == 4) = false := beq_eq_false_iff_ne.2 g4
  have y4 : (f == 5) = false := beq_eq_false_iff_ne.2 g5
  have y5 : (f == 6) = false := beq_eq_false_iff_ne.2 g6
  have y6 : (f == 15) = false := beq_eq_false_iff_ne.2 g7
  have y7 : (f == 16) = false := beq_eq_false_iff_ne.2 g8
  have y8 : (f == 22) = false := beq_eq_false_iff_ne.2 g9
  have y9 : (f == 23) = false := beq_eq_false_iff_ne.2 g10
  clear g1 g2 g3 g4 g5 g6 g7 g8 g9 g10
  rw [HR.out]
  by_cases hz0 : (n == 0) = true
  · have z0 : (n == 0) = true := hz0; clear hz0
    by_cases hz1 : (o == 0) = true
    · have z1 : (o == 0) = true := hz1; clear hz1
      go_enter Try.func20, Try.ntmps20
      go_wp2_with (first | ((with_reducible refine gate_dst (N := 1) rfl ?_); refine box_event ?hg (N := 1) ?hd (cs := #[.int .i64 f, .int .i64 a, .int .i64 c, .slice A v.length cc, .int .i64 t, .int .i64 n, .int .i64 o]) (t := 24) ?hr ?_; (case hd => rfl); (case hg => rfl); (case hr => first | (go_simp; done) | (go_simp; rfl)); intro g hg w1 hb HB; have XB := Aside0.mk HB; have BK := Aside0.mk hb; obtain ⟨k0, k1, k2, k3, k4, k5, k6⟩ := cells7 hb; clear hg hb HB) | (go_at_call 45; refine (is_c _ _).mono ?_; rintro e w' ⟨rfl, rfl⟩) | (go_at_call 43; refine (refspan_c _ _ _ (by omega) (by omega)).mono ?_; rintro e w' ⟨rfl, rfl⟩))
      go_ret
      exact ⟨rfl, XB.out⟩
    · have z1 : (o == 0) = false := by simpa using hz1
      clear hz1
      go_enter Try.func20, Try.ntmps20
      go_wp2_with (first | ((with_reducible refine gate_dst (N := 1) rfl ?_); refine box_event ?hg (N := 1) ?hd (cs := #[.int .i64 f, .int .i64 a, .int .i64 c, .slice A v.length cc, .int .i64 t, .int .i64 n, .int .i64 o]) (t := 24) ?hr ?_; (case hd => rfl); (case hg => rfl); (case hr => first | (go_simp; done) | (go_simp; rfl)); intro g hg w1 hb HB; have XB := Aside0.mk HB; have BK := Aside0.mk hb; obtain ⟨k0, k1, k2, k3, k4, k5, k6⟩ := cells7 hb; clear hg hb HB) | (go_at_call 45; refine (is_c _ _).mono ?_; rintro e w' ⟨rfl, rfl⟩) | (go_at_call 43; refine (refspan_c _ _ _ (by omega) (by omega)).mono ?_; rintro e w' ⟨rfl, rfl⟩))
      go_ret
      exact ⟨rfl, XB.out⟩
  · have z0 : (n == 0) = false := by simpa using hz0
    clear hz0
    go_enter Try.func20, Try.ntmps20
    go_wp2_with (first | ((with_reducible refine gate_dst (N := 1) rfl ?_); refine box_event ?hg (N := 1) ?hd (cs := #[.int .i64 f, .int .i64 a, .int .i64 c, .slice A v.length cc, .int .i64 t, .int .i64 n, .int .i64 o]) (t := 24) ?hr ?_; (case hd => rfl); (case hg => rfl); (case hr => first | (go_simp; done) | (go_simp; rfl)); intro g hg w1 hb HB; have XB := Aside0.mk HB; have BK := Aside0.mk hb; obtain ⟨k0, k1, k2, k3, k4, k5, k6⟩ := cells7 hb; clear hg hb HB) | (go_at_call 45; refine (is_c _ _).mono ?_; rintro e w' ⟨rfl, rfl⟩) | (go_at_call 43; refine (refspan_c _ _ _ (by omega) (by omega)).mono ?_; rintro e w' ⟨rfl, rfl⟩))
    go_ret
    exact ⟨rfl, XB.out⟩
end Go.Proofs.Ytocicifgglkaeaa.Chk
end

section
namespace Go.Proofs.Ytocicifgglkaeaa.Chk
open Go.RowKit Go.Proofs.YtocicifgglkaeaaW.PrintWords Go.Proofs.YtocicifgglkaeaaW.PrintLast Go.Proofs.YtocicifgglkaeaaW.PrintMore Go.Proofs.Ytocicifgglkaeaa.Core Go.Proofs.Ytocicifgglkaeaa.Wk
set_option linter.unusedVariables false
set_option linter.unusedSimpArgs false
set_option maxHeartbeats 4000000 in
set_option maxRecDepth 100000 in
theorem may_23 (a c : Int) (A : Option Addr) (cc : Nat) (v : List Int) (t n o : Int) (w : World) (hV : Kd.C (Kd.int .i64) w A v.length v) : Calls Try.prog 20 #[.agg #[.int .i64 23, .int .i64 a, .int .i64 c, .slice A v.length cc, .int .i64 t, .int .i64 n, .int .i64 o]] w fun e w' => e = .returned (.bool (chkB 23 a c v t n o)) ∧ Below w.heap.size w w' := by
  have HV := Aside0.mk hV; clear hV
  by_cases hz0 : (n == 0) = true
  · have z0 : (n == 0) = true := hz0; clear hz0
    by_cases hz1 : (o == 0) = true
    · have z1 : (o == 0) = true := hz1; clear hz1
      by_cases hz2 : decide (1 ≤ c) = true
      · have z2 : decide (1 ≤ c) = true := hz2; clear hz2; have pz2 := of_decide_eq_true z2
        by_cases hz3 : decide (c ≤ 125) = true
        · have z3 : decide (c ≤ 125) = true := hz3; clear hz3; have pz3 := of_decide_eq_true z3
          by_cases hz4 : spB a c = true
          · have z4 : spB a c = true := hz4; clear hz4
            by_cases hz5 : smB 1 121 65535 v = true
            · have z5 : smB 1 121 65535 v = true := hz5; clear hz5; have pz5 := smB_len z5
              by_cases hz6 : spB t v.length = true
              · have z6 : spB t v.length = true := hz6; clear hz6
                have HR : Aside0 (chkB 23 a c v t n o = true) := ⟨by simp_all [chkB, wB] <;> (intros; omega)⟩
                rw [HR.out]
                go_enter Try.func20, Try.ntmps20
                go_wp2_with (first | ((with_reducible refine gate_dst (N := 1) rfl ?_); refine box_event ?hg (N := 1) ?hd (cs := #[.int .i64 23, .int .i64 a, .int .i64 c, .slice A v.length cc, .int .i64 t, .int .i64 n, .int .i64 o]) (t := 24) ?hr ?_; (case hd => rfl); (case hg => rfl); (case hr => first | (go_simp; done) | (go_simp; rfl)); intro g hg w1 hb HB; have XB := Aside0.mk HB; have BK := Aside0.mk hb; obtain ⟨k0, k1, k2, k3, k4, k5, k6⟩ := cells7 hb; clear hg hb HB) | (go_at_call 45; refine (is_c _ _).mono ?_; rintro e w' ⟨rfl, rfl⟩) | (go_at_call 43; refine (refspan_c _ _ _ (by omega) (by omega)).mono ?_; rintro e w' ⟨rfl, rfl⟩) | (go_at_call 44; refine (vals_c 23 a c A cc v t n o _ _ _ (Kd.C_below HV.out XB.out) (m := 65535) (by decide)).mono ?_; rintro e w2 ⟨rfl, HB⟩; have XBn := Aside0.mk (below_step XB.out HB); have BKn := Aside0.mk (blk_below BK.out HB); obtain ⟨k0, k1, k2, k3, k4, k5, k6⟩ := cells7 BKn.out; clear HB XB BK; have XB := XBn; have BK := BKn))
                go_ret
                exact ⟨rfl, XB.out⟩
              · have z6 : spB t v.length = false := by simpa using hz6
                clear hz6
                have HR : Aside0 (chkB 23 a c v t n o = false) := ⟨by simp_all [chkB, wB] <;> (intros; omega)⟩
                rw [HR.out]
                go_enter Try.func20, Try.ntmps20
                go_wp2_with (first | ((with_reducible refine gate_dst (N := 1) rfl ?_); refine box_event ?hg (N := 1) ?hd (cs := #[.int .i64 23, .int .i64 a, .int .i64 c, .slice A v.length cc, .int .i64 t, .int .i64 n, .int .i64 o]) (t := 24) ?hr ?_; (case hd => rfl); (case hg => rfl); (case hr => first | (go_simp; done) | (go_simp; rfl)); intro g hg w1 hb HB; have XB := Aside0.mk HB; have BK := Aside0.mk hb; obtain ⟨k0, k1, k2, k3, k4, k5, k6⟩ := cells7 hb; clear hg hb HB) | (go_at_call 45; refine (is_c _ _).mono ?_; rintro e w' ⟨rfl, rfl⟩) | (go_at_call 43; refine (refspan_c _ _ _ (by omega) (by omega)).mono ?_; rintro e w' ⟨rfl, rfl⟩) | (go_at_call 44; refine (vals_c 23 a c A cc v t n o _ _ _ (Kd.C_below HV.out XB.out) (m := 65535) (by decide)).mono ?_; rintro e w2 ⟨rfl, HB⟩; have XBn := Aside0.mk (below_step XB.out HB); have BKn := Aside0.mk (blk_below BK.out HB); obtain ⟨k0, k1, k2, k3, k4, k5, k6⟩ := cells7 BKn.out; clear HB XB BK; have XB := XBn; have BK := BKn))
                go_ret
                exact ⟨rfl, XB.out⟩
            · have z5 : smB 1 121 65535 v = false := by simpa using hz5
              clear hz5
              have HR : Aside0 (chkB 23 a c v t n o = false) := ⟨by simp_all [chkB, wB] <;> (intros; omega)⟩
              rw [HR.out]
              go_enter Try.func20, Try.ntmps20
              go_wp2_with (first | ((with_reducible refine gate_dst (N := 1) rfl ?_); refine box_event ?hg (N := 1) ?hd (cs := #[.int .i64 23, .int .i64 a, .int .i64 c, .slice A v.length cc, .int .i64 t, .int .i64 n, .int .i64 o]) (t := 24) ?hr ?_; (case hd => rfl); (case hg => rfl); (case hr => first | (go_simp; done) | (go_simp; rfl)); intro g hg w1 hb HB; have XB := Aside0.mk HB; have BK := Aside0.mk hb; obtain ⟨k0, k1, k2, k3, k4, k5, k6⟩ := cells7 hb; clear hg hb HB) | (go_at_call 45; refine (is_c _ _).mono ?_; rintro e w' ⟨rfl, rfl⟩) | (go_at_call 43; refine (refspan_c _ _ _ (by omega) (by omega)).mono ?_; rintro e w' ⟨rfl, rfl⟩) | (go_at_call 44; refine (vals_c 23 a c A cc v t n o _ _ _ (Kd.C_below HV.out XB.out) (m := 65535) (by decide)).mono ?_; rintro e w2 ⟨rfl, HB⟩; have XBn := Aside0.mk (below_step XB.out HB); have BKn := Aside0.mk (blk_below BK.out HB); obtain ⟨k0, k1, k2, k3, k4, k5, k6⟩ := cells7 BKn.out; clear HB XB BK; have XB := XBn; have BK := BKn))
              go_ret
              exact ⟨rfl, XB.out⟩
          · have z4 : spB a c = false := by simpa using hz4
            clear hz4
            have HR : Aside0 (chkB 23 a c v t n o = false) := ⟨by simp_all [chkB, wB] <;> (intros; omega)⟩
            rw [HR.out]
            go_enter Try.func20, Try.ntmps20
            go_wp2_with (first | ((with_reducible refine gate_dst (N := 1) rfl ?_); refine box_event ?hg (N := 1) ?hd (cs := #[.int .i64 23, .int .i64 a, .int .i64 c, .slice A v.length cc, .int .i64 t, .int .i64 n, .int .i64 o]) (t := 24) ?hr ?_; (case hd => rfl); (case hg => rfl); (case hr => first | (go_simp; done) | (go_simp; rfl)); intro g hg w1 hb HB; have XB := Aside0.mk HB; have BK := Aside0.mk hb; obtain ⟨k0, k1, k2, k3, k4, k5, k6⟩ := cells7 hb; clear hg hb HB) | (go_at_call 45; refine (is_c _ _).mono ?_; rintro e w' ⟨rfl, rfl⟩) | (go_at_call 43; refine (refspan_c _ _ _ (by omega) (by omega)).mono ?_; rintro e w' ⟨rfl, rfl⟩) | (go_at_call 44; refine (vals_c 23 a c A cc v t n o _ _ _ (Kd.C_below HV.out XB.out) (m := 65535) (by decide)).mono ?_; rintro e w2 ⟨rfl, HB⟩; have XBn := Aside0.mk (below_step XB.out HB); have BKn := Aside0.mk (blk_below BK.out HB); obtain ⟨k0, k1, k2, k3, k4, k5, k6⟩ := cells7 BKn.out; clear HB XB BK; have XB := XBn; have BK := BKn))
            go_ret
            exact ⟨rfl, XB.out⟩
        · have z3 : decide (c ≤ 125) = false := by simpa using hz3
          clear hz3
          have HR : Aside0 (chkB 23 a c v t n o = false) := ⟨by simp_all [chkB, wB] <;> (intros; omega)⟩
          rw [HR.out]
          go_enter Try.func20, Try.ntmps20
          go_wp2_with (first | ((with_reducible refine gate_dst (N := 1) rfl ?_); refine box_event ?hg (N := 1) ?hd (cs := #[.int .i64 23, .int .i64 a, .int .i64 c, .slice A v.length cc, .int .i64 t, .int .i64 n, .int .i64 o]) (t := 24) ?hr ?_; (case hd => rfl); (case hg => rfl); (case hr => first | (go_simp; done) | (go_simp; rfl)); intro g hg w1 hb HB; have XB := Aside0.mk HB; have BK := Aside0.mk hb; obtain ⟨k0, k1, k2, k3, k4, k5, k6⟩ := cells7 hb; clear hg hb HB) | (go_at_call 45; refine (is_c _ _).mono ?_; rintro e w' ⟨rfl, rfl⟩) | (go_at_call 43; refine (refspan_c _ _ _ (by omega) (by omega)).mono ?_; rintro e w' ⟨rfl, rfl⟩) | (go_at_call 44; refine (vals_c 23 a c A cc v t n o _ _ _ (Kd.C_below HV.out XB.out) (m := 65535) (by decide)).mono ?_; rintro e w2 ⟨rfl, HB⟩; have XBn := Aside0.mk (below_step XB.out HB); have BKn := Aside0.mk (blk_below BK.out HB); obtain ⟨k0, k1, k2, k3, k4, k5, k6⟩ := cells7 BKn.out; clear HB XB BK; have XB := XBn; have BK := BKn))
          go_ret
          exact ⟨rfl, XB.out⟩
      · have z2 : decide (1 ≤ c) = false := by simpa using hz2
        clear hz2
        have HR : Aside0 (chkB 23 a c v t n o = false) := ⟨by simp_all [chkB, wB] <;> (intros; omega)⟩
        rw [HR.out]
        go_enter Try.func20, Try.ntmps20
        go_wp2_with (first | ((with_reducible refine gate_dst (N := 1) rfl ?_); refine box_event ?hg (N := 1) ?hd (cs := #[.int .i64 23, .int .i64 a, .int .i64 c, .slice A v.length cc, .int .i64 t, .int .i64 n, .int .i64 o]) (t := 24) ?hr ?_; (case hd => rfl); (case hg => rfl); (case hr => first | (go_simp; done) | (go_simp; rfl)); intro g hg w1 hb HB; have XB := Aside0.mk HB; have BK := Aside0.mk hb; obtain ⟨k0, k1, k2, k3, k4, k5, k6⟩ := cells7 hb; clear hg hb HB) | (go_at_call 45; refine (is_c _ _).mono ?_; rintro e w' ⟨rfl, rfl⟩) | (go_at_call 43; refine (refspan_c _ _ _ (by omega) (by omega)).mono ?_; rintro e w' ⟨rfl, rfl⟩) | (go_at_call 44; refine (vals_c 23 a c A cc v t n o _ _ _ (Kd.C_below HV.out XB.out) (m := 65535) (by decide)).mono ?_; rintro e w2 ⟨rfl, HB⟩; have XBn := Aside0.mk (below_step XB.out HB); have BKn := Aside0.mk (blk_below BK.out HB); obtain ⟨k0, k1, k2, k3, k4, k5, k6⟩ := cells7 BKn.out; clear HB XB BK; have XB := XBn; have BK := BKn))
        go_ret
        exact ⟨rfl, XB.out⟩
    · have z1 : (o == 0) = false := by simpa using hz1
      clear hz1
      have HR : Aside0 (chkB 23 a c v t n o = false) := ⟨by simp_all [chkB, wB] <;> (intros; omega)⟩
      rw [HR.out]
      go_enter Try.func20, Try.ntmps20
      go_wp2_with (first | ((with_reducible refine gate_dst (N := 1) rfl ?_); refine box_event ?hg (N := 1) ?hd (cs := #[.int .i64 23, .int .i64 a, .int .i64 c, .slice A v.length cc, .int .i64 t, .int .i64 n, .int .i64 o]) (t := 24) ?hr ?_; (case hd => rfl); (case hg => rfl); (case hr => first | (go_simp; done) | (go_simp; rfl)); intro g hg w1 hb HB; have XB := Aside0.mk HB; have BK := Aside0.mk hb; obtain ⟨k0, k1, k2, k3, k4, k5, k6⟩ := cells7 hb; clear hg hb HB) | (go_at_call 45; refine (is_c _ _).mono ?_; rintro e w' ⟨rfl, rfl⟩) | (go_at_call 43; refine (refspan_c _ _ _ (by omega) (by omega)).mono ?_; rintro e w' ⟨rfl, rfl⟩) | (go_at_call 44; refine (vals_c 23 a c A cc v t n o _ _ _ (Kd.C_below HV.out XB.out) (m := 65535) (by decide)).mono ?_; rintro e w2 ⟨rfl, HB⟩; have XBn := Aside0.mk (below_step XB.out HB); have BKn := Aside0.mk (blk_below BK.out HB); obtain ⟨k0, k1, k2, k3, k4, k5, k6⟩ := cells7 BKn.out; clear HB XB BK; have XB := XBn; have BK := BKn))
      go_ret
      exact ⟨rfl, XB.out⟩
  · have z0 : (n == 0) = false := by simpa using hz0
    clear hz0
    have HR : Aside0 (chkB 23 a c v t n o = false) := ⟨by simp_all [chkB, wB] <;> (intros; omega)⟩
    rw [HR.out]
    go_enter Try.func20, Try.ntmps20
    go_wp2_with (first | ((with_reducible refine gate_dst (N := 1) rfl ?_); refine box_event ?hg (N := 1) ?hd (cs := #[.int .i64 23, .int .i64 a, .int .i64 c, .slice A v.length cc, .int .i64 t, .int .i64 n, .int .i64 o]) (t := 24) ?hr ?_; (case hd => rfl); (case hg => rfl); (case hr => first | (go_simp; done) | (go_simp; rfl)); intro g hg w1 hb HB; have XB := Aside0.mk HB; have BK := Aside0.mk hb; obtain ⟨k0, k1, k2, k3, k4, k5, k6⟩ := cells7 hb; clear hg hb HB) | (go_at_call 45; refine (is_c _ _).mono ?_; rintro e w' ⟨rfl, rfl⟩) | (go_at_call 43; refine (refspan_c _ _ _ (by omega) (by omega)).mono ?_; rintro e w' ⟨rfl, rfl⟩) | (go_at_call 44; refine (vals_c 23 a c A cc v t n o _ _ _ (Kd.C_below HV.out XB.out) (m := 65535) (by decide)).mono ?_; rintro e w2 ⟨rfl, HB⟩; have XBn := Aside0.mk (below_step XB.out HB); have BKn := Aside0.mk (blk_below BK.out HB); obtain ⟨k0, k1, k2, k3, k4, k5, k6⟩ := cells7 BKn.out; clear HB XB BK; have XB := XBn; have BK := BKn))
    go_ret
    exact ⟨rfl, XB.out⟩
end Go.Proofs.Ytocicifgglkaeaa.Chk
end

section
namespace Go.Proofs.Ytocicifgglkaeaa.Chk
open Go.RowKit Go.Proofs.YtocicifgglkaeaaW.PrintWords Go.Proofs.YtocicifgglkaeaaW.PrintLast Go.Proofs.YtocicifgglkaeaaW.PrintMore Go.Proofs.Ytocicifgglkaeaa.Core Go.Proofs.Ytocicifgglkaeaa.Wk
set_option linter.unusedVariables false
set_option linter.unusedSimpArgs false
theorem chk_c (f a c : Int) (A : Option Addr) (cc : Nat) (v : List Int) (t n o : Int) (w : World) (hV : Kd.C (Kd.int .i64) w A v.length v) : Calls Try.prog 29 #[.agg #[.int .i64 f, .int .i64 a, .int .i64 c, .slice A v.length cc, .int .i64 t, .int .i64 n, .int .i64 o]] w fun e w' => e = .returned (.int .i64 (if chkB f a c v t n o then 0 else 1)) ∧ Below w.heap.size w w' := by
  by_cases h0 : f = 1
  · subst h0; exact chk_1 a c A cc v t n o w hV
  by_cases h1 : f = 2
  · subst h1; exact chk_2 a c A cc v t n o w hV
  by_cases h2 : f = 3
  · subst h2; exact chk_3 a c A cc v t n o w hV
  by_cases h3 : f = 4
  · subst h3; exact chk_4 a c A cc v t n o w hV
  by_cases h4 : f = 5
  · subst h4; exact chk_5 a c A cc v t n o w hV
  by_cases h5 : f = 6
  · subst h5; exact chk_6 a c A cc v t n o w hV
  by_cases h6 : f = 15
  · subst h6; exact chk_15 a c A cc v t n o w hV
  by_cases h7 : f = 16
  · subst h7; exact chk_16 a c A cc v t n o w hV
  by_cases h8 : f = 22
  · subst h8; exact chk_22 a c A cc v t n o w hV
  by_cases h9 : f = 23
  · subst h9; exact chk_23 a c A cc v t n o w hV
  exact chk_f f a c A cc v t n o w hV ⟨h0, h1, h2, h3, h4, h5, h6, h7, h8, h9⟩
theorem may_c (f a c : Int) (A : Option Addr) (cc : Nat) (v : List Int) (t n o : Int) (w : World) (hV : Kd.C (Kd.int .i64) w A v.length v) : Calls Try.prog 20 #[.agg #[.int .i64 f, .int .i64 a, .int .i64 c, .slice A v.length cc, .int .i64 t, .int .i64 n, .int .i64 o]] w fun e w' => e = .returned (.bool (chkB f a c v t n o)) ∧ Below w.heap.size w w' := by
  by_cases h0 : f = 1
  · subst h0; exact may_1 a c A cc v t n o w hV
  by_cases h1 : f = 2
  · subst h1; exact may_2 a c A cc v t n o w hV
  by_cases h2 : f = 3
  · subst h2; exact may_3 a c A cc v t n o w hV
  by_cases h3 : f = 4
  · subst h3; exact may_4 a c A cc v t n o w hV
  by_cases h4 : f = 5
  · subst h4; exact may_5 a c A cc v t n o w hV
  by_cases h5 : f = 6
  · subst h5; exact may_6 a c A cc v t n o w hV
  by_cases h6 : f = 15
  · subst h6; exact may_15 a c A cc v t n o w hV
  by_cases h7 : f = 16
  · subst h7; exact may_16 a c A cc v t n o w hV
  by_cases h8 : f = 22
  · subst h8; exact may_22 a c A cc v t n o w hV
  by_cases h9 : f = 23
  · subst h9; exact may_23 a c A cc v t n o w hV
  exact may_f f a c A cc v t n o w hV ⟨h0, h1, h2, h3, h4, h5, h6, h7, h8, h9⟩
theorem chk_yes (f a c : Int) (A : Option Addr) (cc : Nat) (v : List Int) (t n o : Int) (w : World) (hV : Kd.C (Kd.int .i64) w A v.length v) {b : Bool} (hb : chkB f a c v t n o = b) {x : Int} (hx : (if b then 0 else 1) = x) : Calls Try.prog 29 #[.agg #[.int .i64 f, .int .i64 a, .int .i64 c, .slice A v.length cc, .int .i64 t, .int .i64 n, .int .i64 o]] w fun e w' => e = .returned (.int .i64 x) ∧ Below w.heap.size w w' := by
  have h := chk_c f a c A cc v t n o w hV
  rw [hb] at h
  rw [← hx]
  exact h
end Go.Proofs.Ytocicifgglkaeaa.Chk
end

/- The words, contracts and walks that this claim leans on, put together by a program of this session (part 1). -/
import Derived.Test.YtlalpooiegganaaZO0
import Derived.Test.YtlalpooiegganaaProg
import Derived.Laws.StructEq
import Derived.MapKept
import Derived.Laws.CopyOwn
import Derived.Lib.AppendZerosOnto
section
namespace Go.Proofs.Ytlalpooiegganaa.PMasterWaits
open Go.RowKit Go.Proofs.YtlalpooiegganaaW.PrintWords Go.Proofs.YtlalpooiegganaaW.PrintLast Go.Proofs.YtlalpooiegganaaW.PrintMore
attribute [local go_sem] max2_int min2_int max_two min_two max_three min_three max_four min_four   
set_option linter.unusedVariables false
set_option linter.unusedSimpArgs false
def errW : Option Int → Value
  | none => .nilIface
  | some c => .iface 0 (.int .i64 c)
theorem errW_none : errW none = .nilIface := rfl
theorem errW_some (c : Int) : errW (some c) = .iface 0 (.int .i64 c) := rfl
theorem info3 : (Try.prog.info? 3).map (fun i => (i.zero, i.size, i.bytes)) = some (some (.int .i64 0), 1, 8) := by kernel_rfl
theorem info5 : (Try.prog.info? 5).map (fun i => (i.zero, i.size, i.bytes)) = some (some (.int .u8 0), 1, 1) := by kernel_rfl
structure S31 where
  f0 : Int
  f1 : Int
  f2 : Int
  f3 : (List Int)
  f4 : Int
  f5 : Int
  f6 : Int
structure S39 where
  f0 : Int
  f1 : Int
  f2 : S31
end Go.Proofs.Ytlalpooiegganaa.PMasterWaits
end

section
namespace Go.Proofs.Ytlalpooiegganaa.Core
open Go.RowKit Go.Proofs.YtlalpooiegganaaW.PrintWords Go.Proofs.YtlalpooiegganaaW.PrintLast Go.Proofs.YtlalpooiegganaaW.PrintMore
set_option linter.unusedVariables false
set_option linter.unusedSimpArgs false
structure Ext (M : Nat → Prop) (w w' : World) : Prop where
  os : w'.os = w.os
  tape : w'.tape = w.tape
  output : w'.output = w.output
  size : w.heap.size ≤ w'.heap.size
  block : ∀ k, k < w.heap.size → ¬ M k → w'.heap[k]? = w.heap[k]?
structure Ever (M : Nat → Prop) (w : World) (P : World → Prop) : Prop where
  at_ : ∀ w', Ext M w w' → P w'
section
variable {M M' : Nat → Prop} {w w1 w2 W : World} {P Q : World → Prop}
theorem Ext.refl (M : Nat → Prop) (w : World) : Ext M w w := ⟨rfl, rfl, rfl, Nat.le_refl _, fun _ _ _ => rfl⟩
theorem Ext.trans (h : Ext M w w1) (k : Ext M w1 w2) : Ext M w w2 :=
  ⟨k.os.trans h.os, k.tape.trans h.tape, k.output.trans h.output, Nat.le_trans h.size k.size, fun i hi hm => (k.block i (Nat.lt_of_lt_of_le hi h.size) hm).trans (h.block i hi hm)⟩
theorem Ext.mono (h : Ext M w w1) (hm : ∀ k, k < w.heap.size → M k → M' k) : Ext M' w w1 := ⟨h.os, h.tape, h.output, h.size, fun i hi hn => h.block i hi (fun a => hn (hm i hi a))⟩
theorem Ext.of_below (h : Below w.heap.size w w1) : Ext M w w1 := ⟨h.os, h.tape, h.output, h.size, fun i hi _ => h.block i hi⟩
theorem Ext.then_below (h : Ext M w w1) (k : Below w1.heap.size w1 w2) : Ext M w w2 := h.trans (.of_below k)
theorem Ext.alloc (h : Ext M w W) (o : Obj) : Ext M w (W.alloc o) := h.then_below (below_alloc (Below.refl _ _) o)
theorem Ext.drewN (h : Ext M w W) (n : Nat) : Ext M w (W.drewN n) := h.then_below (pw_below_drewN (Below.refl _ _) n)
theorem Ext.drew (h : Ext M w W) : Ext M w W.drew := h.then_below (below_drew1 (Below.refl _ _))
theorem Ext.set (h : Ext M w W) {g j : Nat} (hg : M g) (v : Value) : Ext M w (W.setCell ⟨g, j, none⟩ v) :=
  h.trans ⟨rfl, rfl, rfl, by simp [World.setCell], fun k _ hk => Below.heap_setCell _ _ _ _ (fun e => hk (by simpa using e ▸ hg))⟩
theorem Ext.new (h : Ext M w W) {g j : Nat} (hg : w.heap.size ≤ g) (v : Value) : Ext M w (W.setCell ⟨g, j, none⟩ v) :=
  ⟨h.os, h.tape, h.output, by have := h.size; simpa [World.setCell] using this, fun k hk hm => (Below.heap_setCell _ _ _ _ (by show k ≠ g; omega)).trans (h.block k hk hm)⟩
theorem Ext.grown (h : Ext M w W) {row : Option Nat} (hg : W.grownBy w1 row) (hr : ∀ k, row = some k → M k ∨ w.heap.size ≤ k) : Ext M w w1 :=
  ⟨hg.os.trans h.os, hg.tape.trans h.tape, hg.output.trans h.output, Nat.le_trans h.size hg.size, fun k hk hm => (hg.block k (Nat.lt_of_lt_of_le hk h.size) (fun e => by rcases hr k e.symm with a | a; exact hm a; omega)).trans (h.block k hk hm)⟩
theorem Ext.below (h : Ext M w W) (hM : ∀ k, M k → w.heap.size ≤ k) : Below w.heap.size w W := ⟨h.os, h.tape, h.output, h.size, fun k hk => h.block k hk (fun a => by have := hM k a; omega)⟩
theorem Ext.grow (h : Ext M w W) (k : Ext M' W w2) (hM : ∀ k, M' k → M k ∨ w.heap.size ≤ k) : Ext M w w2 :=
  ⟨k.os.trans h.os, k.tape.trans h.tape, k.output.trans h.output, Nat.le_trans h.size k.size, fun i hi hm => (k.block i (Nat.lt_of_lt_of_le hi h.size) (fun a => by rcases hM i a with b | b; exact hm b; omega)).trans (h.block i hi hm)⟩
theorem Ext.setg {g j : Nat} (h : Ext (fun k => k = g) w W) (v : Value) : Ext (fun k => k = g) w (W.setCell ⟨g, j, none⟩ v) := Ext.set h (M := fun k => k = g) rfl v
theorem Ever.now (h : Ever M w P) : P w := h.at_ w (Ext.refl _ _)
theorem Ever.step (h : Ever M w P) (k : Ext M w w1) : Ever M w1 P := ⟨fun w2 h2 => h.at_ w2 (k.trans h2)⟩
theorem Ever.grow (h : Ever M w P) (k : Ext M w w1) (hM : ∀ k, M' k → M k ∨ w.heap.size ≤ k) : Ever M' w1 P := ⟨fun w2 h2 => h.at_ w2 (k.grow h2 hM)⟩
theorem Ever.imp (h : Ever M w P) (k : ∀ w, P w → Q w) : Ever M w Q := ⟨fun w1 h1 => k _ (h.at_ w1 h1)⟩
theorem Ever.and (h : Ever M w P) (k : Ever M w Q) : Ever M w (fun w => P w ∧ Q w) := ⟨fun w1 h1 => ⟨h.at_ w1 h1, k.at_ w1 h1⟩⟩
theorem Ever.old (h : P w) (hb : ∀ w1, Below w.heap.size w w1 → P w1) (hM : ∀ k, M k → w.heap.size ≤ k) : Ever M w P := ⟨fun w1 h1 => hb w1 (h1.below hM)⟩
theorem Ever.C {α : Type} {d : Kd α} {A : Option Addr} {n : Nat} {xs : List α} (h : d.C w A n xs) (hM : ∀ k, M k → w.heap.size ≤ k) : Ever M w (fun W => d.C W A n xs) := .old h (fun _ hb => Kd.C_below h hb) hM
theorem Ever.R {α : Type} {d : Kd α} {e base : Nat} {ok : Nat → Prop} {A : Option Addr} {n c : Nat} {xs : List α} (h : d.R e w base ok (.slice A n c) xs) (hM : ∀ k, M k → k < base) : Ever M w (fun W => d.C W A xs.length xs) := by
  refine ⟨fun w1 h1 => ?_⟩
  have h2 : d.R e w1 base (fun k => ok k ∧ base ≤ k ∧ k < w.heap.size ∧ ∃ q, q ∈ e :: d.E ∧ ∃ cells, w.heap[k]? = some (.cells cells q (0, 0))) (.slice A n c) xs :=
    Kd.R_move (Kd.R_bound h) (fun k hk => h1.block k hk.2.2.1 (fun a => by have := hM k a; have := hk.2.1; omega))
  exact (Kd.R_reads' h2).2.2
theorem Ever.blk {g : Nat} {o : Obj} (h : w.heap[g]? = some o) (hM : ¬ M g) : Ever M w (fun W => W.heap[g]? = some o) := ⟨fun w1 h1 => (h1.block g (blk_lt h) hM).trans h⟩
theorem Ever.nil {α : Type} (d : Kd α) : Ever M w (fun W => d.C W none ([] : List α).length []) := ⟨fun w1 _ => Kd.C_nil d w1⟩
theorem Ever.triv {p : Prop} (h : p) : Ever M w (fun _ => p) := ⟨fun _ _ => h⟩
end
section
variable {α : Type} {enc : α → Value} {h1 : ∀ x, (enc x).oneCell' = true} {M : Nat → Prop} {w : World} {A : Option Addr}
theorem Ever.take {d : Kd α} {xs : List α} (h : Ever M w (fun W => d.C W A xs.length xs)) {m : Nat} (hm : m ≤ xs.length) : Ever M w (fun W => d.C W A (xs.take m).length (xs.take m)) := h.imp (fun _ k => Kd.C_take k hm)
end
def Mv (M : Nat → Prop) (v : Value) (k : Nat) : Prop := M k ∨ some k = v.ownBlock
def OwnE {α : Type} (d : Kd α) (M : Nat → Prop) (e : TypeId) (base : Nat) (W : World) (v : Value) (xs : List α) : Prop :=
  ∃ inner, W.ownsRow base e d.sz v xs.length inner ∧ Reps (fun x cs => Ever (Mv M v) W (fun W => d.K W x cs)) d.sz xs inner
section
variable {α : Type} {d : Kd α} {M M' : Nat → Prop} {e : TypeId} {base : Nat} {W w1 : World} {v v1 : Value} {xs : List α} {P : World → Prop}
theorem OwnE.nil (d : Kd α) (M : Nat → Prop) (e : TypeId) (base : Nat) (W : World) : OwnE d M e base W (.slice none 0 0) [] := ⟨[], own_nil W base e d.sz, Reps.none _ _⟩
theorem OwnE.slice (h : OwnE d M e base W v xs) : ∃ A c, v = .slice A xs.length c := by obtain ⟨i, h, _⟩ := h; exact own_slice h
theorem OwnE.step (h : OwnE d M e base W v xs) (k : Ext (Mv M v) W w1) (hv : ∀ k, v.ownBlock = some k → w1.heap[k]? = W.heap[k]?) : OwnE d M e base w1 v xs := by
  obtain ⟨i, h1, h2⟩ := h
  exact ⟨i, own_move h1 hv, h2.imp_ (fun _ _ h => h.step k)⟩
theorem OwnE.below (h : OwnE d M e base W v xs) (k : Below W.heap.size W w1) : OwnE d M e base w1 v xs := by
  obtain ⟨i, h1, h2⟩ := h
  exact ⟨i, pw_own_below h1 k, h2.imp_ (fun _ _ h => h.step (.of_below k))⟩
theorem OwnE.ext (h : OwnE d M e base W v xs) (k : Ext M W w1) (hM : ∀ k, v.ownBlock = some k → ¬ M k) : OwnE d M e base w1 v xs := by
  have h0 := h
  obtain ⟨i, h1, h2⟩ := h0
  exact h.step (k.mono (fun _ _ a => .inl a)) (fun b hb => k.block b (own_lt h1 b hb) (hM b hb))
theorem OwnE.base_le (h : OwnE d M e base W v xs) (k : Nat) (hk : v.ownBlock = some k) : base ≤ k := by obtain ⟨i, h1, _⟩ := h; exact own_base h1 k hk
theorem OwnE.lt (h : OwnE d M e base W v xs) (k : Nat) (hk : v.ownBlock = some k) : k < W.heap.size := by obtain ⟨i, h1, _⟩ := h; exact own_lt h1 k hk
theorem OwnE.view (h : OwnE d M e base W v xs) (hM : ∀ k, v.ownBlock = some k → ¬ M k) : ∃ A c, v = .slice A xs.length c ∧ xs.length ≤ c ∧ Ever M W (fun W => d.C W A xs.length xs) := by
  obtain ⟨i, h1, h2⟩ := h
  obtain ⟨A, c, rfl⟩ := own_slice h1
  refine ⟨A, c, rfl, own_cap h1, ⟨fun w1 k => ?_⟩⟩
  have h3 : w1.ownsRow base e d.sz (.slice A xs.length c) xs.length i := own_move h1 (fun b hb => k.block b (own_lt h1 b hb) (hM b hb))
  have h4 : Reps (d.K w1) d.sz xs i := h2.imp_ (fun _ _ h => h.at_ _ (k.mono (fun _ _ a => .inl a)))
  obtain ⟨A', c', e', h5⟩ := own_reads_row h3 h4 rfl
  cases e'
  exact h5
theorem Mv_grow {W w1 : World} (hat : v1.ownBlock = v.ownBlock ∨ ∃ b, v1.ownBlock = some b ∧ W.heap.size ≤ b) (k : Nat) (h : Mv M v1 k) : Mv M v k ∨ W.heap.size ≤ k := by
  rcases h with h | h
  · exact .inl (.inl h)
  · rcases hat with a | ⟨b, a, hb⟩
    · exact .inl (.inr (h.trans a))
    · rw [a] at h; injection h with h; exact .inr (by omega)
theorem Ext.of_grown (h : W.grownBy w1 v.ownBlock) : Ext (Mv M v) W w1 := ⟨h.os, h.tape, h.output, h.size, fun k hk hm => h.block k hk (fun e => hm (.inr e))⟩
end
section
variable {P : Program} {ops : Array Oper} {rest : List Oper} {o : Oper} {a : Act} {Q : Exit → Act → World → Prop} {α : Type}
theorem ev_append (d : Kd α) {M : Nat → Prop} {w0 W : World} (base : Nat) (hgd : o.guard = none) (s x : Operand) (t e : TypeId) (z : Value) (bytes : Nat)
    (ho : o.op = .call { callee := .builtin .append, args := #[s, x], argTypes := #[t, t] })
    (ht : P.underlying t = some (.slice e)) (hinfo : (P.info? e).map (fun i => (i.zero, i.size, i.bytes)) = some (some z, d.sz, bytes)) (hz : z.cells.size = d.sz) (hs0 : 0 < d.sz) (hb0 : 0 < bytes)
    (v : Value) (xs : List α) (p : α) (ys : List Value) (hs : a.eval s = v) (hx : a.eval x = .slice (some ⟨W.heap.size, 0, none⟩) 1 1)
    (HO : OwnE d M e base W v xs) (hp : Ever (Mv M v) W (fun W => d.K W p ys)) (HB : Below base w0 W) (hbase : base ≤ W.heap.size) (hl : (xs.length + 1) * bytes ≤ 140737488355328)
    (h : ∀ v1 w1, OwnE d M e base w1 v1 (xs ++ [p]) → Below base w0 w1 → W.grownBy w1 v.ownBlock → (v1.ownBlock = v.ownBlock ∨ ∃ b, v1.ownBlock = some b ∧ W.heap.size ≤ b) → wpList P ops Q rest (a.put o.dst v1) w1) :
    wpList P ops Q (o :: rest) a (W.alloc (.cells ys.toArray e)) := by
  obtain ⟨inner, hown, hr⟩ := HO
  refine print_append_cells base hgd s x t e z d.sz bytes ho ht hinfo hz hs0 hb0 v xs.length inner ys hs hx (d.K_len hp.now) (d.K_one hp.now) hown HB hbase hl (fun v1 w1 h1 h2 h3 h4 => ?_)
  have hE : Ext (Mv M v) W w1 := Ext.of_grown h3
  refine h v1 w1 ⟨inner ++ ys, by rw [List.length_append, List.length_singleton]; exact h1, ?_⟩ h2 h3 h4
  exact (hr.imp_ (fun _ _ k => k.grow hE (Mv_grow (w1 := w1) h4))).snoc (hp.grow hE (Mv_grow (w1 := w1) h4)) (d.K_len hp.now)
theorem ev_append_rows (d : Kd α) {M : Nat → Prop} {w0 W : World} (base : Nat) (hgd : o.guard = none) (s x : Operand) (t e : TypeId) (z : Value) (bytes : Nat)
    (ho : o.op = .call { callee := .builtin .append, args := #[s, x], argTypes := #[t, t] })
    (ht : P.underlying t = some (.slice e)) (hinfo : (P.info? e).map (fun i => (i.zero, i.size, i.bytes)) = some (some z, d.sz, bytes)) (hz : z.cells.size = d.sz) (hs0 : 0 < d.sz) (hb0 : 0 < bytes)
    (v : Value) (xs ys : List α) (A : Option Addr) (m c : Nat) (hs : a.eval s = v) (hx : a.eval x = .slice A m c)
    (HO : OwnE d M e base W v xs) (HR : ReadsRow (fun x cs => cs.length = d.sz ∧ (∀ u ∈ cs, u.oneCell' = true) ∧ Ever (Mv M v) W (fun W => d.K W x cs)) d.sz W A m ys)
    (HB : Below base w0 W) (hbase : base ≤ W.heap.size) (hl : (xs.length + m) * bytes ≤ 140737488355328)
    (h : ∀ v1 w1, OwnE d M e base w1 v1 (xs ++ ys) → Below base w0 w1 → W.grownBy w1 v.ownBlock → (v1.ownBlock = v.ownBlock ∨ ∃ b, v1.ownBlock = some b ∧ W.heap.size ≤ b) → wpList P ops Q rest (a.put o.dst v1) w1) :
    wpList P ops Q (o :: rest) a W := by
  obtain ⟨i0, hi, hzz⟩ := Option.map_eq_some_iff.1 hinfo
  simp only [Prod.mk.injEq] at hzz
  obtain ⟨hz0, hz1, hz2⟩ := hzz
  have hm : ys.length = m := HR.1
  have hlen : xs.length + m ≤ 140737488355328 := Nat.le_trans (Nat.le_mul_of_pos_right _ hb0) hl
  obtain ⟨inner, hown, hr⟩ := HO
  rcases A with _ | ad
  · have h0 : m = 0 := by
      rcases Nat.eq_zero_or_pos m with h0 | h0
      · exact h0
      · obtain ⟨ad, h, _⟩ := HR.2.2 h0
        cases h
    subst h0
    obtain rfl : ys = [] := List.eq_nil_of_length_eq_zero hm
    have hrun : (Builtin.append_ #[t, t] o.type #[v, .slice none 0 c]).run P W = .ok v W := by
      rcases hown.2 with ⟨rfl, hn⟩ | ⟨g, cap, cur, rfl, _, _, hnc, _⟩
      · simp [Builtin.append_, run_underlying ht, sizeOf, typeInfo, hi, Builtin.lenOf, Builtin.firstCells]
      · simp [Builtin.append_, run_underlying ht, sizeOf, typeInfo, hi, Builtin.lenOf, Builtin.firstCells, hnc, storeCells]
    refine wpList_plain hgd fun K hK => ?_
    unfold Oper.wp execOp
    simp only [ho, resolve, invoke, builtin, Sem.run_bind, Sem.run_pure, Result.andThen_ok, List.map_toArray, List.map_cons, List.map_nil, hs, hx, hrun]
    exact hK _ _ (h v W (by rw [List.append_nil]; exact ⟨inner, hown, hr⟩) HB (World.grownBy.refl W _) (.inl rfl))
  · obtain ⟨news, hnr, hnc⟩ := ReadsRow.inner_ HR
    have hone : ∀ u ∈ news, u.oneCell' = true := by
      intro u hu
      obtain ⟨q, hq, rfl⟩ := List.mem_iff_getElem.1 hu
      have hql : q / d.sz < ys.length := by
        rw [Nat.div_lt_iff_lt_mul hs0]
        rw [← hnr.1]
        exact hq
      have hc := hnr.2 (q / d.sz) _ (List.getElem?_eq_getElem hql)
      refine hc.2.1 _ ?_
      rw [List.mem_iff_getElem?]
      refine ⟨q % d.sz, ?_⟩
      rw [List.getElem?_take, if_pos (Nat.mod_lt _ hs0), List.getElem?_drop, Nat.mul_comm, Nat.div_add_mod, List.getElem?_eq_getElem hq]
    refine wpList_append_own_at W hgd s x t ho base e i0 z d.sz bytes ht hi hz0 hz1 hz2 hz hs0 v xs.length inner hs hown ad m c news hx (by rw [hnr.1, hm]) hnc hone (by simp only [maxLen]; omega) hl hbase (fun v1 w1 h1 h3 _ h4 => ?_)
    have h4' : v1.ownBlock = v.ownBlock ∨ ∃ b, v1.ownBlock = some b ∧ W.heap.size ≤ b := by
      rcases h4 with a | a
      · exact .inl a
      · exact .inr ⟨_, a, Nat.le_refl _⟩
    have hE : Ext (Mv M v) W w1 := Ext.of_grown h3
    refine h v1 w1 ⟨inner ++ news, by rw [List.length_append, hm]; exact h1, ?_⟩ (HB.grown h3 hbase (own_base hown)) h3 h4'
    exact Kd.reps_append (hr.imp_ (fun _ _ k => k.grow hE (Mv_grow (w1 := w1) h4'))) (hnr.imp_ (fun _ _ k => k.2.2.grow hE (Mv_grow (w1 := w1) h4')))
end
def RowE {α : Type} (d : Kd α) (M : Nat → Prop) (W : World) (A : Option Addr) (n : Nat) (xs : List α) : Prop :=
  xs.length = n ∧ n ≤ 9223372036854775807 ∧ (0 < n → ∃ ad inner, A = some ad ∧ Reps (fun x cs => (cs.length = d.sz ∧ ∀ u ∈ cs, u.oneCell' = true) ∧ Ever M W (fun W => d.K W x cs)) d.sz xs inner ∧ Ever M W (fun W => ∀ i u, inner[i]? = some u → W.cell? (ad.add i) = some u))
section
variable {α : Type} {d : Kd α} {M M' : Nat → Prop} {W w1 : World} {A : Option Addr} {n : Nat} {xs : List α}
theorem RowE.grow (h : RowE d M W A n xs) (k : Ext M W w1) (hM : ∀ k, M' k → M k ∨ W.heap.size ≤ k) : RowE d M' w1 A n xs := by
  refine ⟨h.1, h.2.1, fun hn => ?_⟩
  obtain ⟨ad, inner, rfl, h1, h2⟩ := h.2.2 hn
  exact ⟨ad, inner, rfl, h1.imp_ (fun _ _ a => ⟨a.1, a.2.grow k hM⟩), h2.grow k hM⟩
theorem RowE.step (h : RowE d M W A n xs) (k : Ext M W w1) : RowE d M w1 A n xs := h.grow k (fun _ a => .inl a)
theorem RowE.nil : RowE d M W none ([] : List α).length [] := ⟨rfl, by simp, fun h => absurd h (Nat.lt_irrefl 0)⟩
theorem RowE.old (h : d.C W A n xs) (hM : ∀ k, M k → W.heap.size ≤ k) : RowE d M W A n xs := by
  refine ⟨h.1, h.2.1, fun hn => ?_⟩
  obtain ⟨ad, rfl, hc⟩ := h.2.2 hn
  obtain ⟨inner, hr, hcell⟩ := ReadsRow.inner_ h
  refine ⟨ad, inner, rfl, ?_, ?_⟩
  · refine hr.imp_ (fun x cs hk => ⟨⟨d.K_len hk, d.K_one hk⟩, Ever.old hk (fun _ hb => d.K_below hb hk) hM⟩)
  · exact Ever.old hcell (fun _ hb i u hu => pw_cell_below hb (hcell i u hu)) hM
end
def IsRow {α : Type} (d : Kd α) (M : Nat → Prop) (W : World) (v : Value) (xs : List α) : Prop := ∃ A c, v = .slice A xs.length c ∧ xs.length ≤ c ∧ RowE d M W A xs.length xs
theorem IsRow.grow {α : Type} {d : Kd α} {M M' : Nat → Prop} {W w1 : World} {v : Value} {xs : List α} (h : IsRow d M W v xs) (k : Ext M W w1) (hM : ∀ k, M' k → M k ∨ W.heap.size ≤ k) : IsRow d M' w1 v xs := by
  obtain ⟨A, c, e, hc, h⟩ := h
  exact ⟨A, c, e, hc, h.grow k hM⟩
theorem IsRow.step {α : Type} {d : Kd α} {M : Nat → Prop} {W w1 : World} {v : Value} {xs : List α} (h : IsRow d M W v xs) (k : Ext M W w1) : IsRow d M w1 v xs := h.grow k (fun _ a => .inl a)
theorem new_blk {W : World} {o : Obj} {g : Nat} (hg : g = W.heap.size) : (W.alloc o).heap[g]? = some o := by subst hg; exact heap_alloc_new W o
end Go.Proofs.Ytlalpooiegganaa.Core
end

section
set_option linter.unusedVariables false
set_option linter.unusedSimpArgs false
namespace Go.Proofs.Ytlalpooiegganaa.Wk
open Go.RowKit Go.Proofs.YtlalpooiegganaaW.PrintWords Go.Proofs.YtlalpooiegganaaW.PrintLast Go.Proofs.YtlalpooiegganaaW.PrintMore Go.Proofs.Ytlalpooiegganaa.Core
end Go.Proofs.Ytlalpooiegganaa.Wk
namespace Go.Proofs.Ytlalpooiegganaa.Core
open Go.RowKit Go.Proofs.YtlalpooiegganaaW.PrintWords Go.Proofs.YtlalpooiegganaaW.PrintLast Go.Proofs.YtlalpooiegganaaW.PrintMore
section
variable {M M' F : Nat → Prop} {w w1 w2 W W' : World} {P Q : World → Prop} {g : Nat}
theorem Ext.blk {o : Obj} (h : Ext F W W') (hb : W.heap[g]? = some o) (hg : ¬ F g) : W'.heap[g]? = some o := (h.block g (blk_lt hb) hg).trans hb
theorem Ext.sub (h : Ext F W W') (hs : ∀ k, F k → M k) : Ext M W W' := h.mono (fun k _ e => hs k e)
theorem Ext.step (h : Ext M w W) (k : Ext F W W') (hF : ∀ k, F k → M k ∨ w.heap.size ≤ k) : Ext M w W' := h.grow k hF
theorem Ext.stepB (h : Ext M w W) (k : Below W.heap.size W W') : Ext M w W' := h.then_below k
theorem Ext.none_ (h : Below W.heap.size W W') : Ext (fun _ => False) W W' := Ext.of_below h
theorem ne_born {h g n : Nat} (hl : h < n) (hg : g = n) : h ≠ g := by omega
theorem fnew {g : Nat} (hg : g = W.heap.size) (h : w.heap.size ≤ W.heap.size) : ∀ k, k = g → M k ∨ w.heap.size ≤ k := fun k e => .inr (by omega)
def Ms (gs : List Nat) (k : Nat) : Prop := k ∈ gs
theorem Ms.new {r : Nat} {gs : List Nat} {n : Nat} (hr : n ≤ r) : ∀ k, Ms (r :: gs) k → Ms gs k ∨ n ≤ k := fun k h => by
  rcases List.mem_cons.1 h with e | h
  · exact .inr (by omega)
  · exact .inl h
theorem Ms.old {r : Nat} {gs : List Nat} : ∀ k, Ms gs k → Ms (r :: gs) k := fun _ h => List.mem_cons_of_mem _ h
theorem Ms.one {g : Nat} {gs : List Nat} (h : g ∈ gs) : ∀ k, k = g → Ms gs k := fun k e => by rw [e]; exact h
theorem Ms.lt (gs : List Nat) {n n' : Nat} (h : ∀ k, Ms gs k → k < n) (hn : n ≤ n') : ∀ k, Ms gs k → k < n' := fun k hk => Nat.lt_of_lt_of_le (h k hk) hn
theorem put1 {g i : Nat} {v : Value} {cs cs' : Array Value} {T : TypeId} (hw : W' = W.setCell ⟨g, i, none⟩ v) (hb : W.heap[g]? = some (.cells cs T (0, 0))) (hc : cs.setIfInBounds i v = cs') :
    W'.heap[g]? = some (.cells cs' T (0, 0)) ∧ Ext (fun k => k = g) W W' := by
  subst hw
  exact ⟨blk_put hb i v hc, (Ext.refl _ _).setg v⟩
theorem Ever.ofRow {xs : List Int} {k : IntKind} {e : TypeId} {n : Nat} (h : W.heap[g]? = some (.cells (xs.map (Value.int k)).toArray e (0, 0))) (hl : xs.length ≤ 9223372036854775807) (hM : ¬ M g) : Ever M W (fun W => Kd.C (Kd.int k) W (some ⟨g, 0, none⟩) xs.length xs) := by
  refine (Ever.blk h hM).imp (fun W1 h1 => ?_)
  refine Kd.C_of_reads (enc := Value.int k) (d := (0 : Int)) (h1 := fun _ => rfl) (show ReadsInt W1 k _ _ _ from ⟨rfl, hl, fun hn => ⟨_, rfl, fun j hj => ?_⟩⟩)
  have : (⟨g, 0, none⟩ : Addr).add j = ⟨g, j, none⟩ := by simp [Addr.add] <;> omega
  rw [this, blk_cell h1 j]
  simp only [List.getElem?_toArray, List.getElem?_map, List.getD_eq_getElem?_getD, List.getElem?_eq_getElem hj, Option.map_some, Option.getD_some]
end
end Go.Proofs.Ytlalpooiegganaa.Core
namespace Go.Proofs.Ytlalpooiegganaa.Wk
open Go.RowKit Go.Proofs.YtlalpooiegganaaW.PrintWords Go.Proofs.YtlalpooiegganaaW.PrintLast Go.Proofs.YtlalpooiegganaaW.PrintMore Go.Proofs.Ytlalpooiegganaa.Core
section
variable {P : Program} {ops : Array Oper} {rest : List Oper} {o : Oper} {a : Act} {Q : Exit → Act → World → Prop} {W : World} {Kc : Act → World → Prop}
end
def keyIs (k : Int) (e : MapEntry) : Bool := match e.key with | .int .i64 a => a == k | _ => false
def mget (es : List MapEntry) (k : Int) : Option Value := (es.find? (keyIs k)).map (·.val)
def IntKeys (es : List MapEntry) : Prop := ∀ e ∈ es, ∃ a, e.key = .int .i64 a
structure IsMap (W : World) (m : Nat) (f : Int → Option Value) (n : Nat) : Prop where
  out : ∃ (es : Array MapEntry) (clock : Nat), W.heap[m]? = some (.map es clock) ∧ IntKeys es.toList ∧ es.size ≤ n ∧ ∀ k, mget es.toList k = f k
section
variable {P : Program} {W W' : World} {m n : Nat} {f : Int → Option Value}
theorem IsMap.lt (h : IsMap W m f n) : m < W.heap.size := by obtain ⟨es, c, hb, _⟩ := h.out; exact (Array.getElem?_eq_some_iff.1 hb).1
theorem IsMap.ext {F : Nat → Prop} (h : IsMap W m f n) (k : Ext F W W') (hm : ¬ F m) : IsMap W' m f n := by
  obtain ⟨es, c, hb, h1⟩ := h.out
  exact ⟨es, c, Ext.blk k hb hm, h1⟩
theorem IsMap.mono {n' : Nat} (h : IsMap W m f n) (hn : n ≤ n') : IsMap W m f n' := by
  obtain ⟨es, c, hb, h1, h2, h3⟩ := h.out
  exact ⟨es, c, hb, h1, Nat.le_trans h2 hn, h3⟩
theorem IsMap.new (W : World) : IsMap (W.alloc (.map #[] 0)) W.heap.size (fun _ => none) 0 := ⟨#[], 0, heap_alloc_new W _, by intro e he; simp at he, by simp, fun k => rfl⟩
theorem isKey_int (a : Int) : MapKept.IsKey (.int .i64) (.int .i64 a) := by simp [MapKept.IsKey]
theorem keyIs_iff {e : MapEntry} {k : Int} : keyIs k e = true ↔ e.key = .int .i64 k := by
  unfold keyIs
  split
  · rename_i a h; rw [h]; simp
  · rename_i h; constructor
    · intro h1; cases h1
    · intro h1; exact absurd h1 (h k)
theorem mget_at {es : List MapEntry} {k : Int} : ∀ {j : Nat} {e : MapEntry}, (∀ i, i < j → ∀ e', es[i]? = some e' → e'.key ≠ .int .i64 k) → es[j]? = some e → e.key = .int .i64 k → mget es k = some e.val := by
  induction es with
  | nil => intro j e _ h; simp at h
  | cons x r ih =>
    intro j e hlt hj hk
    unfold mget
    cases j with
    | zero =>
      simp at hj
      subst hj
      rw [List.find?_cons_of_pos (keyIs_iff.2 hk)]
      rfl
    | succ j =>
      rw [List.find?_cons_of_neg (by intro h1; exact hlt 0 (by omega) x rfl (keyIs_iff.1 h1))]
      exact ih (j := j) (fun i hi e' he' => hlt (i + 1) (by omega) e' (by simpa using he')) (by simpa using hj) hk
theorem mget_none {es : List MapEntry} {k : Int} (h : ∀ e ∈ es, e.key ≠ .int .i64 k) : mget es k = none := by
  unfold mget
  rw [List.find?_eq_none.2 (fun e he h1 => h e he (keyIs_iff.1 h1))]
  rfl
theorem mget_cons (x : MapEntry) (r : List MapEntry) (k : Int) : mget (x :: r) k = if keyIs k x then some x.val else mget r k := by
  unfold mget
  cases h : keyIs k x
  · rw [List.find?_cons_of_neg (by simp [h])]; simp
  · rw [List.find?_cons_of_pos h]; simp
theorem mget_append (l r : List MapEntry) (k : Int) : mget (l ++ r) k = (mget l k).or (mget r k) := by
  unfold mget
  rw [List.find?_append]
  cases l.find? (keyIs k) <;> simp
theorem find_first {k : Int} : ∀ (l : List MapEntry) (i : Nat), IntKeys l → (Instr.findNow (.int .i64) (.int .i64 k) l i = some none ∧ ∀ e ∈ l, e.key ≠ .int .i64 k) ∨
    ∃ j e, Instr.findNow (.int .i64) (.int .i64 k) l i = some (some (i + j, e.val)) ∧ l[j]? = some e ∧ e.key = .int .i64 k ∧ ∀ q, q < j → ∀ e', l[q]? = some e' → e'.key ≠ .int .i64 k
  | [], i, _ => .inl ⟨rfl, by simp⟩
  | x :: r, i, h => by
    obtain ⟨b, hb⟩ := h x (.head _)
    have hs : Instr.sameNow (.int .i64) (.int .i64 k) x.key = some (k == b) := by rw [hb]; simp [Instr.sameNow]
    by_cases e : k = b
    · subst e
      refine .inr ⟨0, x, by simp [Instr.findNow, hs], rfl, hb, fun q hq => by omega⟩
    · have hne : x.key ≠ .int .i64 k := by rw [hb]; intro q; exact e (by simpa using q.symm)
      have hf : Instr.findNow (.int .i64) (.int .i64 k) (x :: r) i = Instr.findNow (.int .i64) (.int .i64 k) r (i + 1) := by
        have hs' : Instr.sameNow (.int .i64) (.int .i64 k) x.key = some false := by rw [hs]; simp [e]
        simp only [Instr.findNow, hs']
      rcases find_first r (i + 1) (fun y hy => h y (.tail _ hy)) with ⟨h1, h2⟩ | ⟨j, e', h1, h2, h3, h4⟩
      · refine .inl ⟨by rw [hf]; exact h1, fun y hy => ?_⟩
        cases hy with
        | head => exact hne
        | tail _ hy => exact h2 y hy
      · refine .inr ⟨j + 1, e', by rw [hf, h1]; congr 3; omega, by simpa using h2, h3, fun q hq e'' he'' => ?_⟩
        cases q with
        | zero => simp at he''; subst he''; exact hne
        | succ q => exact h4 q (by omega) e'' (by simpa using he'')
theorem IsMap.look {t kt et : TypeId} {z : Value} (h : IsMap W m f n) (ht : P.underlying t = some (.map kt et)) (hk : P.underlying kt = some (.int .i64)) (hz : ∀ w, (zeroValue et).run P w = .ok z w) (k : Int) :
    (Instr.lookup t (.map (some m)) (.int .i64 k) false).run P W = .ok ((f k).getD z) W := by
  obtain ⟨es, c, hb, hi, _, hf⟩ := h.out
  rw [← hf k]
  rcases find_first (k := k) es.toList 0 hi with ⟨h1, h2⟩ | ⟨j, e, h1, h2, h3, h4⟩
  · rw [mget_none h2]
    simp [Instr.lookup, run_underlying ht, MapKept.run_getObj_map hb, MapKept.run_checkKey hk (isKey_int k), MapKept.run_findKey hk h1, hz, Result.andThen]
  · rw [mget_at h4 h2 h3]
    simp [Instr.lookup, run_underlying ht, MapKept.run_getObj_map hb, MapKept.run_checkKey hk (isKey_int k), MapKept.run_findKey hk h1, Result.andThen]
theorem mget_set {v : Value} {k : Int} : ∀ {l : List MapEntry} {j : Nat} {e e2 : MapEntry}, l[j]? = some e → e.key = .int .i64 k → e2.key = .int .i64 k → e2.val = v → (∀ q, q < j → ∀ e', l[q]? = some e' → e'.key ≠ .int .i64 k) →
    ∀ x, mget (l.set j e2) x = if x = k then some v else mget l x := by
  intro l
  induction l with
  | nil => intro j e e2 h; simp at h
  | cons y r ih =>
    intro j e e2 hj hk hk2 hv hlt x
    cases j with
    | zero =>
      simp at hj
      subst hj
      rw [List.set_cons_zero, mget_cons, mget_cons]
      have a1 : keyIs x e2 = (k == x) := by unfold keyIs; rw [hk2]
      have a2 : keyIs x y = (k == x) := by unfold keyIs; rw [hk]
      rw [a1, a2]
      by_cases h : x = k
      · subst h; simp [hv]
      · have : (k == x) = false := by simpa using fun e => h e.symm
        simp [this, h]
    | succ j =>
      rw [List.set_cons_succ, mget_cons, mget_cons]
      have hy := hlt 0 (by omega) y rfl
      have ih' := ih (j := j) (e := e) (e2 := e2) (by simpa using hj) hk hk2 hv (fun q hq e' he' => hlt (q + 1) (by omega) e' (by simpa using he')) x
      rw [ih']
      by_cases h : x = k
      · subst h
        have : keyIs x y = false := by
          cases hq : keyIs x y
          · rfl
          · exact absurd (keyIs_iff.1 hq) hy
        simp [this]
      · simp [h]
theorem IsMap.update {t kt et : TypeId} (h : IsMap W m f n) (ht : P.underlying t = some (.map kt et)) (hk : P.underlying kt = some (.int .i64)) (k : Int) (v : Value) :
    ∃ W', (Instr.mapUpdate t (.map (some m)) (.int .i64 k) v).run P W = .ok () W' ∧ IsMap W' m (fun j => if j = k then some v else f j) (n + 1) ∧ Ext (fun b => b = m) W W' := by
  obtain ⟨es, c, hb, hi, hn, hf⟩ := h.out
  have hE : ∀ o', Ext (fun b => b = m) W { W with heap := W.heap.setIfInBounds m o' } := fun o' => ⟨rfl, rfl, rfl, by simp, fun b _ hne => (MapKept.heap_set hb).2 b hne⟩
  rcases find_first (k := k) es.toList 0 hi with ⟨h1, h2⟩ | ⟨j, e, h1, h2, h3, h4⟩
  · refine ⟨{ W with heap := W.heap.setIfInBounds m (.map (es.push ⟨.int .i64 k, v, c⟩) (c + 1)) }, by simp [Instr.mapUpdate, run_underlying ht, MapKept.run_getObj_map hb, MapKept.run_checkKey hk (isKey_int k), MapKept.run_findKey hk h1, MapKept.run_setObj_map _ hb, Result.andThen], ⟨_, _, (MapKept.heap_set hb).1, ?_, by simp; omega, fun x => ?_⟩, hE _⟩
    · intro y hy
      simp at hy
      rcases hy with hy | rfl
      · exact hi y (by simpa using hy)
      · exact ⟨k, rfl⟩
    · rw [Array.toList_push, mget_append, ← hf x]
      by_cases hx : x = k
      · subst hx
        rw [mget_none h2, mget_cons]
        simp [keyIs]
      · rw [mget_cons]
        have : keyIs x ⟨.int .i64 k, v, c⟩ = false := by unfold keyIs; simpa using fun e => hx e.symm
        rw [if_neg hx, this]
        simp [mget]
  · have hj : es[j]? = some e := by simpa using h2
    have hl : (es.modify j fun e => { e with key := .int .i64 k, val := v }).toList = es.toList.set j { e with key := .int .i64 k, val := v } := by
      rw [Array.toList_modify, ChangeMaps.modify_eq_set _ _ _ _ h2]
    refine ⟨{ W with heap := W.heap.setIfInBounds m (.map (es.modify j fun e => { e with key := .int .i64 k, val := v }) c) }, by simp [Instr.mapUpdate, run_underlying ht, MapKept.run_getObj_map hb, MapKept.run_checkKey hk (isKey_int k), MapKept.run_findKey hk h1, hj, h3, MapKept.run_keyThatStays (isKey_int k), MapKept.run_setObj_map _ hb, Result.andThen], ⟨_, _, (MapKept.heap_set hb).1, ?_, by simp; omega, fun x => ?_⟩, hE _⟩
    · intro y hy
      rw [hl] at hy
      rcases List.mem_or_eq_of_mem_set hy with hy | rfl
      · exact hi y hy
      · exact ⟨k, rfl⟩
    · rw [hl, mget_set h2 h3 rfl rfl h4 x, hf x]
end
section
variable {P : Program} {ops : Array Oper} {rest : List Oper} {o : Oper} {a : Act} {Q : Exit → Act → World → Prop} {W : World}
end
end Go.Proofs.Ytlalpooiegganaa.Wk
end

section
namespace Go.Proofs.Ytlalpooiegganaa.PMasterWaits
open Go.RowKit Go.Proofs.YtlalpooiegganaaW.PrintWords Go.Proofs.YtlalpooiegganaaW.PrintLast Go.Proofs.YtlalpooiegganaaW.PrintMore
attribute [local go_sem] max2_int min2_int max_two min_two max_three min_three max_four min_four   
set_option linter.unusedVariables false
set_option linter.unusedSimpArgs false
def pdu_within.f (a0 : Int) (a1 : Int) (a2 : Int) : Option (Bool) := if a0 ≥ a1 then (some (decide (a0 ≤ a2))) else (some false)
set_option maxHeartbeats 8000000 in
set_option maxRecDepth 100000 in
theorem pdu_within.calls (a0 : Int) (a1 : Int) (a2 : Int) (r : Bool) (w : World) (h : pdu_within.f a0 a1 a2 = some r) :
    Calls Try.prog 43 #[.int .i64 a0, .int .i64 a1, .int .i64 a2] w fun e w' => e = .returned (.bool r) ∧ Drawn0 w w' := by
  have H : (if a0 ≥ a1 then (some (decide (a0 ≤ a2))) else (some false)) = some r := h
  clear h
  by_cases c4 : a0 ≥ a1
  · rw [if_pos c4] at H
    have c4b0 : decide (a1 ≤ a0) = true := decide_eq_true c4
    clear c4
    obtain rfl := Option.some.inj H
    go_enter Try.func43, Try.ntmps43
    go_wp2
    go_ret
    exact ⟨by first | rfl | (simp; done) | (simp [*]; done), by repeat (first | exact Drawn0.refl _ | apply Drawn0.step)⟩
  · rw [if_neg c4] at H
    have c4b0 : decide (a1 ≤ a0) = false := decide_eq_false c4
    clear c4
    obtain rfl := Option.some.inj H
    go_enter Try.func43, Try.ntmps43
    go_wp2
    go_ret
    exact ⟨by first | rfl | (simp; done) | (simp [*]; done), by repeat (first | exact Drawn0.refl _ | apply Drawn0.step)⟩
def pdu_span.f (a0 : Int) (a1 : Int) : Option (Bool) := (pdu_within.f a0 0 65535).bind fun t101 => (if t101 = true then (some (decide (a1 ≤ (wrap64 (65536 - a0))))) else (some false))
set_option maxHeartbeats 8000000 in
set_option maxRecDepth 100000 in
theorem pdu_span.calls (a0 : Int) (a1 : Int) (r : Bool) (w : World) (h : pdu_span.f a0 a1 = some r) :
    Calls Try.prog 44 #[.int .i64 a0, .int .i64 a1] w fun e w' => e = .returned (.bool r) ∧ Drawn0 w w' := by
  have H : ((pdu_within.f a0 0 65535).bind fun t101 => (if t101 = true then (some (decide (a1 ≤ (wrap64 (65536 - a0))))) else (some false))) = some r := h
  clear h
  replace H := Option.bind_eq_some_iff.mp H
  obtain ⟨t101, A30, H⟩ := H
  replace H : (if t101 = true then (some (decide (a1 ≤ (wrap64 (65536 - a0))))) else (some false)) = some r := H
  have A3 := Aside0.mk A30
  clear A30
  by_cases c4 : t101 = true
  · subst c4
    have H1 : (some (decide (a1 ≤ (wrap64 (65536 - a0))))) = some r := by rw [if_pos rfl] at H; exact H
    clear H
    have H := H1
    clear H1
    obtain rfl := Option.some.inj H
    go_enter Try.func44, Try.ntmps44
    go_wp2_with (first | ((with_reducible refine gate_callee (f := 43) rfl ?_); refine goesL_ (some 6) rfl rfl Try.func43 (by kernel_rfl) rfl #[.int .i64 a0, .int .i64 0, .int .i64 65535] rfl (by (try simp only [List.map_toArray, List.map_cons, List.map_nil]); first | done | rfl | (simp only [List.length_drop, List.length_take]; rfl)) ?_; (with_reducible refine (pdu_within.calls a0 0 65535 true _ A3.out).mono ?_); rintro e w' ⟨rfl, ⟨nd, rfl⟩⟩; refine ⟨_, rfl, ?_⟩))
    go_ret
    exact ⟨by first | rfl | (simp; done) | (simp [*]; done), by repeat (first | exact Drawn0.refl _ | apply Drawn0.step)⟩
  · replace c4 := Bool.eq_false_iff.mpr c4
    subst c4
    have H1 : (some false) = some r := by rw [if_neg (show ¬ (false = true) by decide)] at H; exact H
    clear H
    have H := H1
    clear H1
    obtain rfl := Option.some.inj H
    go_enter Try.func44, Try.ntmps44
    go_wp2_with (first | ((with_reducible refine gate_callee (f := 43) rfl ?_); refine goesL_ (some 6) rfl rfl Try.func43 (by kernel_rfl) rfl #[.int .i64 a0, .int .i64 0, .int .i64 65535] rfl (by (try simp only [List.map_toArray, List.map_cons, List.map_nil]); first | done | rfl | (simp only [List.length_drop, List.length_take]; rfl)) ?_; (with_reducible refine (pdu_within.calls a0 0 65535 false _ A3.out).mono ?_); rintro e w' ⟨rfl, ⟨nd, rfl⟩⟩; refine ⟨_, rfl, ?_⟩))
    go_ret
    exact ⟨by first | rfl | (simp; done) | (simp [*]; done), by repeat (first | exact Drawn0.refl _ | apply Drawn0.step)⟩
def pdu_all.l0 : Nat → Int → List Int → Int → Int → Option (Bool)
  | 0, _, _, _, _ => none
  | k + 1, x1, x7, x8, x9 => if x9 < x8 then (if 0 ≤ x9 then (if x9 < (x7.length : Int) then ((pdu_within.f (rd x7 x9) 0 x1).bind fun t103 => (if t103 = true then (pdu_all.l0 k x1 x7 x8 (wrap64 (x9 + 1))) else (some false))) else (none)) else (none)) else (some true)
def pdu_all.f (k : Nat) (l0 : List Int) (a1 : Int) : Option (Bool) := pdu_all.l0 k a1 l0 (l0.length : Int) 0
theorem pdu_all.mono_l : ∀ k, (∀ y0 y1 y2 y3, LeO (pdu_all.l0 k y0 y1 y2 y3) (pdu_all.l0 (k + 1) y0 y1 y2 y3))
  | 0 => fun _ _ _ _ r h => by simp [pdu_all.l0] at h
  | k + 1 => by
    have ih0 := pdu_all.mono_l k
    · intro y0 y1 y2 y3
      unfold pdu_all.l0
      repeat' first
      | (with_reducible exact ih0 _ _ _ _)
      | (with_reducible exact LeO.refl _)
      | (with_reducible exact LeO.none _)
      | (with_reducible refine LeO.ite ?_ ?_)
      | (with_reducible refine LeO.bind ?_ (fun _ => ?_))
      | exact ih0 _ _ _ _
      | exact LeO.none _
      | refine LeO.ite ?_ ?_
      | refine LeO.bind ?_ (fun _ => ?_)
theorem pdu_all.mono : ∀ a0 a1 k, LeO (pdu_all.f k a0 a1) (pdu_all.f (k + 1) a0 a1) := by
  intro a0 a1 k
  have ih0 := pdu_all.mono_l k
  unfold pdu_all.f
  repeat' first
      | (with_reducible exact ih0 _ _ _ _)
      | (with_reducible exact LeO.refl _)
      | (with_reducible exact LeO.none _)
      | (with_reducible refine LeO.ite ?_ ?_)
      | (with_reducible refine LeO.bind ?_ (fun _ => ?_))
      | exact ih0 _ _ _ _
      | exact LeO.none _
      | refine LeO.ite ?_ ?_
      | refine LeO.bind ?_ (fun _ => ?_)
set_option maxHeartbeats 8000000 in
set_option maxRecDepth 100000 in
theorem pdu_all.calls (k : Nat) (A0 : Option Addr) (c0 : Nat) (l0 : List Int) (a1 : Int) (r : Bool) (w : World) (hr0 : Kd.C (Kd.int .i64) w A0 l0.length l0) (hc0 : l0.length ≤ c0) (h : pdu_all.f k l0 a1 = some r) :
    Calls Try.prog 46 #[.slice A0 l0.length c0, .int .i64 a1] w fun e w' => e = .returned (.bool r) ∧ Drawn0 w w' := by
  have HR0 := Aside0.mk hr0
  have HC0 := Aside0.mk hc0
  clear hr0 hc0
  have H : (pdu_all.l0 k a1 l0 (l0.length : Int) 0) = some r := h
  clear h
  have H' := Aside0.mk H
  clear H
  go_enter Try.func46, Try.ntmps46
  go_wp2
  go_loopg [9] k (fun kq v9 w' => ∃ (x9_1 : Int), v9 = .int .i64 x9_1 ∧ Aside0 (pdu_all.l0 kq a1 l0 (l0.length : Int) x9_1 = some r) ∧ Aside0 (kq ≤ k) ∧ Drawn0 w w')
  case atStart => exact ⟨(0), (by first | rfl | (simp; done) | (simp [*]; done)), H', ⟨Nat.le_refl _⟩, by repeat (first | exact Drawn0.refl _ | apply Drawn0.step)⟩
  case round =>
    clear H'
    try clear p2
    obtain ⟨x9_1, rfl, HA, HK1, ⟨m1, rfl⟩⟩ := hrel
    cases gk with
    | zero => exact absurd HA.out (by simp [pdu_all.l0])
    | succ k1 =>
      have H := HA.out
      clear HA
      simp only [pdu_all.l0] at H
      by_cases c3 : x9_1 < (l0.length : Int)
      · rw [if_pos c3] at H
        have c3b0 : decide (x9_1 < (l0.length : Int)) = true := decide_eq_true c3
        clear c3
        by_cases c4 : 0 ≤ x9_1
        · rw [if_pos c4] at H
          have c4b0 : decide (0 ≤ x9_1) = true := decide_eq_true c4
          clear c4
          by_cases c5 : x9_1 < (l0.length : Int)
          · rw [if_pos c5] at H
            have c5b0 : decide (x9_1 < (l0.length : Int)) = true := decide_eq_true c5
            clear c5
            replace H := Option.bind_eq_some_iff.mp H
            obtain ⟨t103, A60, H⟩ := H
            replace H : (if t103 = true then (pdu_all.l0 k1 a1 l0 (l0.length : Int) (wrap64 (x9_1 + 1))) else (some false)) = some r := H
            have A6 := Aside0.mk A60
            clear A60
            by_cases c7 : t103 = true
            · subst c7
              have H1 : (pdu_all.l0 k1 a1 l0 (l0.length : Int) (wrap64 (x9_1 + 1))) = some r := by rw [if_pos rfl] at H; exact H
              clear H
              have H := H1
              clear H1
              have H' := Aside0.mk H
              clear H
              have p102 : 0 ≤ (x9_1 : Int) := of_decide_eq_true (by first | (with_reducible assumption) | assumption)
              have q102 : x9_1 < (l0.length : Int) := of_decide_eq_true (by first | (with_reducible assumption) | assumption)
              obtain ⟨ad102, e102, hx102_0⟩ := Kd.at_int HR0.out x9_1 p102 q102
              cases e102
              replace p102 := eq_true p102
              replace q102 := eq_true q102
              go_wp2_with (first | ((with_reducible refine gate_callee (f := 43) rfl ?_); refine goesL_ (some 15) rfl rfl Try.func43 (by kernel_rfl) rfl #[.int .i64 (rd l0 x9_1), .int .i64 0, .int .i64 a1] rfl (by (try simp only [List.map_toArray, List.map_cons, List.map_nil]); first | done | rfl | (simp only [List.length_drop, List.length_take]; rfl)) ?_; (with_reducible refine (pdu_within.calls (rd l0 x9_1) 0 a1 true _ A6.out).mono ?_); rintro e w' ⟨rfl, ⟨nd, rfl⟩⟩; refine ⟨_, rfl, ?_⟩))
              go_roundg k1
              case measure => have := HK1.out; omega
              case rel => exact ⟨(wrap64 (x9_1 + 1)), (by first | rfl | (simp; done) | (simp [*]; done)), H', ⟨by have := HK1.out; omega⟩, by repeat (first | exact Drawn0.refl _ | apply Drawn0.step)⟩
            · replace c7 := Bool.eq_false_iff.mpr c7
              subst c7
              have H1 : (some false) = some r := by rw [if_neg (show ¬ (false = true) by decide)] at H; exact H
              clear H
              have H := H1
              clear H1
              obtain rfl := Option.some.inj H
              have p102 : 0 ≤ (x9_1 : Int) := of_decide_eq_true (by first | (with_reducible assumption) | assumption)
              have q102 : x9_1 < (l0.length : Int) := of_decide_eq_true (by first | (with_reducible assumption) | assumption)
              obtain ⟨ad102, e102, hx102_0⟩ := Kd.at_int HR0.out x9_1 p102 q102
              cases e102
              replace p102 := eq_true p102
              replace q102 := eq_true q102
              go_wp2_with (first | ((with_reducible refine gate_callee (f := 43) rfl ?_); refine goesL_ (some 15) rfl rfl Try.func43 (by kernel_rfl) rfl #[.int .i64 (rd l0 x9_1), .int .i64 0, .int .i64 a1] rfl (by (try simp only [List.map_toArray, List.map_cons, List.map_nil]); first | done | rfl | (simp only [List.length_drop, List.length_take]; rfl)) ?_; (with_reducible refine (pdu_within.calls (rd l0 x9_1) 0 a1 false _ A6.out).mono ?_); rintro e w' ⟨rfl, ⟨nd, rfl⟩⟩; refine ⟨_, rfl, ?_⟩))
              go_ret
              exact ⟨by first | rfl | (simp; done) | (simp [*]; done), by repeat (first | exact Drawn0.refl _ | apply Drawn0.step)⟩
          · rw [if_neg c5] at H
            exact absurd H (by simp)
        · rw [if_neg c4] at H
          exact absurd H (by simp)
      · rw [if_neg c3] at H
        have c3b0 : decide (x9_1 < (l0.length : Int)) = false := decide_eq_false c3
        clear c3
        obtain rfl := Option.some.inj H
        go_wp2
        go_ret
        exact ⟨by first | rfl | (simp; done) | (simp [*]; done), by repeat (first | exact Drawn0.refl _ | apply Drawn0.step)⟩
def pdu_some.f (k : Nat) (l0 : List Int) (a1 : Int) (a2 : Int) (a3 : Int) : Option (Bool) := (pdu_within.f (l0.length : Int) a1 a2).bind fun t104 => (if t104 = true then ((pdu_all.f k l0 a3).bind fun t105 => (some t105)) else (some false))
theorem pdu_some.mono : ∀ a0 a1 a2 a3 k, LeO (pdu_some.f k a0 a1 a2 a3) (pdu_some.f (k + 1) a0 a1 a2 a3) := by
  intro a0 a1 a2 a3 k
  unfold pdu_some.f
  repeat' first
      | (with_reducible exact pdu_all.mono _ _ _)
      | (with_reducible exact LeO.refl _)
      | (with_reducible exact LeO.none _)
      | (with_reducible refine LeO.ite ?_ ?_)
      | (with_reducible refine LeO.bind ?_ (fun _ => ?_))
      | exact pdu_all.mono _ _ _
      | exact LeO.none _
      | refine LeO.ite ?_ ?_
      | refine LeO.bind ?_ (fun _ => ?_)
set_option maxHeartbeats 8000000 in
set_option maxRecDepth 100000 in
theorem pdu_some.calls (k : Nat) (A0 : Option Addr) (c0 : Nat) (l0 : List Int) (a1 : Int) (a2 : Int) (a3 : Int) (r : Bool) (w : World) (hr0 : Kd.C (Kd.int .i64) w A0 l0.length l0) (hc0 : l0.length ≤ c0) (h : pdu_some.f k l0 a1 a2 a3 = some r) :
    Calls Try.prog 45 #[.slice A0 l0.length c0, .int .i64 a1, .int .i64 a2, .int .i64 a3] w fun e w' => e = .returned (.bool r) ∧ Drawn0 w w' := by
  have HR0 := Aside0.mk hr0
  have HC0 := Aside0.mk hc0
  clear hr0 hc0
  have H : ((pdu_within.f (l0.length : Int) a1 a2).bind fun t104 => (if t104 = true then ((pdu_all.f k l0 a3).bind fun t105 => (some t105)) else (some false))) = some r := h
  clear h
  replace H := Option.bind_eq_some_iff.mp H
  obtain ⟨t104, A50, H⟩ := H
  replace H : (if t104 = true then ((pdu_all.f k l0 a3).bind fun t105 => (some t105)) else (some false)) = some r := H
  have A5 := Aside0.mk A50
  clear A50
  by_cases c6 : t104 = true
  · subst c6
    have H1 : ((pdu_all.f k l0 a3).bind fun t105 => (some t105)) = some r := by rw [if_pos rfl] at H; exact H
    clear H
    have H := H1
    clear H1
    replace H := Option.bind_eq_some_iff.mp H
    obtain ⟨t105, A70, H⟩ := H
    replace H : (some t105) = some r := H
    have A7 := Aside0.mk A70
    clear A70
    obtain rfl := Option.some.inj H
    go_enter Try.func45, Try.ntmps45
    go_wp2_with (first | ((with_reducible refine gate_callee (f := 43) rfl ?_); refine goesL_ (some 13) rfl rfl Try.func43 (by kernel_rfl) rfl #[.int .i64 (l0.length : Int), .int .i64 a1, .int .i64 a2] rfl (by (try simp only [List.map_toArray, List.map_cons, List.map_nil]); first | done | rfl | (simp only [List.length_drop, List.length_take]; rfl)) ?_; (with_reducible refine (pdu_within.calls (l0.length : Int) a1 a2 true _ A5.out).mono ?_); rintro e w' ⟨rfl, ⟨nd, rfl⟩⟩; refine ⟨_, rfl, ?_⟩) | (go_at_call 46; (with_reducible refine (pdu_all.calls k _ _ l0 a3 t105 _ ?side1 ?side2 A7.out).mono ?_); (case side1 => repeat (first | exact HR0.out | (with_reducible refine Kd.C_alloc ?_ _) | (with_reducible refine Kd.C_drewN ?_ _) | (with_reducible refine Kd.C_drew ?_))); (case side2 => exact HC0.out); rintro e w' ⟨rfl, ⟨nd, rfl⟩⟩))
    go_ret
    exact ⟨by first | rfl | (simp; done) | (simp [*]; done), by repeat (first | exact Drawn0.refl _ | apply Drawn0.step)⟩
  · replace c6 := Bool.eq_false_iff.mpr c6
    subst c6
    have H1 : (some false) = some r := by rw [if_neg (show ¬ (false = true) by decide)] at H; exact H
    clear H
    have H := H1
    clear H1
    obtain rfl := Option.some.inj H
    go_enter Try.func45, Try.ntmps45
    go_wp2_with (first | ((with_reducible refine gate_callee (f := 43) rfl ?_); refine goesL_ (some 13) rfl rfl Try.func43 (by kernel_rfl) rfl #[.int .i64 (l0.length : Int), .int .i64 a1, .int .i64 a2] rfl (by (try simp only [List.map_toArray, List.map_cons, List.map_nil]); first | done | rfl | (simp only [List.length_drop, List.length_take]; rfl)) ?_; (with_reducible refine (pdu_within.calls (l0.length : Int) a1 a2 false _ A5.out).mono ?_); rintro e w' ⟨rfl, ⟨nd, rfl⟩⟩; refine ⟨_, rfl, ?_⟩))
    go_ret
    exact ⟨by first | rfl | (simp; done) | (simp [*]; done), by repeat (first | exact Drawn0.refl _ | apply Drawn0.step)⟩
end Go.Proofs.Ytlalpooiegganaa.PMasterWaits
end

section
namespace Go.Proofs.Ytlalpooiegganaa.PMasterWaits
open Go.RowKit Go.Proofs.YtlalpooiegganaaW.PrintWords Go.Proofs.YtlalpooiegganaaW.PrintLast Go.Proofs.YtlalpooiegganaaW.PrintMore
attribute [local go_sem] max2_int min2_int max_two min_two max_three min_three max_four min_four   
set_option linter.unusedVariables false
set_option linter.unusedSimpArgs false
def wire_Pack.l0 : Nat → List Int → List Int → Int → Int → Option (List Int × Int)
  | 0, _, _, _, _ => none
  | k + 1, x4, x12, x13, x14 => if x14 < x13 then (if 0 ≤ x14 then (if x14 < (x12.length : Int) then (if (rd x12 x14) = 0 then (wire_Pack.l0 k x4 x12 x13 (wrap64 (x14 + 1))) else (if (rd x12 x14) = 1 then (if 0 ≤ (wrap64 (Int.tdiv x14 8)) then (if (wrap64 (Int.tdiv x14 8)) < (x4.length : Int) then (if 0 ≤ (Int.tmod x14 8) then (wire_Pack.l0 k (x4.set ((wrap64 (Int.tdiv x14 8)) : Int).toNat (Go.bits .or .u8 (rd x4 (wrap64 (Int.tdiv x14 8))) (shl .u8 1 (Int.tmod x14 8)))) x12 x13 (wrap64 (x14 + 1))) else (none)) else (none)) else (none)) else (some (([] : List Int), 1)))) else (none)) else (none)) else (some (x4, 0))
def wire_Pack.f (k : Nat) (l0 : List Int) : Option (List Int × Int) := if 0 ≤ (wrap64 (Int.tdiv (wrap64 ((l0.length : Int) + 7)) 8)) then (if (wrap64 (Int.tdiv (wrap64 ((l0.length : Int) + 7)) 8) : Int).toNat ≤ 281474976710656 then (wire_Pack.l0 k (List.replicate (wrap64 (Int.tdiv (wrap64 ((l0.length : Int) + 7)) 8) : Int).toNat 0) l0 (l0.length : Int) 0) else (none)) else (none)
theorem wire_Pack.mono_l : ∀ k, (∀ y0 y1 y2 y3, LeO (wire_Pack.l0 k y0 y1 y2 y3) (wire_Pack.l0 (k + 1) y0 y1 y2 y3))
  | 0 => fun _ _ _ _ r h => by simp [wire_Pack.l0] at h
  | k + 1 => by
    have ih0 := wire_Pack.mono_l k
    · intro y0 y1 y2 y3
      unfold wire_Pack.l0
      repeat' first
      | (with_reducible exact ih0 _ _ _ _)
      | (with_reducible exact LeO.refl _)
      | (with_reducible exact LeO.none _)
      | (with_reducible refine LeO.ite ?_ ?_)
      | (with_reducible refine LeO.bind ?_ (fun _ => ?_))
      | exact ih0 _ _ _ _
      | exact LeO.none _
      | refine LeO.ite ?_ ?_
      | refine LeO.bind ?_ (fun _ => ?_)
theorem wire_Pack.mono : ∀ a0 k, LeO (wire_Pack.f k a0) (wire_Pack.f (k + 1) a0) := by
  intro a0 k
  have ih0 := wire_Pack.mono_l k
  unfold wire_Pack.f
  repeat' first
      | (with_reducible exact ih0 _ _ _ _)
      | (with_reducible exact LeO.refl _)
      | (with_reducible exact LeO.none _)
      | (with_reducible refine LeO.ite ?_ ?_)
      | (with_reducible refine LeO.bind ?_ (fun _ => ?_))
      | exact ih0 _ _ _ _
      | exact LeO.none _
      | refine LeO.ite ?_ ?_
      | refine LeO.bind ?_ (fun _ => ?_)
def wire_Pack.T9 : Bool × List (List Nat × List Nat) := (true, [([], []), ([], []), ([1], [1]), ([0, 2], [0, 2]), ([3], [3]), ([], []), ([5], [5]), ([6], [6]), ([4, 7], [4, 7]), ([0, 2, 0, 1, 2, 3, 4, 5, 6, 7, 8], [0, 2]), ([9, 8, 0, 1, 2, 3, 4, 5, 6, 7, 8], [8, 9])])
def wire_Pack.B9 : List Nat := [0, 0, 2, 7, 15, 0, 32, 96, 255, 511, 1023]
theorem wire_Pack.tab9 : rtab .any (opsOf Try.f68 9) = wire_Pack.T9 := by kernel_rfl
theorem wire_Pack.bits9 : waitsOk wire_Pack.T9.2 wire_Pack.B9 = true := by kernel_rfl
set_option maxHeartbeats 8000000 in
set_option maxRecDepth 100000 in
theorem wire_Pack.calls (k : Nat) (A0 : Option Addr) (c0 : Nat) (l0 : List Int) (r1 : List Int) (r2 : Int) (w : World) (hr0 : Kd.C (Kd.int .i64) w A0 l0.length l0) (hc0 : l0.length ≤ c0) (h : wire_Pack.f k l0 = some (r1, r2)) :
    Calls Try.prog 68 #[.slice A0 l0.length c0] w fun e w' => ∃ v0_ : Value, e = .returned (.tuple #[v0_, .int .i64 r2]) ∧ Kd.R (Kd.int .u8) 5 w' w.heap.size (fun _ => True) v0_ r1 ∧ Below w.heap.size w w' := by
  have HR0 := Aside0.mk hr0
  have HC0 := Aside0.mk hc0
  clear hr0 hc0
  have HB := Aside0.mk (Below.refl w.heap.size w)
  have H : (if 0 ≤ (wrap64 (Int.tdiv (wrap64 ((l0.length : Int) + 7)) 8)) then (if (wrap64 (Int.tdiv (wrap64 ((l0.length : Int) + 7)) 8) : Int).toNat ≤ 281474976710656 then (wire_Pack.l0 k (List.replicate (wrap64 (Int.tdiv (wrap64 ((l0.length : Int) + 7)) 8) : Int).toNat 0) l0 (l0.length : Int) 0) else (none)) else (none)) = some (r1, r2) := h
  clear h
  obtain ⟨ji2, hji2⟩ : ∃ j_ : Int, (wrap64 (Int.tdiv (wrap64 ((l0.length : Int) + 7)) 8)) = j_ := ⟨_, rfl⟩
  replace H : (if 0 ≤ (ji2) then (if (ji2 : Int).toNat ≤ 281474976710656 then (wire_Pack.l0 k (List.replicate (ji2 : Int).toNat 0) l0 (l0.length : Int) 0) else (none)) else (none)) = some (r1, r2) := by first | (rw [hji2] at H; exact H) | (simp only [hji2] at H ⊢; exact H)
  have hji2w : (IntKind.i64.wrap (Int.tdiv (wrap64 ((l0.length : Int) + 7)) 8)) = ji2 := (i64_w _).trans hji2
  by_cases c3 : 0 ≤ (ji2)
  · rw [if_pos c3] at H
    have c3b0 := eq_true c3
    have c3b1 : decide (0 ≤ (ji2)) = true := decide_eq_true c3
    clear c3
    by_cases c4 : (ji2 : Int).toNat ≤ 281474976710656
    · rw [if_pos c4] at H
      have c4b0 := eq_true c4
      have c4b1 : decide ((ji2 : Int).toNat ≤ 281474976710656) = true := decide_eq_true c4
      clear c4
      obtain ⟨y154, hy154⟩ : ∃ y_ : List Int, y_ = (List.replicate (ji2 : Int).toNat 0) := ⟨_, rfl⟩
      replace H : (wire_Pack.l0 k y154 l0 (l0.length : Int) 0) = some (r1, r2) := by first | (rw [hy154]; with_reducible exact H) | (have H2_ := (Option.bind_some _ _).symm.trans H; rw [hy154]; with_reducible exact H2_) | (have H2_ := (Option.bind_some _ _).symm.trans H; with_reducible exact H2_) | with_reducible exact H | (rw [hy154]; exact H) | exact H
      have Ny154 := Aside0.mk hy154
      clear hy154
      have H' := Aside0.mk H
      clear H
      go_enter Try.func68, Try.ntmps68
      go_wp2_with (first | ((with_reducible refine gate_dst (N := 11) rfl ?_); refine Kd.R_make (Kd.int .u8) _ 5 rfl (N := 11) rfl 43 _ _ rfl ji2 rfl rfl Try.underlying43 (.int .u8 0) 1 info5 rfl (by decide) (by omega) 0 (ok := fun _ => True) (okp := fun _ => True) rfl (fun _ hk => hk) trivial (of_decide_eq_true (by first | (with_reducible assumption) | assumption)) (Nat.le_trans (Nat.mul_le_mul_right _ (of_decide_eq_true (by first | (with_reducible assumption) | assumption) : ji2.toNat ≤ 281474976710656)) (by omega)) (Below.refl _ _) (Nat.le_refl _) ?_; intro v155 w5 ho6 hb hg_ hnew_; clear hg_ hnew_; (first | rw [← Ny154.out] at ho6 | (simp only [Int.reduceToNat] at ho6; rw [← Ny154.out] at ho6)); have n0_ := Aside0.mk (Kd.R_lower ho6 (below_size (by repeat (first | (with_reducible first | exact HB.out | apply below_alloc | apply pw_below_drewN | apply below_drew1) | exact HB.out)))); have n1_ := Aside0.mk (below_step (by repeat (first | (with_reducible first | exact HB.out | apply below_alloc | apply pw_below_drewN | apply below_drew1) | exact HB.out)) hb); clear HB; have HO156 := n0_; have HB := n1_; clear n0_ n1_; clear hb ho6))
      go_loopg [14] k (fun kq v14 w' => ∃ (x4_1 : List Int) (x14_1 : Int), v14 = .int .i64 x14_1 ∧ Aside0 (wire_Pack.l0 kq x4_1 l0 (l0.length : Int) x14_1 = some (r1, r2)) ∧ Aside0 (kq ≤ k) ∧ Aside0 (Kd.R (Kd.int .u8) 5 w' w.heap.size (fun _ => True) v155 x4_1) ∧ Aside0 (Below w.heap.size w w'))
      case atStart => exact ⟨(y154), (0), (by first | rfl | (simp; done) | (simp [*]; done)), H', ⟨Nat.le_refl _⟩, ⟨by (with_reducible repeat (first | apply Kd.R_alloc | apply Kd.R_drewN | apply Kd.R_drew)); exact HO156.out⟩, ⟨by repeat (first | (with_reducible first | exact HB.out | apply below_alloc | apply pw_below_drewN | apply below_drew1) | exact HB.out)⟩⟩
      case round =>
        clear H'
        try clear p2
        try clear c3
        try clear c3b0
        try clear c3b1
        try clear c4
        try clear c4b0
        try clear c4b1
        try clear c6
        try clear p6
        obtain ⟨x4_1, x14_1, rfl, HA, HK1, HO_4, HB⟩ := hrel
        cases gk with
        | zero => exact absurd HA.out (by simp [wire_Pack.l0])
        | succ k1 =>
          have H := HA.out
          clear HA
          simp only [wire_Pack.l0] at H
          by_cases c7 : x14_1 < (l0.length : Int)
          · rw [if_pos c7] at H
            have c7b0 : decide (x14_1 < (l0.length : Int)) = true := decide_eq_true c7
            clear c7
            by_cases c8 : 0 ≤ x14_1
            · rw [if_pos c8] at H
              have c8b0 : decide (0 ≤ x14_1) = true := decide_eq_true c8
              clear c8
              by_cases c9 : x14_1 < (l0.length : Int)
              · rw [if_pos c9] at H
                have c9b0 : decide (x14_1 < (l0.length : Int)) = true := decide_eq_true c9
                clear c9
                by_cases c10 : (rd l0 x14_1) = 0
                · rw [if_pos c10] at H
                  have c10b0 : ((rd l0 x14_1) == 0) = true := beq_iff_eq.mpr c10
                  have c10b1 : ((rd l0 x14_1) != 0) = false := bne_eq_false_iff_eq.mpr c10
                  clear c10
                  have H' := Aside0.mk H
                  clear H
                  have p157 : 0 ≤ (x14_1 : Int) := of_decide_eq_true (by first | (with_reducible assumption) | assumption)
                  have q157 : x14_1 < (l0.length : Int) := of_decide_eq_true (by first | (with_reducible assumption) | assumption)
                  obtain ⟨ad157, e157, hx157_0⟩ := Kd.at_int HR0.out x14_1 p157 q157
                  cases e157
                  replace hx157_0 := (HB.out.cell (World.block_lt_of_cell? w _ hx157_0)).trans hx157_0
                  replace p157 := eq_true p157
                  replace q157 := eq_true q157
                  go_wp2
                  go_roundg k1
                  case measure => have := HK1.out; omega
                  case rel => exact ⟨(x4_1), (wrap64 (x14_1 + 1)), (by first | rfl | (simp; done) | (simp [*]; done)), H', ⟨by have := HK1.out; omega⟩, ⟨by (with_reducible repeat (first | apply Kd.R_alloc | apply Kd.R_drewN | apply Kd.R_drew)); exact HO_4.out⟩, ⟨by repeat (first | (with_reducible first | exact HB.out | apply below_alloc | apply pw_below_drewN | apply below_drew1) | exact HB.out)⟩⟩
                · rw [if_neg c10] at H
                  have c10b0 : ((rd l0 x14_1) == 0) = false := beq_eq_false_iff_ne.mpr c10
                  have c10b1 : ((rd l0 x14_1) != 0) = true := bne_iff_ne.mpr c10
                  by_cases c11 : (rd l0 x14_1) = 1
                  · rw [if_pos c11] at H
                    have c11b0 : ((rd l0 x14_1) == 1) = true := beq_iff_eq.mpr c11
                    have c11b1 : ((rd l0 x14_1) != 1) = false := bne_eq_false_iff_eq.mpr c11
                    clear c11
                    obtain ⟨ji12, hji12⟩ : ∃ j_ : Int, (wrap64 (Int.tdiv x14_1 8)) = j_ := ⟨_, rfl⟩
                    replace H : (if 0 ≤ (ji12) then (if (ji12) < (x4_1.length : Int) then (if 0 ≤ (Int.tmod x14_1 8) then (wire_Pack.l0 k1 (x4_1.set ((ji12) : Int).toNat (Go.bits .or .u8 (rd x4_1 (ji12)) (shl .u8 1 (Int.tmod x14_1 8)))) l0 (l0.length : Int) (wrap64 (x14_1 + 1))) else (none)) else (none)) else (none)) = some (r1, r2) := by first | (rw [hji12] at H; exact H) | (simp only [hji12] at H ⊢; exact H)
                    have hji12w : (IntKind.i64.wrap (Int.tdiv x14_1 8)) = ji12 := (i64_w _).trans hji12
                    by_cases c13 : 0 ≤ (ji12)
                    · rw [if_pos c13] at H
                      have c13b0 : decide (0 ≤ (ji12)) = true := decide_eq_true c13
                      clear c13
                      by_cases c14 : (ji12) < (x4_1.length : Int)
                      · rw [if_pos c14] at H
                        have c14b0 : decide ((ji12) < (x4_1.length : Int)) = true := decide_eq_true c14
                        clear c14
                        obtain ⟨ji15, hji15⟩ : ∃ j_ : Int, (Int.tmod x14_1 8) = j_ := ⟨_, rfl⟩
                        replace H : (if 0 ≤ (ji15) then (wire_Pack.l0 k1 (x4_1.set ((ji12) : Int).toNat (Go.bits .or .u8 (rd x4_1 (ji12)) (shl .u8 1 (ji15)))) l0 (l0.length : Int) (wrap64 (x14_1 + 1))) else (none)) = some (r1, r2) := by first | (rw [hji15] at H; exact H) | (simp only [hji15] at H ⊢; exact H)
                        by_cases c16 : 0 ≤ (ji15)
                        · rw [if_pos c16] at H
                          have c16b0 := eq_true c16
                          have c16b1 : decide (0 ≤ (ji15)) = true := decide_eq_true c16
                          clear c16
                          obtain ⟨ji17, hji17⟩ : ∃ j_ : Int, (shl .u8 1 (ji15)) = j_ := ⟨_, rfl⟩
                          replace H : (wire_Pack.l0 k1 (x4_1.set ((ji12) : Int).toNat (Go.bits .or .u8 (rd x4_1 (ji12)) (ji17))) l0 (l0.length : Int) (wrap64 (x14_1 + 1))) = some (r1, r2) := by first | (rw [hji17] at H; exact H) | (simp only [hji17] at H ⊢; exact H)
                          have hji17_ : (IntKind.u8.wrap (1 * 2 ^ min (ji15).toNat 8)) = ji17 := hji17
                          have hji17z : (ji15) ≤ 8 → (IntKind.u8.wrap (1 * 2 ^ (ji15).toNat)) = ji17 := shl_small hji17
                          have hji17u : (IntKind.u8.wrap (2 ^ min (ji15).toNat 8)) = ji17 := by have h_ := hji17_; rw [Int.one_mul] at h_; exact h_
                          have hji17v : (ji15) ≤ 8 → (IntKind.u8.wrap (2 ^ (ji15).toNat)) = ji17 := fun hle_ => by have h_ := hji17z hle_; rw [Int.one_mul] at h_; exact h_
                          obtain ⟨y159, hy159⟩ : ∃ y_ : List Int, y_ = (x4_1.set ((ji12) : Int).toNat (Go.bits .or .u8 (rd x4_1 (ji12)) (ji17))) := ⟨_, rfl⟩
                          replace H : (wire_Pack.l0 k1 y159 l0 (l0.length : Int) (wrap64 (x14_1 + 1))) = some (r1, r2) := by first | (rw [hy159]; with_reducible exact H) | (have H2_ := (Option.bind_some _ _).symm.trans H; rw [hy159]; with_reducible exact H2_) | (have H2_ := (Option.bind_some _ _).symm.trans H; with_reducible exact H2_) | with_reducible exact H | (rw [hy159]; exact H) | exact H
                          have Ny159 := Aside0.mk hy159
                          clear hy159
                          have H' := Aside0.mk H
                          clear H
                          have p157 : 0 ≤ (x14_1 : Int) := of_decide_eq_true (by first | (with_reducible assumption) | assumption)
                          have q157 : x14_1 < (l0.length : Int) := of_decide_eq_true (by first | (with_reducible assumption) | assumption)
                          obtain ⟨ad157, e157, hx157_0⟩ := Kd.at_int HR0.out x14_1 p157 q157
                          cases e157
                          replace hx157_0 := (HB.out.cell (World.block_lt_of_cell? w _ hx157_0)).trans hx157_0
                          replace p157 := eq_true p157
                          replace q157 := eq_true q157
                          try go_wp2
                          have n0_ := Aside0.mk (Kd.R_drew HO_4.out)
                          have n1_ := Aside0.mk (below_drew1 HB.out)
                          clear HO_4
                          clear HB
                          have HO_4 := n0_
                          have HB := n1_
                          clear n0_ n1_
                          obtain ⟨Ao20, co20, eo20⟩ := Kd.R_slice HO_4.out
                          (first | subst eo20 | (injection eo20 with f1_ f2_ f3_; have f4_ := f1_.symm; have f5_ := f3_.symm; clear f1_ f2_ f3_; subst f4_; subst f5_))
                          have p158 : 0 ≤ ((ji12) : Int) := of_decide_eq_true (by first | (with_reducible assumption) | assumption)
                          have q158 : (ji12) < (x4_1.length : Int) := of_decide_eq_true (by first | (with_reducible assumption) | assumption)
                          obtain ⟨ad158, e158, hx158_0⟩ := Kd.at_int (Kd.R_reads' HO_4.out).2.2 (ji12) p158 q158
                          cases e158
                          replace p158 := eq_true p158
                          replace q158 := eq_true q158
                          have p18 : 0 ≤ ((ji12) : Int) := of_decide_eq_true (by first | (with_reducible assumption) | assumption)
                          have q18 : ((ji12) : Int) < ((x4_1.length : Int) : Int) := of_decide_eq_true (by first | (with_reducible assumption) | assumption)
                          obtain ⟨go18, co18, eo18, gb18, gl18, cl18, HG18⟩ := Kd.R_form HO_4.out (by omega)
                          (first | cases eo18 | (injection eo18 with ea_ en_ ec_; (first | subst ea_ | (injection ea_ with ea_; subst ea_)); subst ec_; clear en_))
                          have GB18 := Aside0.mk gb18
                          have GG18 := Aside0.mk HG18
                          clear gb18 gl18 HG18
                          (first | simp only [add_plain] at hx158_0 | skip)
                          obtain ⟨hx18_0, hf18_0⟩ := Kd.R_celln 0 HO_4.out ((ji12) : Int) p18 q18
                          replace p18 := eq_true p18
                          replace q18 := eq_true q18
                          have HP21 := Kd.R_putn HO_4.out ((ji12) : Int) (Go.bits .or .u8 (rd x4_1 (ji12)) (ji17))
                          rw [← Ny159.out] at HP21
                          have HQ21 := Aside0.mk HP21
                          clear HP21
                          refine start_ (n := 11) (S := fun w' => w'.cell? ⟨go18, ((ji12)).toNat, none⟩ = some (.int .u8 (rd x4_1 (ji12)))) (ds := [10]) #[false, false, false, false, false, false, false, false, false, false, false] (by kernel_rfl) rfl rfl (hx158_0) (fun hHeld => ?_); refine with_tabW wire_Pack.tab9 wire_Pack.bits9 (fun HT_ HW_ => ?_)
                          generalize wr.drew = w19 at HO_4 HB GG18 HQ21 hf18_0 hx158_0 hx18_0 hHeld ⊢
                          refine pure_ (i := 0) (N := some 24) (v := ?_) (a' := ?_) #[true, false, false, false, false, false, false, false, false, false, false] rfl rfl (any_of HT_.out (by kernel_rfl)) (fun _ _ _ h => h) (Or.inl ⟨by rfl, ?_⟩) ?_ ?_
                          rotate_left
                          · intro w'
                            go_simp
                            with_reducible rfl
                          rotate_left
                          · simp only [Act.put, List.setIfInBounds_toArray, List.set_cons_zero, List.set_cons_succ, i64_w, i32_w]
                            rfl
                          refine pure_ (i := 1) (N := some 25) (v := ?_) (a' := ?_) #[true, true, false, false, false, false, false, false, false, false, false] rfl rfl (any_of HT_.out (by kernel_rfl)) (fun _ _ _ h => h) (Or.inl ⟨by rfl, ?_⟩) ?_ ?_
                          rotate_left
                          · intro w'
                            go_simp
                            with_reducible rfl
                          rotate_left
                          · simp only [Act.put, List.setIfInBounds_toArray, List.set_cons_zero, List.set_cons_succ, i64_w, i32_w]
                            rfl
                          refine pure_ (i := 2) (N := some 26) (v := ?_) (a' := ?_) #[true, true, true, false, false, false, false, false, false, false, false] rfl rfl (any_of HT_.out (by kernel_rfl)) (fun _ _ _ h => h) (Or.inl ⟨by rfl, ?_⟩) ?_ ?_
                          rotate_left
                          · intro w'
                            go_simp
                            with_reducible rfl
                          rotate_left
                          · simp only [Act.put, List.setIfInBounds_toArray, List.set_cons_zero, List.set_cons_succ, i64_w, i32_w]
                            rfl
                          refine pure_ (i := 3) (N := some 27) (v := ?_) (a' := ?_) #[true, true, true, true, false, false, false, false, false, false, false] rfl rfl (any_of HT_.out (by kernel_rfl)) (fun _ _ _ h => h) (Or.inl ⟨by rfl, ?_⟩) ?_ ?_
                          rotate_left
                          · intro w'
                            go_simp
                            with_reducible rfl
                          rotate_left
                          · simp only [Act.put, List.setIfInBounds_toArray, List.set_cons_zero, List.set_cons_succ, i64_w, i32_w]
                            rfl
                          refine pure_ (i := 5) (N := some 29) (v := ?_) (a' := ?_) #[true, true, true, true, false, true, false, false, false, false, false] rfl rfl (any_of HT_.out (by kernel_rfl)) (fun _ _ _ h => h) (Or.inl ⟨by rfl, ?_⟩) ?_ ?_
                          rotate_left
                          · intro w'
                            go_simp
                            with_reducible rfl
                          rotate_left
                          · simp only [Act.put, List.setIfInBounds_toArray, List.set_cons_zero, List.set_cons_succ, i64_w, i32_w]
                            rfl
                          refine pure_ (i := 6) (N := some 30) (v := ?_) (a' := ?_) #[true, true, true, true, false, true, true, false, false, false, false] rfl rfl (any_of HT_.out (by kernel_rfl)) (fun _ _ _ h => h) (Or.inl ⟨by rfl, ?_⟩) ?_ ?_
                          rotate_left
                          · intro w'
                            go_simp
                            with_reducible rfl
                          rotate_left
                          · simp only [Act.put, List.setIfInBounds_toArray, List.set_cons_zero, List.set_cons_succ, i64_w, i32_w]
                            rfl
                          refine pure_ (i := 7) (N := some 31) (v := ?_) (a' := ?_) #[true, true, true, true, false, true, true, true, false, false, false] rfl rfl (any_of HT_.out (by kernel_rfl)) (fun _ _ _ h => h) (Or.inl ⟨by rfl, ?_⟩) ?_ ?_
                          rotate_left
                          · intro w'
                            go_simp
                            with_reducible rfl
                          rotate_left
                          · simp only [Act.put, List.setIfInBounds_toArray, List.set_cons_zero, List.set_cons_succ, i64_w, i32_w]
                            rfl
                          refine take_ (i := 4) (N := some 28) (v := ?_) (a' := ?_) #[true, true, true, true, true, true, true, true, false, false, false] rfl rfl (take_ofW HT_.out HW_.out (by kernel_rfl)) (fun _ _ _ h => h) (Or.inl ⟨by rfl, ?_⟩) hHeld ?_ ?_
                          rotate_left
                          · intro w' s0
                            go_simp
                            with_reducible rfl
                          rotate_left
                          · simp only [Act.put, List.setIfInBounds_toArray, List.set_cons_zero, List.set_cons_succ, i64_w, i32_w]
                            rfl
                          refine pure_ (i := 8) (N := some 32) (v := ?_) (a' := ?_) #[true, true, true, true, true, true, true, true, true, false, false] rfl rfl (any_of HT_.out (by kernel_rfl)) (fun _ _ _ h => h) (Or.inl ⟨by rfl, ?_⟩) ?_ ?_
                          rotate_left
                          · intro w'
                            go_simp
                            with_reducible rfl
                          rotate_left
                          · simp only [Act.put, List.setIfInBounds_toArray, List.set_cons_zero, List.set_cons_succ, i64_w, i32_w]
                            rfl
                          refine pure_ (i := 9) (N := some 33) (v := ?_) (a' := ?_) #[true, true, true, true, true, true, true, true, true, true, false] rfl rfl (any_of HT_.out (by kernel_rfl)) (fun _ _ _ h => h) (Or.inl ⟨by rfl, ?_⟩) ?_ ?_
                          rotate_left
                          · intro w'
                            go_simp
                            with_reducible rfl
                          rotate_left
                          · simp only [Act.put, List.setIfInBounds_toArray, List.set_cons_zero, List.set_cons_succ, i64_w, i32_w]
                            rfl
                          refine last_ (i := 10) (N := none) #[true, true, true, true, true, true, true, true, true, true, true] rfl rfl (one_of HT_.out (by kernel_rfl)) (by decide) (fun K hK => ?_)
                          refine skip_ (w1 := ?_) (by rfl) rfl ?_ ?_
                          rotate_left
                          · go_simp
                            rfl
                          refine hK.out _ _ ?_
                          clear hK K
                          refine done_ (done_of HT_.out (by kernel_rfl)) ?_
                          try go_wp2
                          go_roundg k1
                          case measure => have := HK1.out; omega
                          case rel => exact ⟨(y159), (wrap64 (x14_1 + 1)), (by first | rfl | (simp; done) | (simp [*]; done)), H', ⟨by have := HK1.out; omega⟩, ⟨by (with_reducible repeat (first | apply Kd.R_alloc | apply Kd.R_drewN | apply Kd.R_drew)); exact HQ21.out⟩, ⟨by repeat (first | (with_reducible first | exact HB.out | apply below_alloc | apply pw_below_drewN | apply below_drew1 | refine below_set ?_ GB18.out) | exact HB.out)⟩⟩
                        · rw [if_neg c16] at H
                          exact absurd H (by simp)
                      · rw [if_neg c14] at H
                        exact absurd H (by simp)
                    · rw [if_neg c13] at H
                      exact absurd H (by simp)
                  · rw [if_neg c11] at H
                    have c11b0 : ((rd l0 x14_1) == 1) = false := beq_eq_false_iff_ne.mpr c11
                    have c11b1 : ((rd l0 x14_1) != 1) = true := bne_iff_ne.mpr c11
                    simp only [Option.some.injEq, Prod.mk.injEq] at H
                    obtain ⟨rfl, rfl⟩ := H
                    have p157 : 0 ≤ (x14_1 : Int) := of_decide_eq_true (by first | (with_reducible assumption) | assumption)
                    have q157 : x14_1 < (l0.length : Int) := of_decide_eq_true (by first | (with_reducible assumption) | assumption)
                    obtain ⟨ad157, e157, hx157_0⟩ := Kd.at_int HR0.out x14_1 p157 q157
                    cases e157
                    replace hx157_0 := (HB.out.cell (World.block_lt_of_cell? w _ hx157_0)).trans hx157_0
                    replace p157 := eq_true p157
                    replace q157 := eq_true q157
                    go_wp2
                    go_ret2
                    exact ⟨_, by first | rfl | (simp [errW_none, errW_some] <;> rfl) | (simp only [← hji2]; first | rfl | (simp [errW_none, errW_some] <;> rfl)) | (simp [*, errW_none, errW_some] <;> rfl), by first | exact Kd.R_nil _ _ _ _ _ | exact Kd.N_nil _ _ _ _ _ | exact Kd.V_nil _ _ _ _ _ | exact Kd.Q_nil _ _ _ _ _ | exact Kd.S_nil _ _ _ _ _, by repeat (first | (with_reducible first | exact HB.out | apply below_alloc | apply pw_below_drewN | apply below_drew1) | exact HB.out)⟩
              · rw [if_neg c9] at H
                exact absurd H (by simp)
            · rw [if_neg c8] at H
              exact absurd H (by simp)
          · rw [if_neg c7] at H
            have c7b0 : decide (x14_1 < (l0.length : Int)) = false := decide_eq_false c7
            clear c7
            simp only [Option.some.injEq, Prod.mk.injEq] at H
            obtain ⟨rfl, rfl⟩ := H
            go_wp2
            go_ret2
            exact ⟨_, by first | rfl | (simp [errW_none, errW_some] <;> rfl) | (simp only [← hji2]; first | rfl | (simp [errW_none, errW_some] <;> rfl)) | (simp [*, errW_none, errW_some] <;> rfl), by (with_reducible repeat (first | apply Kd.R_alloc | apply Kd.R_drewN | apply Kd.R_drew)); exact HO_4.out, by repeat (first | (with_reducible first | exact HB.out | apply below_alloc | apply pw_below_drewN | apply below_drew1) | exact HB.out)⟩
    · rw [if_neg c4] at H
      exact absurd H (by simp)
  · rw [if_neg c3] at H
    exact absurd H (by simp)
def pdu_packed.f (k : Nat) (l0 : List Int) : Option (List Int) := (wire_Pack.f k l0).bind fun bt160 => (some bt160.1)
theorem pdu_packed.mono : ∀ a0 k, LeO (pdu_packed.f k a0) (pdu_packed.f (k + 1) a0) := by
  intro a0 k
  unfold pdu_packed.f
  repeat' first
      | (with_reducible exact wire_Pack.mono _ _)
      | (with_reducible exact LeO.refl _)
      | (with_reducible exact LeO.none _)
      | (with_reducible refine LeO.ite ?_ ?_)
      | (with_reducible refine LeO.bind ?_ (fun _ => ?_))
      | exact wire_Pack.mono _ _
      | exact LeO.none _
      | refine LeO.ite ?_ ?_
      | refine LeO.bind ?_ (fun _ => ?_)
set_option maxHeartbeats 8000000 in
set_option maxRecDepth 100000 in
theorem pdu_packed.calls (k : Nat) (A0 : Option Addr) (c0 : Nat) (l0 : List Int) (r : List Int) (w : World) (hr0 : Kd.C (Kd.int .i64) w A0 l0.length l0) (hc0 : l0.length ≤ c0) (h : pdu_packed.f k l0 = some r) :
    Calls Try.prog 62 #[.slice A0 l0.length c0] w fun e w' => ∃ v0_ : Value, e = .returned (v0_) ∧ Kd.R (Kd.int .u8) 5 w' w.heap.size (fun _ => True) v0_ r ∧ Below w.heap.size w w' := by
  have HR0 := Aside0.mk hr0
  have HC0 := Aside0.mk hc0
  clear hr0 hc0
  have HB := Aside0.mk (Below.refl w.heap.size w)
  have H : ((wire_Pack.f k l0).bind fun bt160 => (some bt160.1)) = some r := h
  clear h
  replace H := Option.bind_eq_some_iff.mp H
  obtain ⟨⟨t160, t161⟩, A20, H⟩ := H
  replace H : (some t160) = some r := H
  have A2 := Aside0.mk A20
  clear A20
  obtain rfl := Option.some.inj H
  go_enter Try.func62, Try.ntmps62
  go_wp2_with (first | ((with_reducible refine gate_callee (f := 68) rfl ?_); refine goesL_ (some 7) rfl rfl Try.func68 (by kernel_rfl) rfl #[.slice A0 l0.length c0] rfl (by (try simp only [List.map_toArray, List.map_cons, List.map_nil]); first | done | rfl | (simp only [List.length_drop, List.length_take]; rfl)) ?_; (with_reducible refine (wire_Pack.calls k _ _ l0 t160 t161 _ ?side1 ?side2 A2.out).mono ?_); (case side1 => repeat (first | exact HR0.out | (with_reducible refine Kd.C_alloc ?_ _) | (with_reducible refine Kd.C_drewN ?_ _) | (with_reducible refine Kd.C_drew ?_))); (case side2 => exact HC0.out); rintro e w3 ⟨v162, rfl, ho0, hb⟩; refine ⟨_, rfl, ?_⟩; have n0_ := Aside0.mk (Kd.R_lower ho0 (below_size (by repeat (first | (with_reducible first | exact HB.out | apply below_alloc | apply pw_below_drewN | apply below_drew1) | exact HB.out)))); have n1_ := Aside0.mk (below_step (by repeat (first | (with_reducible first | exact HB.out | apply below_alloc | apply pw_below_drewN | apply below_drew1) | exact HB.out)) hb); clear HB; have HO163 := n0_; have HB := n1_; clear n0_ n1_; (try clear hb); (try clear hb2); (try clear hk); (try clear hi); (try clear ho0)))
  go_ret
  exact ⟨_, by first | rfl | (simp [errW_none, errW_some] <;> rfl) | (simp [*, errW_none, errW_some] <;> rfl), by (with_reducible repeat (first | apply Kd.R_alloc | apply Kd.R_drewN | apply Kd.R_drew)); exact HO163.out, by repeat (first | (with_reducible first | exact HB.out | apply below_alloc | apply pw_below_drewN | apply below_drew1) | exact HB.out)⟩
def bytes_Equal.f (l0 : List Int) (l1 : List Int) : Option (Bool) := some ((strOfNums l0).toList == (strOfNums l1).toList)
set_option maxHeartbeats 8000000 in
set_option maxRecDepth 100000 in
theorem bytes_Equal.calls (A0 : Option Addr) (c0 : Nat) (l0 : List Int) (A1 : Option Addr) (c1 : Nat) (l1 : List Int) (r : Bool) (w : World) (hr0 : Kd.C (Kd.int .u8) w A0 l0.length l0) (hc0 : l0.length ≤ c0) (hr1 : Kd.C (Kd.int .u8) w A1 l1.length l1) (hc1 : l1.length ≤ c1) (h : bytes_Equal.f l0 l1 = some r) :
    Calls Try.prog 51 #[.slice A0 l0.length c0, .slice A1 l1.length c1] w fun e w' => e = .returned (.bool r) ∧ Drawn0 w w' := by
  have HR0 := Aside0.mk hr0
  have HC0 := Aside0.mk hc0
  clear hr0 hc0
  have HR1 := Aside0.mk hr1
  have HC1 := Aside0.mk hc1
  clear hr1 hc1
  have H : (some ((strOfNums l0).toList == (strOfNums l1).toList)) = some r := h
  clear h
  obtain rfl := Option.some.inj H
  have hcv3 := Kd.C_string (P := Try.prog) (A := A0) (c := c0) Try.underlying43 Try.underlying5 Try.underlying9 HR0.out
  have hcv4 := Kd.C_string (P := Try.prog) (A := A1) (c := c1) Try.underlying43 Try.underlying5 Try.underlying9 HR1.out
  go_enter Try.func51, Try.ntmps51
  go_wp2
  go_ret
  exact ⟨by first | rfl | (simp; done) | (simp [*]; done), by repeat (first | exact Drawn0.refl _ | apply Drawn0.step)⟩
end Go.Proofs.Ytlalpooiegganaa.PMasterWaits
end

section
namespace Go.Proofs.Ytlalpooiegganaa.Mst
open Go.RowKit Go.Proofs.YtlalpooiegganaaW.PrintWords Go.Proofs.YtlalpooiegganaaW.PrintLast Go.Proofs.YtlalpooiegganaaW.PrintMore Go.Proofs.Ytlalpooiegganaa.Core Go.Proofs.Ytlalpooiegganaa.Wk Go.Proofs.Ytlalpooiegganaa.PMasterWaits
set_option linter.unusedVariables false
set_option linter.unusedSimpArgs false
def sc (x : Int × Int) : List Value := [.int .i64 x.1, .int .i64 x.2, .int .i64 3, .int .i64 0, .int .i64 1, .slice none 0 0, .int .i64 0, .int .i64 0, .int .i64 0]
def ks : Kd (Int × Int) where
  sz := 9
  E := []
  K := fun _ x cs => cs = sc x
  M := fun _ _ _ x cs => cs = sc x
  K_len := fun h => by subst h; rfl
  K_one := fun h => by subst h; simp [sc, Value.oneCell']
  K_below := fun _ h => h
  K_of_M := fun h => h
  M_mono := fun _ h => h
  M_bound := fun h => h
  M_move := fun _ h => h
  M_lower := fun _ h => h
def dc (t : Int) : List Value := [.int .i64 t, .slice none 0 0, .int .i64 0, .bool true]
def kd : Kd Int where
  sz := 4
  E := []
  K := fun _ x cs => cs = dc x
  M := fun _ _ _ x cs => cs = dc x
  K_len := fun h => by subst h; rfl
  K_one := fun h => by subst h; simp [dc, Value.oneCell']
  K_below := fun _ h => h
  K_of_M := fun h => h
  M_mono := fun _ h => h
  M_bound := fun h => h
  M_move := fun _ h => h
  M_lower := fun _ h => h
theorem info39 : (Try.prog.info? 39).map (fun i => (i.zero, i.size, i.bytes)) = some (some (.agg #[.int .i64 0, .int .i64 0, .int .i64 0, .int .i64 0, .int .i64 0, .slice none 0 0, .int .i64 0, .int .i64 0, .int .i64 0]), 9, 88) := by kernel_rfl
theorem info48 : (Try.prog.info? 48).map (fun i => (i.zero, i.size, i.bytes)) = some (some (.agg #[.int .i64 0, .slice none 0 0, .int .i64 0, .bool false]), 4, 48) := by kernel_rfl
theorem zeroI (w : World) : (zeroValue 3).run Try.prog w = .ok (.int .i64 0) w := by kernel_rfl
structure MS where
  wait : Int
  again : Int
  pause : Int
  now : Int
  tk : Int
  line : List (Int × Int)
  out : Option (Int × Int)
  times : Int
  last : Int
  rest : Int → Int
def IsOut (B : Nat) (W : World) (vl vo : Value) : Option (Int × Int) → Prop
  | none => vo = .pointer none
  | some x => ∃ go, vo = .pointer (some ⟨go, 0, none⟩) ∧ W.heap[go]? = some (.cells (sc x).toArray 39 (0, 0)) ∧ B ≤ go ∧ ∀ k, vl.ownBlock = some k → k ≠ go
def mc (wait again pause now tk : Int) (vl vo : Value) (times last : Int) (m : Nat) : Array Value := #[.int .i64 wait, .int .i64 again, .int .i64 pause, .int .i64 now, .int .i64 tk, vl, vo, .int .i64 times, .int .i64 last, .map (some m)]
structure IsM (B : Nat) (W : World) (g m : Nat) (s : MS) : Prop where
  out : ∃ vl vo, W.heap[g]? = some (.cells (mc s.wait s.again s.pause s.now s.tk vl vo s.times s.last m) 73 (0, 0)) ∧ OwnE ks (fun _ => False) 39 B W vl s.line ∧ IsOut B W vl vo s.out
  mp : ∃ f n, IsMap W m f n ∧ ∀ k, (f k).getD (.int .i64 0) = .int .i64 (s.rest k)
  bg : B ≤ g
  bm : B ≤ m
section
variable {B : Nat} {F : Nat → Prop} {W W' : World} {vl vo : Value} {l : List (Int × Int)} {o : Option (Int × Int)} {g m n : Nat} {s : MS} {f : Int → Option Value} {cs : Array Value} {T : TypeId}
theorem ks_mv (h : OwnE ks (fun _ => False) 39 B W vl l) (k : Ext F W W') (hf : ∀ k, vl.ownBlock = some k → ¬ F k) : OwnE ks (fun _ => False) 39 B W' vl l := by
  obtain ⟨i, h1, h2⟩ := h
  exact ⟨i, own_move h1 (fun b hb => k.block b (own_lt h1 b hb) (hf b hb)), h2.imp_ (fun x cs h => Ever.triv (p := cs = sc x) h.now)⟩
theorem ks_ne (h : OwnE ks (fun _ => False) 39 B W vl l) (hb : W.heap[g]? = some (.cells cs T (0, 0))) (hT : T ≠ 39) : ∀ k, vl.ownBlock = some k → k ≠ g := by
  intro k hk e
  obtain ⟨i, h1, _⟩ := h
  obtain ⟨cells, hc⟩ := own_typed h1 k hk
  rw [e, hb] at hc
  injection hc with hc
  injection hc with _ hc _
  exact hT hc
theorem ks_nm (h : OwnE ks (fun _ => False) 39 B W vl l) (hm : IsMap W m f n) : ∀ k, vl.ownBlock = some k → k ≠ m := by
  intro k hk e
  obtain ⟨i, h1, _⟩ := h
  obtain ⟨cells, hc⟩ := own_typed h1 k hk
  obtain ⟨es, c, hb, _⟩ := hm.out
  rw [e, hb] at hc
  injection hc with hc
  cases hc
theorem cell_nm (hb : W.heap[g]? = some (.cells cs T (0, 0))) (hm : IsMap W m f n) : g ≠ m := by
  intro e
  obtain ⟨es, c, hb2, _⟩ := hm.out
  rw [e, hb2] at hb
  injection hb with hb
  cases hb
theorem extB (h : Ext (fun k => B ≤ k) W W') (hB : B ≤ W.heap.size) : Below B W W' := ⟨h.os, h.tape, h.output, h.size, fun i hi => h.block i (by omega) (fun a => by omega)⟩
theorem IsOut.set (h : IsOut B W vl vo o) (k : Ext (fun k => k = g) W W') (hb : W.heap[g]? = some (.cells cs T (0, 0))) (hT : T ≠ 39) : IsOut B W' vl vo o := by
  cases o with
  | none => exact h
  | some x => obtain ⟨go, h1, h2, h3⟩ := h; exact ⟨go, h1, Ext.blk k h2 (blk_ne h2 hb hT.symm), h3⟩
theorem IsOut.below (h : IsOut B W vl vo o) (k : Below W.heap.size W W') : IsOut B W' vl vo o := by
  cases o with
  | none => exact h
  | some x => obtain ⟨go, h1, h2, h3⟩ := h; exact ⟨go, h1, blk_below h2 k, h3⟩
theorem IsM.below (h : IsM B W g m s) (k : Below W.heap.size W W') : IsM B W' g m s := by
  obtain ⟨vl, vo, h1, h2, h3⟩ := h.out
  obtain ⟨f, n, h4, h5⟩ := h.mp
  exact ⟨⟨vl, vo, blk_below h1 k, ks_mv h2 (Ext.none_ k) (fun _ _ e => e), h3.below k⟩, ⟨f, n, h4.ext (Ext.none_ k) (fun e => e), h5⟩, h.bg, h.bm⟩
theorem own_lw {B' : Nat} {e : TypeId} {sz n : Nat} {v : Value} {i : List Value} (h : W.ownsRow B e sz v n i) (hB : B' ≤ B) : W.ownsRow B' e sz v n i := by
  obtain ⟨h1, h2⟩ := h
  refine ⟨h1, ?_⟩
  rcases h2 with h2 | ⟨g, cap, cur, e, hg, r⟩
  · exact .inl h2
  · exact .inr ⟨g, cap, cur, e, by omega, r⟩
end
theorem nil29 (w : World) : (binOp .eql 29 (.slice none 0 0) (.slice none 0 0)).run Try.prog w = .ok (.bool true) w := by kernel_rfl
set_option maxHeartbeats 4000000 in
set_option maxRecDepth 100000 in
theorem clone_nil (w : World) : Calls Try.prog 30 #[.slice none 0 0] w fun e w' => e = .returned (.slice none 0 0) ∧ w = w' := by
  have hn := nil29
  go_enter Try.func30, Try.ntmps30
  go_wp2
  go_ret
  exact ⟨rfl, rfl⟩
set_option maxHeartbeats 4000000 in
set_option maxRecDepth 100000 in
theorem read_c (w : World) : Calls Try.prog 17 #[] w fun e w' => e = .returned (.agg #[.int .i64 3, .int .i64 0, .int .i64 1, .slice none 0 0, .int .i64 0, .int .i64 0, .int .i64 0]) ∧ Below w.heap.size w w' := by
  have hu31 := Try.underlying31
  have HB := Aside0.mk (Below.refl w.heap.size w)
  go_enter Try.func17, Try.ntmps17
  go_wp2_with (first | ((with_reducible refine gate_dst (N := 0) rfl ?_); refine box_event ?hg (N := 0) ?hd (cs := #[.int .i64 0, .int .i64 0, .int .i64 0, .slice none 0 0, .int .i64 0, .int .i64 0, .int .i64 0]) (t := 31) ?hr ?_; (case hd => rfl); (case hg => rfl); (case hr => first | (go_simp; done) | (go_simp; rfl)); intro gb212 hg w1 hbox hb; have n0_ := Aside0.mk (below_step (by repeat (first | (with_reducible first | exact HB.out | apply below_alloc | apply pw_below_drewN | apply below_drew1) | exact HB.out)) hb); have n1_ := Aside0.mk (hbox); have n2_ := Aside0.mk ((by rw [hg]; exact (below_size (by repeat (first | (with_reducible first | exact HB.out | apply below_alloc | apply pw_below_drewN | apply below_drew1) | exact HB.out))) : w.heap.size ≤ gb212)); have n3_ := Aside0.mk ((by rw [hg]; exact (below_size (by repeat (first | (with_reducible first | exact HB.out | apply below_alloc | apply pw_below_drewN | apply below_drew1) | exact HB.out))) : w.heap.size ≤ gb212)); clear HB; have HB := n0_; have BK212 := n1_; have GW212 := n2_; have GE212 := n3_; clear n0_ n1_ n2_ n3_; clear hb hbox hg; have hcz2_0 : w1.cell? ⟨gb212, 0, none⟩ = some (.int .i64 0) := (blk_cell BK212.out 0).trans rfl; have hcz2_1 : w1.cell? ⟨gb212, 1, none⟩ = some (.int .i64 0) := (blk_cell BK212.out 1).trans rfl; have hcz2_2 : w1.cell? ⟨gb212, 2, none⟩ = some (.int .i64 0) := (blk_cell BK212.out 2).trans rfl; have hcz2_3 : w1.cell? ⟨gb212, 3, none⟩ = some (.slice none 0 0) := (blk_cell BK212.out 3).trans rfl; have hcz2_4 : w1.cell? ⟨gb212, 4, none⟩ = some (.int .i64 0) := (blk_cell BK212.out 4).trans rfl; have hcz2_5 : w1.cell? ⟨gb212, 5, none⟩ = some (.int .i64 0) := (blk_cell BK212.out 5).trans rfl; have hcz2_6 : w1.cell? ⟨gb212, 6, none⟩ = some (.int .i64 0) := (blk_cell BK212.out 6).trans rfl; have hfz2_0 := blk_frozen BK212.out 0; have hfz2_1 := blk_frozen BK212.out 1; have hfz2_2 := blk_frozen BK212.out 2; have hfz2_3 := blk_frozen BK212.out 3; have hfz2_4 := blk_frozen BK212.out 4; have hfz2_5 := blk_frozen BK212.out 5; have hfz2_6 := blk_frozen BK212.out 6))
  refine bodyPost_ret (results_cell_row rfl _ _ gb212 31 #[.int .i64 3, .int .i64 0, .int .i64 1, .slice none 0 0, .int .i64 0, .int .i64 0, .int .i64 0] (0, 0) _ rfl (by (with_reducible repeat (first | refine blk_drewN ?_ _ | refine blk_drew ?_ | refine blk_alloc ?_ _)); refine blk_put (cs := #[.int .i64 3, .int .i64 0, .int .i64 1, .slice none 0 0, .int .i64 0, .int .i64 0, .int .i64 0]) ?_ 6 _ rfl; (with_reducible repeat (first | refine blk_drewN ?_ _ | refine blk_drew ?_ | refine blk_alloc ?_ _)); refine blk_put (cs := #[.int .i64 3, .int .i64 0, .int .i64 1, .slice none 0 0, .int .i64 0, .int .i64 0, .int .i64 0]) ?_ 5 _ rfl; (with_reducible repeat (first | refine blk_drewN ?_ _ | refine blk_drew ?_ | refine blk_alloc ?_ _)); refine blk_put (cs := #[.int .i64 3, .int .i64 0, .int .i64 1, .slice none 0 0, .int .i64 0, .int .i64 0, .int .i64 0]) ?_ 4 _ rfl; (with_reducible repeat (first | refine blk_drewN ?_ _ | refine blk_drew ?_ | refine blk_alloc ?_ _)); refine blk_put (cs := #[.int .i64 3, .int .i64 0, .int .i64 1, .slice none 0 0, .int .i64 0, .int .i64 0, .int .i64 0]) ?_ 3 _ rfl; (with_reducible repeat (first | refine blk_drewN ?_ _ | refine blk_drew ?_ | refine blk_alloc ?_ _)); refine blk_put (cs := #[.int .i64 3, .int .i64 0, .int .i64 0, .slice none 0 0, .int .i64 0, .int .i64 0, .int .i64 0]) ?_ 2 _ rfl; (with_reducible repeat (first | refine blk_drewN ?_ _ | refine blk_drew ?_ | refine blk_alloc ?_ _)); refine blk_put (cs := #[.int .i64 3, .int .i64 0, .int .i64 0, .slice none 0 0, .int .i64 0, .int .i64 0, .int .i64 0]) ?_ 1 _ rfl; (with_reducible repeat (first | refine blk_drewN ?_ _ | refine blk_drew ?_ | refine blk_alloc ?_ _)); refine blk_put (cs := #[.int .i64 0, .int .i64 0, .int .i64 0, .slice none 0 0, .int .i64 0, .int .i64 0, .int .i64 0]) ?_ 0 _ rfl; (with_reducible repeat (first | refine blk_drewN ?_ _ | refine blk_drew ?_ | refine blk_alloc ?_ _)); exact BK212.out) Try.underlying31 rfl (by kernel_rfl)) rfl ?_
  exact ⟨rfl, by repeat (first | (with_reducible first | exact HB.out | apply below_alloc | apply pw_below_drewN | apply below_drew1 | refine below_set ?_ GE212.out) | exact HB.out)⟩
set_option maxHeartbeats 4000000 in
set_option maxRecDepth 100000 in
theorem check_g (A : Option Addr) (c : Nat) (w : World) : Calls Try.prog 29 #[.agg #[.int .i64 3, .int .i64 0, .int .i64 1, .slice A 0 c, .int .i64 0, .int .i64 0, .int .i64 0]] w fun e w' => e = .returned (.int .i64 0) ∧ Below w.heap.size w w' := by
  have hu31 := Try.underlying31
  have XT : Aside0 (Ext (fun _ => False) w w) := ⟨Ext.refl _ _⟩
  go_enter Try.func29, Try.ntmps29
  go_wp2_with (first | ((with_reducible refine gate_dst (N := 1) rfl ?_); refine box_event ?hg (N := 1) ?hd (cs := #[.int .i64 3, .int .i64 0, .int .i64 1, .slice A 0 c, .int .i64 0, .int .i64 0, .int .i64 0]) (t := 31) ?hr ?_; (case hd => rfl); (case hg => rfl); (case hr => first | (go_simp; done) | (go_simp; rfl)); intro b hg w1 hbox HBc; have F_b : Aside0 (∀ k, k = b → (fun _ => False) k ∨ w.heap.size ≤ k) := ⟨fnew hg XT.out.size⟩; have RG_b : Aside0 (w.heap.size ≤ b) := ⟨Nat.le_trans XT.out.size (Nat.le_of_eq hg.symm)⟩; clear hg; have XTn : Aside0 (Ext (fun _ => False) w w1) := ⟨XT.out.stepB HBc⟩; clear XT; have XT := XTn; clear XTn; have BK_b : Aside0 (w1.heap[b]? = some (.cells #[.int .i64 3, .int .i64 0, .int .i64 1, .slice A 0 c, .int .i64 0, .int .i64 0, .int .i64 0] 31 (0, 0))) := ⟨hbox⟩; clear hbox HBc; have lc1_0 : w1.cell? ⟨b, 0, none⟩ = some (.int .i64 3) := (blk_cell BK_b.out 0).trans rfl; have lf1_0 := blk_frozen BK_b.out 0; have lc1_1 : w1.cell? ⟨b, 1, none⟩ = some (.int .i64 0) := (blk_cell BK_b.out 1).trans rfl; have lf1_1 := blk_frozen BK_b.out 1; have lc1_2 : w1.cell? ⟨b, 2, none⟩ = some (.int .i64 1) := (blk_cell BK_b.out 2).trans rfl; have lf1_2 := blk_frozen BK_b.out 2; have lc1_3 : w1.cell? ⟨b, 3, none⟩ = some (.slice A 0 c) := (blk_cell BK_b.out 3).trans rfl; have lf1_3 := blk_frozen BK_b.out 3; have lc1_4 : w1.cell? ⟨b, 4, none⟩ = some (.int .i64 0) := (blk_cell BK_b.out 4).trans rfl; have lf1_4 := blk_frozen BK_b.out 4; have lc1_5 : w1.cell? ⟨b, 5, none⟩ = some (.int .i64 0) := (blk_cell BK_b.out 5).trans rfl; have lf1_5 := blk_frozen BK_b.out 5; have lc1_6 : w1.cell? ⟨b, 6, none⟩ = some (.int .i64 0) := (blk_cell BK_b.out 6).trans rfl; have lf1_6 := blk_frozen BK_b.out 6) | (go_at_call 43; refine (pdu_within.calls 1 1 125 true _ (by decide +kernel)).mono ?_; rintro e w' ⟨rfl, ⟨nd, rfl⟩⟩) | (go_at_call 44; refine (pdu_span.calls 0 1 true _ (by decide +kernel)).mono ?_; rintro e w' ⟨rfl, ⟨nd, rfl⟩⟩))
  go_ret
  exact ⟨rfl, pw_below_drewN (XT.out.below (fun _ e => e.elim)) _⟩
theorem check_c (w : World) : Calls Try.prog 29 #[.agg #[.int .i64 3, .int .i64 0, .int .i64 1, .slice none 0 0, .int .i64 0, .int .i64 0, .int .i64 0]] w fun e w' => e = .returned (.int .i64 0) ∧ Below w.heap.size w w' := check_g none 0 w
set_option maxHeartbeats 4000000 in
set_option maxRecDepth 100000 in
theorem goon_c {B : Nat} {w : World} {g m : Nat} {wait again pause now tk times last : Int} {line : List (Int × Int)} {rest : Int → Int} {out : Option (Int × Int)} (h : IsM B w g m ⟨wait, again, pause, now, tk, line, out, times, last, rest⟩) (hB : B ≤ w.heap.size) (t : Int) (h0 : 0 ≤ t) (h1 : now ≤ t) : Calls Try.prog 31 #[.pointer (some ⟨g, 0, none⟩), .int .i64 t] w fun e w' => e = .returned (.int .i64 0) ∧ IsM B w' g m ⟨wait, again, pause, t, tk, line, out, times, last, rest⟩ ∧ Below B w w' := by
  have q0 : decide (t < 0) = false := decide_eq_false (by omega)
  have q1 : decide (t < now) = false := decide_eq_false (by omega)
  clear h0 h1
  have HBW := Aside0.mk hB
  obtain ⟨⟨vl, vo, hb, hl, ho⟩, ⟨f, n, hm, hf⟩, bg, bm⟩ := h
  have BK_g : Aside0 (w.heap[g]? = some (.cells #[.int .i64 wait, .int .i64 again, .int .i64 pause, .int .i64 now, .int .i64 tk, vl, vo, .int .i64 times, .int .i64 last, .map (some m)] 73 (0, 0))) := ⟨hb⟩
  have OB_l : Aside0 (OwnE ks (fun _ => False) 39 B w vl (line)) := ⟨hl⟩
  have MP_m := Aside0.mk hm; have HF := Aside0.mk hf; have BG := Aside0.mk bg; have BM := Aside0.mk bm
  have NE_l_g : Aside0 (∀ k, (vl).ownBlock = some k → k ≠ g) := ⟨ks_ne hl hb (by decide)⟩; have NE_l_m : Aside0 (∀ k, (vl).ownBlock = some k → k ≠ m) := ⟨ks_nm hl hm⟩; have NE_g_m : Aside0 (g ≠ m) := ⟨cell_nm hb hm⟩; have NE_m_g : Aside0 (m ≠ g) := ⟨fun e => NE_g_m.out e.symm⟩; have F_g : Aside0 (∀ k, k = g → B ≤ k ∨ w.heap.size ≤ k) := ⟨fun k e => .inl (by rw [e]; exact bg)⟩; have F_m : Aside0 (∀ k, k = m → B ≤ k ∨ w.heap.size ≤ k) := ⟨fun k e => .inl (by rw [e]; exact bm)⟩
  have HO : Aside0 (IsOut B w vl vo out) := ⟨ho⟩; clear ho
  clear hb hl hm hf bg bm hB
  have XT : Aside0 (Ext (fun k => B ≤ k) w w) := ⟨Ext.refl _ _⟩
  have lc1_0 : w.cell? ⟨g, 0, none⟩ = some (.int .i64 wait) := (blk_cell BK_g.out 0).trans rfl
  have lf1_0 := blk_frozen BK_g.out 0
  have lc1_1 : w.cell? ⟨g, 1, none⟩ = some (.int .i64 again) := (blk_cell BK_g.out 1).trans rfl
  have lf1_1 := blk_frozen BK_g.out 1
  have lc1_2 : w.cell? ⟨g, 2, none⟩ = some (.int .i64 pause) := (blk_cell BK_g.out 2).trans rfl
  have lf1_2 := blk_frozen BK_g.out 2
  have lc1_3 : w.cell? ⟨g, 3, none⟩ = some (.int .i64 now) := (blk_cell BK_g.out 3).trans rfl
  have lf1_3 := blk_frozen BK_g.out 3
  have lc1_4 : w.cell? ⟨g, 4, none⟩ = some (.int .i64 tk) := (blk_cell BK_g.out 4).trans rfl
  have lf1_4 := blk_frozen BK_g.out 4
  have lc1_5 : w.cell? ⟨g, 5, none⟩ = some (vl) := (blk_cell BK_g.out 5).trans rfl
  have lf1_5 := blk_frozen BK_g.out 5
  have lc1_6 : w.cell? ⟨g, 6, none⟩ = some (vo) := (blk_cell BK_g.out 6).trans rfl
  have lf1_6 := blk_frozen BK_g.out 6
  have lc1_7 : w.cell? ⟨g, 7, none⟩ = some (.int .i64 times) := (blk_cell BK_g.out 7).trans rfl
  have lf1_7 := blk_frozen BK_g.out 7
  have lc1_8 : w.cell? ⟨g, 8, none⟩ = some (.int .i64 last) := (blk_cell BK_g.out 8).trans rfl
  have lf1_8 := blk_frozen BK_g.out 8
  have lc1_9 : w.cell? ⟨g, 9, none⟩ = some (.map (some m)) := (blk_cell BK_g.out 9).trans rfl
  have lf1_9 := blk_frozen BK_g.out 9
  go_enter Try.func31, Try.ntmps31
  go_wp2_with (first | ((with_reducible refine gate_store (p := 22) rfl ?_); refine store_event (w1 := ?_) rfl (p := 22) rfl rfl ?hr ?_; rotate_left; (case hr => go_simp; rfl); intro w1 hw_; obtain ⟨hput, HEc⟩ := put1 (cs' := #[.int .i64 wait, .int .i64 again, .int .i64 pause, .int .i64 t, .int .i64 tk, vl, vo, .int .i64 times, .int .i64 last, .map (some m)]) hw_ BK_g.out rfl; clear hw_; have OBn_l : Aside0 (OwnE ks (fun _ => False) 39 B w1 vl (line)) := ⟨ks_mv OB_l.out HEc NE_l_g.out⟩; clear OB_l; have OB_l := OBn_l; clear OBn_l; have HOn : Aside0 (IsOut B w1 vl vo out) := ⟨HO.out.set HEc BK_g.out (by decide)⟩; clear HO; have HO := HOn; clear HOn; clear lc1_0 lf1_0 lc1_1 lf1_1 lc1_2 lf1_2 lc1_3 lf1_3 lc1_4 lf1_4 lc1_5 lf1_5 lc1_6 lf1_6 lc1_7 lf1_7 lc1_8 lf1_8 lc1_9 lf1_9; have MPn_m : Aside0 (IsMap w1 m (f) (n)) := ⟨IsMap.ext MP_m.out HEc NE_m_g.out⟩; have XTn : Aside0 (Ext (fun k => B ≤ k) w w1) := ⟨XT.out.step HEc (F_g.out)⟩; clear MP_m XT; have MP_m := MPn_m; have XT := XTn; clear MPn_m XTn; clear BK_g; have BK_g : Aside0 (w1.heap[g]? = some (.cells #[.int .i64 wait, .int .i64 again, .int .i64 pause, .int .i64 t, .int .i64 tk, vl, vo, .int .i64 times, .int .i64 last, .map (some m)] 73 (0, 0))) := ⟨hput⟩; clear hput HEc; have lc2_0 : w1.cell? ⟨g, 0, none⟩ = some (.int .i64 wait) := (blk_cell BK_g.out 0).trans rfl; have lf2_0 := blk_frozen BK_g.out 0; have lc2_1 : w1.cell? ⟨g, 1, none⟩ = some (.int .i64 again) := (blk_cell BK_g.out 1).trans rfl; have lf2_1 := blk_frozen BK_g.out 1; have lc2_2 : w1.cell? ⟨g, 2, none⟩ = some (.int .i64 pause) := (blk_cell BK_g.out 2).trans rfl; have lf2_2 := blk_frozen BK_g.out 2; have lc2_3 : w1.cell? ⟨g, 3, none⟩ = some (.int .i64 t) := (blk_cell BK_g.out 3).trans rfl; have lf2_3 := blk_frozen BK_g.out 3; have lc2_4 : w1.cell? ⟨g, 4, none⟩ = some (.int .i64 tk) := (blk_cell BK_g.out 4).trans rfl; have lf2_4 := blk_frozen BK_g.out 4; have lc2_5 : w1.cell? ⟨g, 5, none⟩ = some (vl) := (blk_cell BK_g.out 5).trans rfl; have lf2_5 := blk_frozen BK_g.out 5; have lc2_6 : w1.cell? ⟨g, 6, none⟩ = some (vo) := (blk_cell BK_g.out 6).trans rfl; have lf2_6 := blk_frozen BK_g.out 6; have lc2_7 : w1.cell? ⟨g, 7, none⟩ = some (.int .i64 times) := (blk_cell BK_g.out 7).trans rfl; have lf2_7 := blk_frozen BK_g.out 7; have lc2_8 : w1.cell? ⟨g, 8, none⟩ = some (.int .i64 last) := (blk_cell BK_g.out 8).trans rfl; have lf2_8 := blk_frozen BK_g.out 8; have lc2_9 : w1.cell? ⟨g, 9, none⟩ = some (.map (some m)) := (blk_cell BK_g.out 9).trans rfl; have lf2_9 := blk_frozen BK_g.out 9))
  go_ret
  exact ⟨rfl, ⟨⟨_, _, BK_g.out, OB_l.out, HO.out⟩, ⟨_, _, MP_m.out, HF.out⟩, BG.out, BM.out⟩, extB XT.out HBW.out⟩
set_option maxHeartbeats 4000000 in
set_option maxRecDepth 100000 in
theorem count_none {B : Nat} {w : World} {g m : Nat} {wait again pause now tk times last : Int} {line : List (Int × Int)} {rest : Int → Int} (h : IsM B w g m ⟨wait, again, pause, now, tk, line, none, times, last, rest⟩) (hB : B ≤ w.heap.size) (hl : line.length ≤ 1000) : Calls Try.prog 16 #[.pointer (some ⟨g, 0, none⟩)] w fun e w' => e = .returned (.int .i64 line.length) ∧ w = w' := by
  have HBW := Aside0.mk hB
  obtain ⟨⟨vl, vo, hb, hl, ho⟩, ⟨f, n, hm, hf⟩, bg, bm⟩ := h
  obtain rfl : vo = .pointer none := ho
  have BK_g : Aside0 (w.heap[g]? = some (.cells #[.int .i64 wait, .int .i64 again, .int .i64 pause, .int .i64 now, .int .i64 tk, vl, .pointer none, .int .i64 times, .int .i64 last, .map (some m)] 73 (0, 0))) := ⟨hb⟩
  have OB_l : Aside0 (OwnE ks (fun _ => False) 39 B w vl (line)) := ⟨hl⟩
  have MP_m := Aside0.mk hm; have HF := Aside0.mk hf; have BG := Aside0.mk bg; have BM := Aside0.mk bm
  have NE_l_g : Aside0 (∀ k, (vl).ownBlock = some k → k ≠ g) := ⟨ks_ne hl hb (by decide)⟩; have NE_l_m : Aside0 (∀ k, (vl).ownBlock = some k → k ≠ m) := ⟨ks_nm hl hm⟩; have NE_g_m : Aside0 (g ≠ m) := ⟨cell_nm hb hm⟩; have NE_m_g : Aside0 (m ≠ g) := ⟨fun e => NE_g_m.out e.symm⟩; have F_g : Aside0 (∀ k, k = g → B ≤ k ∨ w.heap.size ≤ k) := ⟨fun k e => .inl (by rw [e]; exact bg)⟩; have F_m : Aside0 (∀ k, k = m → B ≤ k ∨ w.heap.size ≤ k) := ⟨fun k e => .inl (by rw [e]; exact bm)⟩
  clear hb hl hm hf bg bm hB
  have XT : Aside0 (Ext (fun k => B ≤ k) w w) := ⟨Ext.refl _ _⟩
  have lc1_0 : w.cell? ⟨g, 0, none⟩ = some (.int .i64 wait) := (blk_cell BK_g.out 0).trans rfl
  have lf1_0 := blk_frozen BK_g.out 0
  have lc1_1 : w.cell? ⟨g, 1, none⟩ = some (.int .i64 again) := (blk_cell BK_g.out 1).trans rfl
  have lf1_1 := blk_frozen BK_g.out 1
  have lc1_2 : w.cell? ⟨g, 2, none⟩ = some (.int .i64 pause) := (blk_cell BK_g.out 2).trans rfl
  have lf1_2 := blk_frozen BK_g.out 2
  have lc1_3 : w.cell? ⟨g, 3, none⟩ = some (.int .i64 now) := (blk_cell BK_g.out 3).trans rfl
  have lf1_3 := blk_frozen BK_g.out 3
  have lc1_4 : w.cell? ⟨g, 4, none⟩ = some (.int .i64 tk) := (blk_cell BK_g.out 4).trans rfl
  have lf1_4 := blk_frozen BK_g.out 4
  have lc1_5 : w.cell? ⟨g, 5, none⟩ = some (vl) := (blk_cell BK_g.out 5).trans rfl
  have lf1_5 := blk_frozen BK_g.out 5
  have lc1_6 : w.cell? ⟨g, 6, none⟩ = some (.pointer none) := (blk_cell BK_g.out 6).trans rfl
  have lf1_6 := blk_frozen BK_g.out 6
  have lc1_7 : w.cell? ⟨g, 7, none⟩ = some (.int .i64 times) := (blk_cell BK_g.out 7).trans rfl
  have lf1_7 := blk_frozen BK_g.out 7
  have lc1_8 : w.cell? ⟨g, 8, none⟩ = some (.int .i64 last) := (blk_cell BK_g.out 8).trans rfl
  have lf1_8 := blk_frozen BK_g.out 8
  have lc1_9 : w.cell? ⟨g, 9, none⟩ = some (.map (some m)) := (blk_cell BK_g.out 9).trans rfl
  have lf1_9 := blk_frozen BK_g.out 9
  skip
  obtain ⟨A, c, rfl⟩ := OB_l.out.slice
  go_enter Try.func16, Try.ntmps16
  go_wp2
  go_ret
  exact ⟨rfl, rfl⟩
set_option maxHeartbeats 4000000 in
set_option maxRecDepth 100000 in
theorem new_c (w : World) (wait again rest : Int) (h1 : 1 ≤ wait) (h2 : 0 ≤ again) (h3 : again ≤ 16) (h4 : 0 ≤ rest) : Calls Try.prog 8 #[.int .i64 wait, .int .i64 again, .int .i64 rest] w fun e w' => ∃ g m, e = .returned (.tuple #[.pointer (some ⟨g, 0, none⟩), .int .i64 0]) ∧ IsM w.heap.size w' g m ⟨wait, again, rest, 0, 0, [], none, 0, 0, fun _ => 0⟩ ∧ Below w.heap.size w w' := by
  have s1 : decide (wait < 1) = false := decide_eq_false (by omega)
  have s2 : decide (again < 0) = false := decide_eq_false (by omega)
  have s3 : decide (16 < again) = false := decide_eq_false (by omega)
  have s4 : decide (rest < 0) = false := decide_eq_false (by omega)
  have hmm := @run_makeMap Try.prog
  clear h1 h2 h3 h4
  go_enter Try.func8, Try.ntmps8
  go_wp2
  go_ret2
  refine ⟨w.heap.size + 1, w.heap.size, rfl, ⟨⟨.slice none 0 0, .pointer none, ?_, OwnE.nil _ _ _ _ _, rfl⟩, ⟨fun _ => none, 0, ?_, fun _ => rfl⟩, by omega, Nat.le_refl _⟩, below_alloc (below_alloc (Below.refl _ _) _) _⟩
  · exact new_blk (by simp)
  · exact (IsMap.new w).ext (Ext.none_ (below_alloc (Below.refl _ _) _)) (fun e => e)
end Go.Proofs.Ytlalpooiegganaa.Mst
end

section
namespace Go.Proofs.Ytlalpooiegganaa.MstB
open Go.RowKit Go.Proofs.YtlalpooiegganaaW.PrintWords Go.Proofs.YtlalpooiegganaaW.PrintLast Go.Proofs.YtlalpooiegganaaW.PrintMore Go.Proofs.Ytlalpooiegganaa.Core Go.Proofs.Ytlalpooiegganaa.Wk Go.Proofs.Ytlalpooiegganaa.PMasterWaits Go.Proofs.Ytlalpooiegganaa.Mst
set_option linter.unusedVariables false
set_option linter.unusedSimpArgs false
section
variable {P : Program} {ops : Array Oper} {o : Oper} {a : Act} {Q : Exit → Act → World → Prop} {Kc : Act → World → Prop} {α : Type}
theorem ev_append_step (d : Kd α) {M : Nat → Prop} {w0 W : World} (base : Nat) (hw : Region.wanted o (yielded ops a.tmps) = true) (s x : Operand) (t e : TypeId) (z : Value) (bytes : Nat)
    (ho : o.op = .call { callee := .builtin .append, args := #[s, x], argTypes := #[t, t] })
    (ht : P.underlying t = some (.slice e)) (hinfo : (P.info? e).map (fun i => (i.zero, i.size, i.bytes)) = some (some z, d.sz, bytes)) (hz : z.cells.size = d.sz) (hs0 : 0 < d.sz) (hb0 : 0 < bytes)
    (v : Value) (xs : List α) (p : α) (ys : List Value) (hs : a.eval s = v) (hx : a.eval x = .slice (some ⟨W.heap.size, 0, none⟩) 1 1)
    (HO : OwnE d M e base W v xs) (hp : Ever (Mv M v) W (fun W => d.K W p ys)) (HB : Below base w0 W) (hbase : base ≤ W.heap.size) (hl : (xs.length + 1) * bytes ≤ 140737488355328)
    (h : ∀ v1 w1, OwnE d M e base w1 v1 (xs ++ [p]) → Below base w0 w1 → W.grownBy w1 v.ownBlock → (v1.ownBlock = v.ownBlock ∨ ∃ b, v1.ownBlock = some b ∧ W.heap.size ≤ b) → Kc (a.put o.dst v1) w1) :
    if Region.wanted o (yielded ops a.tmps) = true then Oper.wp P o a (W.alloc (.cells ys.toArray e)) Kc Q else Kc (a.put o.dst undef) (W.alloc (.cells ys.toArray e)) := by
  obtain ⟨inner, hown, hr⟩ := HO
  refine step_append_cells base hw s x t e z d.sz bytes ho ht hinfo hz hs0 hb0 v xs.length inner ys hs hx (d.K_len hp.now) (d.K_one hp.now) hown HB hbase hl (fun v1 w1 h1 h2 h3 h4 => ?_)
  have hE : Ext (Mv M v) W w1 := Ext.of_grown h3
  refine h v1 w1 ⟨inner ++ ys, by rw [List.length_append, List.length_singleton]; exact h1, ?_⟩ h2 h3 h4
  exact (hr.imp_ (fun _ _ k => k.grow hE (Mv_grow (w1 := w1) h4))).snoc (hp.grow hE (Mv_grow (w1 := w1) h4)) (d.K_len hp.now)
end
theorem IsOut.app {B : Nat} {W W' : World} {vl vo v' : Value} {o : Option (Int × Int)} (h : IsOut B W vl vo o) (k : Ext (Mv (fun _ => False) vl) W W') (hat : v'.ownBlock = vl.ownBlock ∨ ∃ b, v'.ownBlock = some b ∧ W.heap.size ≤ b) : IsOut B W' v' vo o := by
  cases o with
  | none => exact h
  | some x =>
    obtain ⟨go, h1, h2, h3, h4⟩ := h
    refine ⟨go, h1, Ext.blk k h2 (fun e => e.elim (fun a => a) (fun a => h4 go a.symm rfl)), h3, fun j hj e => ?_⟩
    rcases hat with a | ⟨b, a, hb⟩
    · exact h4 j (a.symm.trans hj) e
    · have := blk_lt h2
      rw [hj] at a
      injection a with a
      omega
set_option maxHeartbeats 4000000 in
set_option maxRecDepth 100000 in
theorem ask_c {B : Nat} {w : World} {g m : Nat} {wait again pause now tk times last : Int} {line : List (Int × Int)} {rest : Int → Int} {out : Option (Int × Int)} (h : IsM B w g m ⟨wait, again, pause, now, tk, line, out, times, last, rest⟩) (hB : B ≤ w.heap.size) (unit : Int) (h0 : 0 ≤ unit) (h1 : unit ≤ 247) (hl : line.length < 64) : Calls Try.prog 11 #[.pointer (some ⟨g, 0, none⟩), .int .i64 unit, .agg #[.int .i64 3, .int .i64 0, .int .i64 1, .slice none 0 0, .int .i64 0, .int .i64 0, .int .i64 0]] w fun e w' => e = .returned (.tuple #[.int .i64 (wrap64 (tk + 1)), .int .i64 0]) ∧ IsM B w' g m ⟨wait, again, pause, now, wrap64 (tk + 1), line ++ [(wrap64 (tk + 1), unit)], out, times, last, rest⟩ ∧ Below B w w' := by
  have q0 : decide (unit < 0) = false := decide_eq_false (by omega)
  have q1 : decide (247 < unit) = false := decide_eq_false (by omega)
  have q2 : decide (64 ≤ (line.length : Int)) = false := decide_eq_false (by omega)
  have HLL := Aside0.mk hl
  clear h0 h1 hl
  have HBW := Aside0.mk hB
  obtain ⟨⟨vl, vo, hb, hl, ho⟩, ⟨f, n, hm, hf⟩, bg, bm⟩ := h
  have BK_g : Aside0 (w.heap[g]? = some (.cells #[.int .i64 wait, .int .i64 again, .int .i64 pause, .int .i64 now, .int .i64 tk, vl, vo, .int .i64 times, .int .i64 last, .map (some m)] 73 (0, 0))) := ⟨hb⟩
  have OB_l : Aside0 (OwnE ks (fun _ => False) 39 B w vl (line)) := ⟨hl⟩
  have MP_m := Aside0.mk hm; have HF := Aside0.mk hf; have BG := Aside0.mk bg; have BM := Aside0.mk bm
  have NE_l_g : Aside0 (∀ k, (vl).ownBlock = some k → k ≠ g) := ⟨ks_ne hl hb (by decide)⟩; have NE_l_m : Aside0 (∀ k, (vl).ownBlock = some k → k ≠ m) := ⟨ks_nm hl hm⟩; have NE_g_m : Aside0 (g ≠ m) := ⟨cell_nm hb hm⟩; have NE_m_g : Aside0 (m ≠ g) := ⟨fun e => NE_g_m.out e.symm⟩; have F_g : Aside0 (∀ k, k = g → B ≤ k ∨ w.heap.size ≤ k) := ⟨fun k e => .inl (by rw [e]; exact bg)⟩; have F_m : Aside0 (∀ k, k = m → B ≤ k ∨ w.heap.size ≤ k) := ⟨fun k e => .inl (by rw [e]; exact bm)⟩
  have HO : Aside0 (IsOut B w vl vo out) := ⟨ho⟩; clear ho
  clear hb hl hm hf bg bm hB
  have XT : Aside0 (Ext (fun k => B ≤ k) w w) := ⟨Ext.refl _ _⟩
  have lc1_0 : w.cell? ⟨g, 0, none⟩ = some (.int .i64 wait) := (blk_cell BK_g.out 0).trans rfl
  have lf1_0 := blk_frozen BK_g.out 0
  have lc1_1 : w.cell? ⟨g, 1, none⟩ = some (.int .i64 again) := (blk_cell BK_g.out 1).trans rfl
  have lf1_1 := blk_frozen BK_g.out 1
  have lc1_2 : w.cell? ⟨g, 2, none⟩ = some (.int .i64 pause) := (blk_cell BK_g.out 2).trans rfl
  have lf1_2 := blk_frozen BK_g.out 2
  have lc1_3 : w.cell? ⟨g, 3, none⟩ = some (.int .i64 now) := (blk_cell BK_g.out 3).trans rfl
  have lf1_3 := blk_frozen BK_g.out 3
  have lc1_4 : w.cell? ⟨g, 4, none⟩ = some (.int .i64 tk) := (blk_cell BK_g.out 4).trans rfl
  have lf1_4 := blk_frozen BK_g.out 4
  have lc1_5 : w.cell? ⟨g, 5, none⟩ = some (vl) := (blk_cell BK_g.out 5).trans rfl
  have lf1_5 := blk_frozen BK_g.out 5
  have lc1_6 : w.cell? ⟨g, 6, none⟩ = some (vo) := (blk_cell BK_g.out 6).trans rfl
  have lf1_6 := blk_frozen BK_g.out 6
  have lc1_7 : w.cell? ⟨g, 7, none⟩ = some (.int .i64 times) := (blk_cell BK_g.out 7).trans rfl
  have lf1_7 := blk_frozen BK_g.out 7
  have lc1_8 : w.cell? ⟨g, 8, none⟩ = some (.int .i64 last) := (blk_cell BK_g.out 8).trans rfl
  have lf1_8 := blk_frozen BK_g.out 8
  have lc1_9 : w.cell? ⟨g, 9, none⟩ = some (.map (some m)) := (blk_cell BK_g.out 9).trans rfl
  have lf1_9 := blk_frozen BK_g.out 9
  have hu31 := Try.underlying31; have hu39 := Try.underlying39
  obtain ⟨A, c, rfl⟩ := OB_l.out.slice
  go_enter Try.func11, Try.ntmps11
  go_upto_region 9 with (first | ((with_reducible refine gate_dst (N := 5) rfl ?_); refine box_event ?hg (N := 5) ?hd (cs := #[.int .i64 3, .int .i64 0, .int .i64 1, .slice none 0 0, .int .i64 0, .int .i64 0, .int .i64 0]) (t := 31) ?hr ?_; (case hd => rfl); (case hg => rfl); (case hr => first | (go_simp; done) | (go_simp; rfl)); intro b hg w1 hbox HBc; have NE_l_b : Aside0 (∀ k, ((Value.slice A line.length c)).ownBlock = some k → k ≠ b) := ⟨fun k hk e => by have := OwnE.lt OB_l.out k hk; omega⟩; have NE_g_b : Aside0 (g ≠ b) := ⟨ne_born (blk_lt BK_g.out) hg⟩; have NE_b_g : Aside0 (b ≠ g) := ⟨fun e => NE_g_b.out e.symm⟩; have NE_m_b : Aside0 (m ≠ b) := ⟨ne_born (IsMap.lt MP_m.out) hg⟩; have NE_b_m : Aside0 (b ≠ m) := ⟨fun e => NE_m_b.out e.symm⟩; have F_b : Aside0 (∀ k, k = b → (fun k => B ≤ k) k ∨ w.heap.size ≤ k) := ⟨fnew hg XT.out.size⟩; have RG_b : Aside0 (w.heap.size ≤ b) := ⟨Nat.le_trans XT.out.size (Nat.le_of_eq hg.symm)⟩; have BG_b : Aside0 (B ≤ b) := ⟨Nat.le_trans HBW.out RG_b.out⟩; clear hg; have OBn_l : Aside0 (OwnE ks (fun _ => False) 39 B w1 (Value.slice A line.length c) (line)) := ⟨ks_mv OB_l.out (Ext.none_ HBc) (fun _ _ e => e)⟩; clear OB_l; have OB_l := OBn_l; clear OBn_l; have HOn : Aside0 (IsOut B w1 (Value.slice A line.length c) vo out) := ⟨HO.out.below HBc⟩; clear HO; have HO := HOn; clear HOn; clear lc1_0 lf1_0 lc1_1 lf1_1 lc1_2 lf1_2 lc1_3 lf1_3 lc1_4 lf1_4 lc1_5 lf1_5 lc1_6 lf1_6 lc1_7 lf1_7 lc1_8 lf1_8 lc1_9 lf1_9; have BKn_g : Aside0 (w1.heap[g]? = some (.cells #[.int .i64 wait, .int .i64 again, .int .i64 pause, .int .i64 now, .int .i64 tk, .slice A line.length c, vo, .int .i64 times, .int .i64 last, .map (some m)] 73 (0, 0))) := ⟨Ext.blk (Ext.none_ HBc) BK_g.out (fun e => e)⟩; have MPn_m : Aside0 (IsMap w1 m (f) (n)) := ⟨IsMap.ext MP_m.out (Ext.none_ HBc) (fun e => e)⟩; have XTn : Aside0 (Ext (fun k => B ≤ k) w w1) := ⟨XT.out.stepB HBc⟩; clear BK_g MP_m XT; have BK_g := BKn_g; have MP_m := MPn_m; have XT := XTn; clear BKn_g MPn_m XTn; have BK_b : Aside0 (w1.heap[b]? = some (.cells #[.int .i64 3, .int .i64 0, .int .i64 1, .slice none 0 0, .int .i64 0, .int .i64 0, .int .i64 0] 31 (0, 0))) := ⟨hbox⟩; clear hbox HBc; have lc2_0 : w1.cell? ⟨g, 0, none⟩ = some (.int .i64 wait) := (blk_cell BK_g.out 0).trans rfl; have lf2_0 := blk_frozen BK_g.out 0; have lc2_1 : w1.cell? ⟨g, 1, none⟩ = some (.int .i64 again) := (blk_cell BK_g.out 1).trans rfl; have lf2_1 := blk_frozen BK_g.out 1; have lc2_2 : w1.cell? ⟨g, 2, none⟩ = some (.int .i64 pause) := (blk_cell BK_g.out 2).trans rfl; have lf2_2 := blk_frozen BK_g.out 2; have lc2_3 : w1.cell? ⟨g, 3, none⟩ = some (.int .i64 now) := (blk_cell BK_g.out 3).trans rfl; have lf2_3 := blk_frozen BK_g.out 3; have lc2_4 : w1.cell? ⟨g, 4, none⟩ = some (.int .i64 tk) := (blk_cell BK_g.out 4).trans rfl; have lf2_4 := blk_frozen BK_g.out 4; have lc2_5 : w1.cell? ⟨g, 5, none⟩ = some (.slice A line.length c) := (blk_cell BK_g.out 5).trans rfl; have lf2_5 := blk_frozen BK_g.out 5; have lc2_6 : w1.cell? ⟨g, 6, none⟩ = some (vo) := (blk_cell BK_g.out 6).trans rfl; have lf2_6 := blk_frozen BK_g.out 6; have lc2_7 : w1.cell? ⟨g, 7, none⟩ = some (.int .i64 times) := (blk_cell BK_g.out 7).trans rfl; have lf2_7 := blk_frozen BK_g.out 7; have lc2_8 : w1.cell? ⟨g, 8, none⟩ = some (.int .i64 last) := (blk_cell BK_g.out 8).trans rfl; have lf2_8 := blk_frozen BK_g.out 8; have lc2_9 : w1.cell? ⟨g, 9, none⟩ = some (.map (some m)) := (blk_cell BK_g.out 9).trans rfl; have lf2_9 := blk_frozen BK_g.out 9; have lc3_0 : w1.cell? ⟨b, 0, none⟩ = some (.int .i64 3) := (blk_cell BK_b.out 0).trans rfl; have lf3_0 := blk_frozen BK_b.out 0; have lc3_1 : w1.cell? ⟨b, 1, none⟩ = some (.int .i64 0) := (blk_cell BK_b.out 1).trans rfl; have lf3_1 := blk_frozen BK_b.out 1; have lc3_2 : w1.cell? ⟨b, 2, none⟩ = some (.int .i64 1) := (blk_cell BK_b.out 2).trans rfl; have lf3_2 := blk_frozen BK_b.out 2; have lc3_3 : w1.cell? ⟨b, 3, none⟩ = some (.slice none 0 0) := (blk_cell BK_b.out 3).trans rfl; have lf3_3 := blk_frozen BK_b.out 3; have lc3_4 : w1.cell? ⟨b, 4, none⟩ = some (.int .i64 0) := (blk_cell BK_b.out 4).trans rfl; have lf3_4 := blk_frozen BK_b.out 4; have lc3_5 : w1.cell? ⟨b, 5, none⟩ = some (.int .i64 0) := (blk_cell BK_b.out 5).trans rfl; have lf3_5 := blk_frozen BK_b.out 5; have lc3_6 : w1.cell? ⟨b, 6, none⟩ = some (.int .i64 0) := (blk_cell BK_b.out 6).trans rfl; have lf3_6 := blk_frozen BK_b.out 6) | (go_at_call 29; refine (check_c _).mono ?_; rintro e w2 ⟨rfl, HBc⟩; have OBn_l : Aside0 (OwnE ks (fun _ => False) 39 B w2 (Value.slice A line.length c) (line)) := ⟨ks_mv OB_l.out (Ext.none_ HBc) (fun _ _ e => e)⟩; clear OB_l; have OB_l := OBn_l; clear OBn_l; have HOn : Aside0 (IsOut B w2 (Value.slice A line.length c) vo out) := ⟨HO.out.below HBc⟩; clear HO; have HO := HOn; clear HOn; clear lc2_0 lf2_0 lc2_1 lf2_1 lc2_2 lf2_2 lc2_3 lf2_3 lc2_4 lf2_4 lc2_5 lf2_5 lc2_6 lf2_6 lc2_7 lf2_7 lc2_8 lf2_8 lc2_9 lf2_9 lc3_0 lf3_0 lc3_1 lf3_1 lc3_2 lf3_2 lc3_3 lf3_3 lc3_4 lf3_4 lc3_5 lf3_5 lc3_6 lf3_6; have BKn_g : Aside0 (w2.heap[g]? = some (.cells #[.int .i64 wait, .int .i64 again, .int .i64 pause, .int .i64 now, .int .i64 tk, .slice A line.length c, vo, .int .i64 times, .int .i64 last, .map (some m)] 73 (0, 0))) := ⟨Ext.blk (Ext.none_ HBc) BK_g.out (fun e => e)⟩; have BKn_b : Aside0 (w2.heap[b]? = some (.cells #[.int .i64 3, .int .i64 0, .int .i64 1, .slice none 0 0, .int .i64 0, .int .i64 0, .int .i64 0] 31 (0, 0))) := ⟨Ext.blk (Ext.none_ HBc) BK_b.out (fun e => e)⟩; have MPn_m : Aside0 (IsMap w2 m (f) (n)) := ⟨IsMap.ext MP_m.out (Ext.none_ HBc) (fun e => e)⟩; have XTn : Aside0 (Ext (fun k => B ≤ k) w w2) := ⟨XT.out.stepB HBc⟩; clear BK_g BK_b MP_m XT; have BK_g := BKn_g; have BK_b := BKn_b; have MP_m := MPn_m; have XT := XTn; clear BKn_g BKn_b MPn_m XTn; clear HBc; have lc4_0 : w2.cell? ⟨g, 0, none⟩ = some (.int .i64 wait) := (blk_cell BK_g.out 0).trans rfl; have lf4_0 := blk_frozen BK_g.out 0; have lc4_1 : w2.cell? ⟨g, 1, none⟩ = some (.int .i64 again) := (blk_cell BK_g.out 1).trans rfl; have lf4_1 := blk_frozen BK_g.out 1; have lc4_2 : w2.cell? ⟨g, 2, none⟩ = some (.int .i64 pause) := (blk_cell BK_g.out 2).trans rfl; have lf4_2 := blk_frozen BK_g.out 2; have lc4_3 : w2.cell? ⟨g, 3, none⟩ = some (.int .i64 now) := (blk_cell BK_g.out 3).trans rfl; have lf4_3 := blk_frozen BK_g.out 3; have lc4_4 : w2.cell? ⟨g, 4, none⟩ = some (.int .i64 tk) := (blk_cell BK_g.out 4).trans rfl; have lf4_4 := blk_frozen BK_g.out 4; have lc4_5 : w2.cell? ⟨g, 5, none⟩ = some (.slice A line.length c) := (blk_cell BK_g.out 5).trans rfl; have lf4_5 := blk_frozen BK_g.out 5; have lc4_6 : w2.cell? ⟨g, 6, none⟩ = some (vo) := (blk_cell BK_g.out 6).trans rfl; have lf4_6 := blk_frozen BK_g.out 6; have lc4_7 : w2.cell? ⟨g, 7, none⟩ = some (.int .i64 times) := (blk_cell BK_g.out 7).trans rfl; have lf4_7 := blk_frozen BK_g.out 7; have lc4_8 : w2.cell? ⟨g, 8, none⟩ = some (.int .i64 last) := (blk_cell BK_g.out 8).trans rfl; have lf4_8 := blk_frozen BK_g.out 8; have lc4_9 : w2.cell? ⟨g, 9, none⟩ = some (.map (some m)) := (blk_cell BK_g.out 9).trans rfl; have lf4_9 := blk_frozen BK_g.out 9; have lc5_0 : w2.cell? ⟨b, 0, none⟩ = some (.int .i64 3) := (blk_cell BK_b.out 0).trans rfl; have lf5_0 := blk_frozen BK_b.out 0; have lc5_1 : w2.cell? ⟨b, 1, none⟩ = some (.int .i64 0) := (blk_cell BK_b.out 1).trans rfl; have lf5_1 := blk_frozen BK_b.out 1; have lc5_2 : w2.cell? ⟨b, 2, none⟩ = some (.int .i64 1) := (blk_cell BK_b.out 2).trans rfl; have lf5_2 := blk_frozen BK_b.out 2; have lc5_3 : w2.cell? ⟨b, 3, none⟩ = some (.slice none 0 0) := (blk_cell BK_b.out 3).trans rfl; have lf5_3 := blk_frozen BK_b.out 3; have lc5_4 : w2.cell? ⟨b, 4, none⟩ = some (.int .i64 0) := (blk_cell BK_b.out 4).trans rfl; have lf5_4 := blk_frozen BK_b.out 4; have lc5_5 : w2.cell? ⟨b, 5, none⟩ = some (.int .i64 0) := (blk_cell BK_b.out 5).trans rfl; have lf5_5 := blk_frozen BK_b.out 5; have lc5_6 : w2.cell? ⟨b, 6, none⟩ = some (.int .i64 0) := (blk_cell BK_b.out 6).trans rfl; have lf5_6 := blk_frozen BK_b.out 6) | ((with_reducible refine gate_store (p := 36) rfl ?_); refine store_event (w1 := ?_) rfl (p := 36) rfl rfl ?hr ?_; rotate_left; (case hr => go_simp; rfl); intro w3 hw_; obtain ⟨hput, HEc⟩ := put1 (cs' := #[.int .i64 wait, .int .i64 again, .int .i64 pause, .int .i64 now, .int .i64 (wrap64 (tk + 1)), .slice A line.length c, vo, .int .i64 times, .int .i64 last, .map (some m)]) hw_ BK_g.out rfl; clear hw_; have OBn_l : Aside0 (OwnE ks (fun _ => False) 39 B w3 (Value.slice A line.length c) (line)) := ⟨ks_mv OB_l.out HEc NE_l_g.out⟩; clear OB_l; have OB_l := OBn_l; clear OBn_l; have HOn : Aside0 (IsOut B w3 (Value.slice A line.length c) vo out) := ⟨HO.out.set HEc BK_g.out (by decide)⟩; clear HO; have HO := HOn; clear HOn; clear lc4_0 lf4_0 lc4_1 lf4_1 lc4_2 lf4_2 lc4_3 lf4_3 lc4_4 lf4_4 lc4_5 lf4_5 lc4_6 lf4_6 lc4_7 lf4_7 lc4_8 lf4_8 lc4_9 lf4_9 lc5_0 lf5_0 lc5_1 lf5_1 lc5_2 lf5_2 lc5_3 lf5_3 lc5_4 lf5_4 lc5_5 lf5_5 lc5_6 lf5_6; have BKn_b : Aside0 (w3.heap[b]? = some (.cells #[.int .i64 3, .int .i64 0, .int .i64 1, .slice none 0 0, .int .i64 0, .int .i64 0, .int .i64 0] 31 (0, 0))) := ⟨Ext.blk HEc BK_b.out NE_b_g.out⟩; have MPn_m : Aside0 (IsMap w3 m (f) (n)) := ⟨IsMap.ext MP_m.out HEc NE_m_g.out⟩; have XTn : Aside0 (Ext (fun k => B ≤ k) w w3) := ⟨XT.out.step HEc (F_g.out)⟩; clear BK_b MP_m XT; have BK_b := BKn_b; have MP_m := MPn_m; have XT := XTn; clear BKn_b MPn_m XTn; clear BK_g; have BK_g : Aside0 (w3.heap[g]? = some (.cells #[.int .i64 wait, .int .i64 again, .int .i64 pause, .int .i64 now, .int .i64 (wrap64 (tk + 1)), .slice A line.length c, vo, .int .i64 times, .int .i64 last, .map (some m)] 73 (0, 0))) := ⟨hput⟩; clear hput HEc; have lc6_0 : w3.cell? ⟨g, 0, none⟩ = some (.int .i64 wait) := (blk_cell BK_g.out 0).trans rfl; have lf6_0 := blk_frozen BK_g.out 0; have lc6_1 : w3.cell? ⟨g, 1, none⟩ = some (.int .i64 again) := (blk_cell BK_g.out 1).trans rfl; have lf6_1 := blk_frozen BK_g.out 1; have lc6_2 : w3.cell? ⟨g, 2, none⟩ = some (.int .i64 pause) := (blk_cell BK_g.out 2).trans rfl; have lf6_2 := blk_frozen BK_g.out 2; have lc6_3 : w3.cell? ⟨g, 3, none⟩ = some (.int .i64 now) := (blk_cell BK_g.out 3).trans rfl; have lf6_3 := blk_frozen BK_g.out 3; have lc6_4 : w3.cell? ⟨g, 4, none⟩ = some (.int .i64 (wrap64 (tk + 1))) := (blk_cell BK_g.out 4).trans rfl; have lf6_4 := blk_frozen BK_g.out 4; have lc6_5 : w3.cell? ⟨g, 5, none⟩ = some (.slice A line.length c) := (blk_cell BK_g.out 5).trans rfl; have lf6_5 := blk_frozen BK_g.out 5; have lc6_6 : w3.cell? ⟨g, 6, none⟩ = some (vo) := (blk_cell BK_g.out 6).trans rfl; have lf6_6 := blk_frozen BK_g.out 6; have lc6_7 : w3.cell? ⟨g, 7, none⟩ = some (.int .i64 times) := (blk_cell BK_g.out 7).trans rfl; have lf6_7 := blk_frozen BK_g.out 7; have lc6_8 : w3.cell? ⟨g, 8, none⟩ = some (.int .i64 last) := (blk_cell BK_g.out 8).trans rfl; have lf6_8 := blk_frozen BK_g.out 8; have lc6_9 : w3.cell? ⟨g, 9, none⟩ = some (.map (some m)) := (blk_cell BK_g.out 9).trans rfl; have lf6_9 := blk_frozen BK_g.out 9; have lc7_0 : w3.cell? ⟨b, 0, none⟩ = some (.int .i64 3) := (blk_cell BK_b.out 0).trans rfl; have lf7_0 := blk_frozen BK_b.out 0; have lc7_1 : w3.cell? ⟨b, 1, none⟩ = some (.int .i64 0) := (blk_cell BK_b.out 1).trans rfl; have lf7_1 := blk_frozen BK_b.out 1; have lc7_2 : w3.cell? ⟨b, 2, none⟩ = some (.int .i64 1) := (blk_cell BK_b.out 2).trans rfl; have lf7_2 := blk_frozen BK_b.out 2; have lc7_3 : w3.cell? ⟨b, 3, none⟩ = some (.slice none 0 0) := (blk_cell BK_b.out 3).trans rfl; have lf7_3 := blk_frozen BK_b.out 3; have lc7_4 : w3.cell? ⟨b, 4, none⟩ = some (.int .i64 0) := (blk_cell BK_b.out 4).trans rfl; have lf7_4 := blk_frozen BK_b.out 4; have lc7_5 : w3.cell? ⟨b, 5, none⟩ = some (.int .i64 0) := (blk_cell BK_b.out 5).trans rfl; have lf7_5 := blk_frozen BK_b.out 5; have lc7_6 : w3.cell? ⟨b, 6, none⟩ = some (.int .i64 0) := (blk_cell BK_b.out 6).trans rfl; have lf7_6 := blk_frozen BK_b.out 6) | (go_at_call 30; refine (clone_nil _).mono ?_; rintro e w' ⟨rfl, rfl⟩) | ((with_reducible refine gate_store (p := 40) rfl ?_); refine store_event (w1 := ?_) rfl (p := 40) rfl rfl ?hr ?_; rotate_left; (case hr => go_simp; rfl); intro w4 hw_; obtain ⟨hput, HEc⟩ := put1 (cs' := #[.int .i64 3, .int .i64 0, .int .i64 1, .slice none 0 0, .int .i64 0, .int .i64 0, .int .i64 0]) hw_ BK_b.out rfl; clear hw_; have OBn_l : Aside0 (OwnE ks (fun _ => False) 39 B w4 (Value.slice A line.length c) (line)) := ⟨ks_mv OB_l.out HEc NE_l_b.out⟩; clear OB_l; have OB_l := OBn_l; clear OBn_l; have HOn : Aside0 (IsOut B w4 (Value.slice A line.length c) vo out) := ⟨HO.out.set HEc BK_b.out (by decide)⟩; clear HO; have HO := HOn; clear HOn; clear lc6_0 lf6_0 lc6_1 lf6_1 lc6_2 lf6_2 lc6_3 lf6_3 lc6_4 lf6_4 lc6_5 lf6_5 lc6_6 lf6_6 lc6_7 lf6_7 lc6_8 lf6_8 lc6_9 lf6_9 lc7_0 lf7_0 lc7_1 lf7_1 lc7_2 lf7_2 lc7_3 lf7_3 lc7_4 lf7_4 lc7_5 lf7_5 lc7_6 lf7_6; have BKn_g : Aside0 (w4.heap[g]? = some (.cells #[.int .i64 wait, .int .i64 again, .int .i64 pause, .int .i64 now, .int .i64 (wrap64 (tk + 1)), .slice A line.length c, vo, .int .i64 times, .int .i64 last, .map (some m)] 73 (0, 0))) := ⟨Ext.blk HEc BK_g.out NE_g_b.out⟩; have MPn_m : Aside0 (IsMap w4 m (f) (n)) := ⟨IsMap.ext MP_m.out HEc NE_m_b.out⟩; have XTn : Aside0 (Ext (fun k => B ≤ k) w w4) := ⟨XT.out.step HEc (F_b.out)⟩; clear BK_g MP_m XT; have BK_g := BKn_g; have MP_m := MPn_m; have XT := XTn; clear BKn_g MPn_m XTn; clear BK_b; have BK_b : Aside0 (w4.heap[b]? = some (.cells #[.int .i64 3, .int .i64 0, .int .i64 1, .slice none 0 0, .int .i64 0, .int .i64 0, .int .i64 0] 31 (0, 0))) := ⟨hput⟩; clear hput HEc; have lc8_0 : w4.cell? ⟨g, 0, none⟩ = some (.int .i64 wait) := (blk_cell BK_g.out 0).trans rfl; have lf8_0 := blk_frozen BK_g.out 0; have lc8_1 : w4.cell? ⟨g, 1, none⟩ = some (.int .i64 again) := (blk_cell BK_g.out 1).trans rfl; have lf8_1 := blk_frozen BK_g.out 1; have lc8_2 : w4.cell? ⟨g, 2, none⟩ = some (.int .i64 pause) := (blk_cell BK_g.out 2).trans rfl; have lf8_2 := blk_frozen BK_g.out 2; have lc8_3 : w4.cell? ⟨g, 3, none⟩ = some (.int .i64 now) := (blk_cell BK_g.out 3).trans rfl; have lf8_3 := blk_frozen BK_g.out 3; have lc8_4 : w4.cell? ⟨g, 4, none⟩ = some (.int .i64 (wrap64 (tk + 1))) := (blk_cell BK_g.out 4).trans rfl; have lf8_4 := blk_frozen BK_g.out 4; have lc8_5 : w4.cell? ⟨g, 5, none⟩ = some (.slice A line.length c) := (blk_cell BK_g.out 5).trans rfl; have lf8_5 := blk_frozen BK_g.out 5; have lc8_6 : w4.cell? ⟨g, 6, none⟩ = some (vo) := (blk_cell BK_g.out 6).trans rfl; have lf8_6 := blk_frozen BK_g.out 6; have lc8_7 : w4.cell? ⟨g, 7, none⟩ = some (.int .i64 times) := (blk_cell BK_g.out 7).trans rfl; have lf8_7 := blk_frozen BK_g.out 7; have lc8_8 : w4.cell? ⟨g, 8, none⟩ = some (.int .i64 last) := (blk_cell BK_g.out 8).trans rfl; have lf8_8 := blk_frozen BK_g.out 8; have lc8_9 : w4.cell? ⟨g, 9, none⟩ = some (.map (some m)) := (blk_cell BK_g.out 9).trans rfl; have lf8_9 := blk_frozen BK_g.out 9; have lc9_0 : w4.cell? ⟨b, 0, none⟩ = some (.int .i64 3) := (blk_cell BK_b.out 0).trans rfl; have lf9_0 := blk_frozen BK_b.out 0; have lc9_1 : w4.cell? ⟨b, 1, none⟩ = some (.int .i64 0) := (blk_cell BK_b.out 1).trans rfl; have lf9_1 := blk_frozen BK_b.out 1; have lc9_2 : w4.cell? ⟨b, 2, none⟩ = some (.int .i64 1) := (blk_cell BK_b.out 2).trans rfl; have lf9_2 := blk_frozen BK_b.out 2; have lc9_3 : w4.cell? ⟨b, 3, none⟩ = some (.slice none 0 0) := (blk_cell BK_b.out 3).trans rfl; have lf9_3 := blk_frozen BK_b.out 3; have lc9_4 : w4.cell? ⟨b, 4, none⟩ = some (.int .i64 0) := (blk_cell BK_b.out 4).trans rfl; have lf9_4 := blk_frozen BK_b.out 4; have lc9_5 : w4.cell? ⟨b, 5, none⟩ = some (.int .i64 0) := (blk_cell BK_b.out 5).trans rfl; have lf9_5 := blk_frozen BK_b.out 5; have lc9_6 : w4.cell? ⟨b, 6, none⟩ = some (.int .i64 0) := (blk_cell BK_b.out 6).trans rfl; have lf9_6 := blk_frozen BK_b.out 6))
  clear lc8_0 lf8_0 lc8_1 lf8_1 lc8_2 lf8_2 lc8_3 lf8_3 lc8_4 lf8_4 lc8_5 lf8_5 lc8_6 lf8_6 lc8_7 lf8_7 lc8_8 lf8_8 lc8_9 lf8_9 lc9_0 lf9_0 lc9_1 lf9_1 lc9_2 lf9_2 lc9_3 lf9_3 lc9_4 lf9_4 lc9_5 lf9_5 lc9_6 lf9_6
  refine start_ (n := 17) (S := fun W => W.cell? ⟨g, 4, none⟩ = some (.int .i64 (wrap64 (tk + 1))) ∧ W.cell? ⟨g, 5, none⟩ = some (.slice A line.length c) ∧ W.cell? ⟨b, 0, none⟩ = some (.int .i64 3) ∧ W.cell? ⟨b, 1, none⟩ = some (.int .i64 0) ∧ W.cell? ⟨b, 2, none⟩ = some (.int .i64 1) ∧ W.cell? ⟨b, 3, none⟩ = some (.slice none 0 0) ∧ W.cell? ⟨b, 4, none⟩ = some (.int .i64 0) ∧ W.cell? ⟨b, 5, none⟩ = some (.int .i64 0) ∧ W.cell? ⟨b, 6, none⟩ = some (.int .i64 0)) (ds := [16]) #[false, false, false, false, false, false, false, false, false, false, false, false, false, false, false, false, false] (by kernel_rfl) rfl rfl ?_ (fun hHeld => ?_)
  · exact ⟨(blk_cell (by (with_reducible repeat (first | refine blk_drewN ?_ _ | refine blk_drew ?_ | refine blk_alloc ?_ _)); exact BK_g.out) 4).trans rfl, (blk_cell (by (with_reducible repeat (first | refine blk_drewN ?_ _ | refine blk_drew ?_ | refine blk_alloc ?_ _)); exact BK_g.out) 5).trans rfl, (blk_cell (by (with_reducible repeat (first | refine blk_drewN ?_ _ | refine blk_drew ?_ | refine blk_alloc ?_ _)); exact BK_b.out) 0).trans rfl, (blk_cell (by (with_reducible repeat (first | refine blk_drewN ?_ _ | refine blk_drew ?_ | refine blk_alloc ?_ _)); exact BK_b.out) 1).trans rfl, (blk_cell (by (with_reducible repeat (first | refine blk_drewN ?_ _ | refine blk_drew ?_ | refine blk_alloc ?_ _)); exact BK_b.out) 2).trans rfl, (blk_cell (by (with_reducible repeat (first | refine blk_drewN ?_ _ | refine blk_drew ?_ | refine blk_alloc ?_ _)); exact BK_b.out) 3).trans rfl, (blk_cell (by (with_reducible repeat (first | refine blk_drewN ?_ _ | refine blk_drew ?_ | refine blk_alloc ?_ _)); exact BK_b.out) 4).trans rfl, (blk_cell (by (with_reducible repeat (first | refine blk_drewN ?_ _ | refine blk_drew ?_ | refine blk_alloc ?_ _)); exact BK_b.out) 5).trans rfl, (blk_cell (by (with_reducible repeat (first | refine blk_drewN ?_ _ | refine blk_drew ?_ | refine blk_alloc ?_ _)); exact BK_b.out) 6).trans rfl⟩
  refine pure_ (i := 0) (N := some 41) (v := ?_) (a' := ?_) #[true, false, false, false, false, false, false, false, false, false, false, false, false, false, false, false, false] rfl rfl (by kernel_rfl) (fun _ _ _ h => h) (Or.inl ⟨by rfl, ?_⟩) ?_ ?_
  rotate_left
  · intro w'
    go_simp
    with_reducible rfl
  rotate_left
  · simp only [Act.put, List.setIfInBounds_toArray, List.set_cons_zero, List.set_cons_succ, i64_w, i32_w]
    rfl
  refine pure_ (i := 1) (N := some 42) (v := ?_) (a' := ?_) #[true, true, false, false, false, false, false, false, false, false, false, false, false, false, false, false, false] rfl rfl (by kernel_rfl) (fun _ _ _ h => h) (Or.inl ⟨by rfl, ?_⟩) ?_ ?_
  rotate_left
  · intro w'
    go_simp
    with_reducible rfl
  rotate_left
  · simp only [Act.put, List.setIfInBounds_toArray, List.set_cons_zero, List.set_cons_succ, i64_w, i32_w]
    rfl
  refine pure_ (i := 2) (N := some 43) (v := ?_) (a' := ?_) #[true, true, true, false, false, false, false, false, false, false, false, false, false, false, false, false, false] rfl rfl (by kernel_rfl) (fun _ _ _ h => h) (Or.inl ⟨by rfl, ?_⟩) ?_ ?_
  rotate_left
  · intro w'
    go_simp
    with_reducible rfl
  rotate_left
  · simp only [Act.put, List.setIfInBounds_toArray, List.set_cons_zero, List.set_cons_succ, i64_w, i32_w]
    rfl
  refine pure_ (i := 3) (N := some 44) (v := ?_) (a' := ?_) #[true, true, true, true, false, false, false, false, false, false, false, false, false, false, false, false, false] rfl rfl (by kernel_rfl) (fun _ _ _ h => h) (Or.inl ⟨by rfl, ?_⟩) ?_ ?_
  rotate_left
  · intro w'
    go_simp
    with_reducible rfl
  rotate_left
  · simp only [Act.put, List.setIfInBounds_toArray, List.set_cons_zero, List.set_cons_succ, i64_w, i32_w]
    rfl
  refine take_ (i := 4) (N := some 45) (v := ?_) (a' := ?_) #[true, true, true, true, true, false, false, false, false, false, false, false, false, false, false, false, false] rfl rfl (by kernel_rfl) (fun _ _ _ h => h) (Or.inl ⟨by rfl, ?_⟩) hHeld ?_ ?_
  rotate_left
  · rintro w' ⟨s0, s1, s2, s3, s4, s5, s6, s7, s8⟩
    go_simp
    with_reducible rfl
  rotate_left
  · simp only [Act.put, List.setIfInBounds_toArray, List.set_cons_zero, List.set_cons_succ, i64_w, i32_w]
    rfl
  refine pure_ (i := 5) (N := some 46) (v := ?_) (a' := ?_) #[true, true, true, true, true, true, false, false, false, false, false, false, false, false, false, false, false] rfl rfl (by kernel_rfl) (fun _ _ _ h => h) (Or.inl ⟨by rfl, ?_⟩) ?_ ?_
  rotate_left
  · intro w'
    go_simp
    with_reducible rfl
  rotate_left
  · simp only [Act.put, List.setIfInBounds_toArray, List.set_cons_zero, List.set_cons_succ, i64_w, i32_w]
    rfl
  refine pure_ (i := 6) (N := some 47) (v := ?_) (a' := ?_) #[true, true, true, true, true, true, true, false, false, false, false, false, false, false, false, false, false] rfl rfl (by kernel_rfl) (fun _ _ _ h => h) (Or.inl ⟨by rfl, ?_⟩) ?_ ?_
  rotate_left
  · intro w'
    go_simp
    with_reducible rfl
  rotate_left
  · simp only [Act.put, List.setIfInBounds_toArray, List.set_cons_zero, List.set_cons_succ, i64_w, i32_w]
    rfl
  refine pure_ (i := 7) (N := some 48) (v := ?_) (a' := ?_) #[true, true, true, true, true, true, true, true, false, false, false, false, false, false, false, false, false] rfl rfl (by kernel_rfl) (fun _ _ _ h => h) (Or.inl ⟨by rfl, ?_⟩) ?_ ?_
  rotate_left
  · intro w'
    go_simp
    with_reducible rfl
  rotate_left
  · simp only [Act.put, List.setIfInBounds_toArray, List.set_cons_zero, List.set_cons_succ, i64_w, i32_w]
    rfl
  refine take_ (i := 8) (N := some 49) (v := ?_) (a' := ?_) #[true, true, true, true, true, true, true, true, true, false, false, false, false, false, false, false, false] rfl rfl (by kernel_rfl) (fun _ _ _ h => h) (Or.inl ⟨by rfl, ?_⟩) hHeld ?_ ?_
  rotate_left
  · rintro w' ⟨s0, s1, s2, s3, s4, s5, s6, s7, s8⟩
    go_simp
    with_reducible rfl
  rotate_left
  · simp only [Act.put, List.setIfInBounds_toArray, List.set_cons_zero, List.set_cons_succ, i64_w, i32_w]
    rfl
  refine pure_ (i := 9) (N := some 50) (v := ?_) (a' := ?_) #[true, true, true, true, true, true, true, true, true, true, false, false, false, false, false, false, false] rfl rfl (by kernel_rfl) (fun _ _ _ h => h) (Or.inl ⟨by rfl, ?_⟩) ?_ ?_
  rotate_left
  · intro w'
    go_simp
    with_reducible rfl
  rotate_left
  · simp only [Act.put, List.setIfInBounds_toArray, List.set_cons_zero, List.set_cons_succ, i64_w, i32_w]
    rfl
  refine take_ (i := 10) (N := some 51) (v := ?_) (a' := ?_) #[true, true, true, true, true, true, true, true, true, true, true, false, false, false, false, false, false] rfl rfl (by kernel_rfl) (fun _ _ _ h => h) (Or.inl ⟨by rfl, ?_⟩) hHeld ?_ ?_
  rotate_left
  · rintro w' ⟨s0, s1, s2, s3, s4, s5, s6, s7, s8⟩
    go_simp
    with_reducible rfl
  rotate_left
  · simp only [Act.put, List.setIfInBounds_toArray, List.set_cons_zero, List.set_cons_succ, i64_w, i32_w]
    rfl
  refine pure_ (i := 11) (N := some 52) (v := ?_) (a' := ?_) #[true, true, true, true, true, true, true, true, true, true, true, true, false, false, false, false, false] rfl rfl (by kernel_rfl) (fun _ _ _ h => h) (Or.inl ⟨by rfl, ?_⟩) ?_ ?_
  rotate_left
  · intro w'
    go_simp
    with_reducible rfl
  rotate_left
  · simp only [Act.put, List.setIfInBounds_toArray, List.set_cons_zero, List.set_cons_succ, i64_w, i32_w]
    rfl
  refine one_ (i := 12) (N := some 53) #[true, true, true, true, true, true, true, true, true, true, true, true, true, false, false, false, false] rfl rfl (by kernel_rfl) (by decide) (fun K hK => ?_)
  refine value_ (v := ?vv) (w1 := ?ww) (by rfl) rfl ?hr ?kk
  case hr => (go_simp; refine And.intro ?_ ?_ <;> rfl)
  refine hK.out _ _ ?_ (fun hHeld => ?_)
  · exact ⟨(blk_cell (by (with_reducible repeat (first | refine blk_drewN ?_ _ | refine blk_drew ?_ | refine blk_alloc ?_ _)); exact BK_g.out) 4).trans rfl, (blk_cell (by (with_reducible repeat (first | refine blk_drewN ?_ _ | refine blk_drew ?_ | refine blk_alloc ?_ _)); exact BK_g.out) 5).trans rfl, (blk_cell (by (with_reducible repeat (first | refine blk_drewN ?_ _ | refine blk_drew ?_ | refine blk_alloc ?_ _)); exact BK_b.out) 0).trans rfl, (blk_cell (by (with_reducible repeat (first | refine blk_drewN ?_ _ | refine blk_drew ?_ | refine blk_alloc ?_ _)); exact BK_b.out) 1).trans rfl, (blk_cell (by (with_reducible repeat (first | refine blk_drewN ?_ _ | refine blk_drew ?_ | refine blk_alloc ?_ _)); exact BK_b.out) 2).trans rfl, (blk_cell (by (with_reducible repeat (first | refine blk_drewN ?_ _ | refine blk_drew ?_ | refine blk_alloc ?_ _)); exact BK_b.out) 3).trans rfl, (blk_cell (by (with_reducible repeat (first | refine blk_drewN ?_ _ | refine blk_drew ?_ | refine blk_alloc ?_ _)); exact BK_b.out) 4).trans rfl, (blk_cell (by (with_reducible repeat (first | refine blk_drewN ?_ _ | refine blk_drew ?_ | refine blk_alloc ?_ _)); exact BK_b.out) 5).trans rfl, (blk_cell (by (with_reducible repeat (first | refine blk_drewN ?_ _ | refine blk_drew ?_ | refine blk_alloc ?_ _)); exact BK_b.out) 6).trans rfl⟩
  clear hK K
  refine norm_ (a' := ?_) ?_ ?_
  rotate_left
  · show Act.put _ (some 53) _ = _
    simp only [Act.put, List.setIfInBounds_toArray, List.set_cons_zero, List.set_cons_succ, i64_w, i32_w]
    rfl
  refine one_ (i := 13) (N := some 54) #[true, true, true, true, true, true, true, true, true, true, true, true, true, true, false, false, false] rfl rfl (by kernel_rfl) (by decide) (fun K hK => ?_)
  refine ev_append_step ks (M := fun _ => False) (w0 := w4) (W := w4.drew) B (by rfl) (.tmp 45) (.tmp 53) 34 39 (.agg #[.int .i64 0, .int .i64 0, .int .i64 0, .int .i64 0, .int .i64 0, .slice none 0 0, .int .i64 0, .int .i64 0, .int .i64 0]) 88 rfl Try.underlying34 info39 rfl (by decide) (by decide) (Value.slice A line.length c) line (wrap64 (tk + 1), unit) [.int .i64 (wrap64 (tk + 1)), .int .i64 (unit), .int .i64 3, .int .i64 0, .int .i64 1, .slice none 0 0, .int .i64 0, .int .i64 0, .int .i64 0] rfl rfl ?aO ?aP ?aB ?aS ?aL ?_
  case aO => exact ks_mv OB_l.out (Ext.none_ (by repeat (first | exact Below.refl _ _ | apply pw_below_drewN | apply below_drew1))) (fun _ _ e => e)
  case aP => exact Ever.triv (p := _ = sc _) rfl
  case aB => exact (by repeat (first | exact Below.refl _ _ | apply pw_below_drewN | apply below_drew1))
  case aS => exact Nat.le_trans HBW.out XT.out.size
  case aL => (have := HLL.out; omega)
  intro v9 w9 HO9 HB9 hg9 hat9
  have HEc : Ext (Mv (fun _ => False) (Value.slice A line.length c)) w4 w9 := (Ext.of_below (by repeat (first | exact Below.refl _ _ | apply pw_below_drewN | apply below_drew1))).trans (Ext.of_grown hg9)
  have BKn_g : Aside0 (w9.heap[g]? = some (.cells #[.int .i64 wait, .int .i64 again, .int .i64 pause, .int .i64 now, .int .i64 (wrap64 (tk + 1)), .slice A line.length c, vo, .int .i64 times, .int .i64 last, .map (some m)] 73 (0, 0))) := ⟨Ext.blk HEc BK_g.out (fun e => e.elim (fun a => a) (fun a => NE_l_g.out g a.symm rfl))⟩
  have BKn_b : Aside0 (w9.heap[b]? = some (.cells #[.int .i64 3, .int .i64 0, .int .i64 1, .slice none 0 0, .int .i64 0, .int .i64 0, .int .i64 0] 31 (0, 0))) := ⟨Ext.blk HEc BK_b.out (fun e => e.elim (fun a => a) (fun a => NE_l_b.out b a.symm rfl))⟩
  have MPn : Aside0 (IsMap w9 m f n) := ⟨MP_m.out.ext HEc (fun e => e.elim (fun a => a) (fun a => NE_l_m.out m a.symm rfl))⟩
  have HOn : Aside0 (IsOut B w9 v9 vo out) := ⟨IsOut.app HO.out HEc hat9⟩
  have XTn : Aside0 (Ext (fun k => B ≤ k) w w9) := ⟨XT.out.grow HEc (fun k e => e.elim (fun a => a.elim) (fun a => .inl (OB_l.out.base_le k a.symm)))⟩
  have LNn : Aside0 (∀ k, v9.ownBlock = some k → k ≠ g) := ⟨ks_ne HO9 BKn_g.out (by decide)⟩
  have HOw := Aside0.mk HO9
  clear HO9 HB9 hg9 hat9 HEc BK_g BK_b MP_m HO XT OB_l NE_l_g NE_l_m NE_l_b
  have BK_g := BKn_g; have BK_b := BKn_b; have MP_m := MPn; have HO := HOn; have XT := XTn; have NE_l_g := LNn; have OB_l := HOw; clear BKn_g BKn_b MPn HOn XTn LNn HOw
  obtain ⟨A9, c9, e9⟩ := OB_l.out.slice
  rw [show (line ++ [(wrap64 (tk + 1), unit)]).length = line.length + 1 from by simp] at e9
  subst e9
  refine hK.out _ _ ?_ (fun hHeld => ?_)
  · exact ⟨(blk_cell (by (with_reducible repeat (first | refine blk_drewN ?_ _ | refine blk_drew ?_ | refine blk_alloc ?_ _)); exact BK_g.out) 4).trans rfl, (blk_cell (by (with_reducible repeat (first | refine blk_drewN ?_ _ | refine blk_drew ?_ | refine blk_alloc ?_ _)); exact BK_g.out) 5).trans rfl, (blk_cell (by (with_reducible repeat (first | refine blk_drewN ?_ _ | refine blk_drew ?_ | refine blk_alloc ?_ _)); exact BK_b.out) 0).trans rfl, (blk_cell (by (with_reducible repeat (first | refine blk_drewN ?_ _ | refine blk_drew ?_ | refine blk_alloc ?_ _)); exact BK_b.out) 1).trans rfl, (blk_cell (by (with_reducible repeat (first | refine blk_drewN ?_ _ | refine blk_drew ?_ | refine blk_alloc ?_ _)); exact BK_b.out) 2).trans rfl, (blk_cell (by (with_reducible repeat (first | refine blk_drewN ?_ _ | refine blk_drew ?_ | refine blk_alloc ?_ _)); exact BK_b.out) 3).trans rfl, (blk_cell (by (with_reducible repeat (first | refine blk_drewN ?_ _ | refine blk_drew ?_ | refine blk_alloc ?_ _)); exact BK_b.out) 4).trans rfl, (blk_cell (by (with_reducible repeat (first | refine blk_drewN ?_ _ | refine blk_drew ?_ | refine blk_alloc ?_ _)); exact BK_b.out) 5).trans rfl, (blk_cell (by (with_reducible repeat (first | refine blk_drewN ?_ _ | refine blk_drew ?_ | refine blk_alloc ?_ _)); exact BK_b.out) 6).trans rfl⟩
  clear hK K
  refine norm_ (a' := ?_) ?_ ?_
  rotate_left
  · show Act.put _ (some 54) _ = _
    simp only [Act.put, List.setIfInBounds_toArray, List.set_cons_zero, List.set_cons_succ, i64_w, i32_w]
    rfl
  refine pure_ (i := 14) (N := some 55) (v := ?_) (a' := ?_) #[true, true, true, true, true, true, true, true, true, true, true, true, true, true, true, false, false] rfl rfl (by kernel_rfl) (fun _ _ _ h => h) (Or.inl ⟨by rfl, ?_⟩) ?_ ?_
  rotate_left
  · intro w'
    go_simp
    with_reducible rfl
  rotate_left
  · simp only [Act.put, List.setIfInBounds_toArray, List.set_cons_zero, List.set_cons_succ, i64_w, i32_w]
    rfl
  refine pure_ (i := 15) (N := some 56) (v := ?_) (a' := ?_) #[true, true, true, true, true, true, true, true, true, true, true, true, true, true, true, true, false] rfl rfl (by kernel_rfl) (fun _ _ _ h => h) (Or.inl ⟨by rfl, ?_⟩) ?_ ?_
  rotate_left
  · intro w'
    go_simp
    with_reducible rfl
  rotate_left
  · simp only [Act.put, List.setIfInBounds_toArray, List.set_cons_zero, List.set_cons_succ, i64_w, i32_w]
    rfl
  refine last_ (i := 16) (N := none) #[true, true, true, true, true, true, true, true, true, true, true, true, true, true, true, true, true] rfl rfl (by kernel_rfl) (by decide) (fun K hK => ?_)
  have lz : w9.cell? ⟨g, 5, none⟩ = some (.slice A line.length c) := (blk_cell BK_g.out 5).trans rfl
  have lzf := blk_frozen BK_g.out 5
  refine skip_ (w1 := ?_) (by rfl) rfl ?_ ?_
  rotate_left
  · go_simp
    rfl
  clear lz lzf
  generalize hw_ : World.setCell w9 ⟨g, 5, none⟩ _ = w10
  obtain ⟨hput, HEc⟩ := put1 (cs' := #[.int .i64 wait, .int .i64 again, .int .i64 pause, .int .i64 now, .int .i64 (wrap64 (tk + 1)), .slice A9 (line.length + 1) c9, vo, .int .i64 times, .int .i64 last, .map (some m)]) hw_.symm BK_g.out rfl
  clear hw_
  have HOn : Aside0 (IsOut B w10 (.slice A9 (line.length + 1) c9) vo out) := ⟨HO.out.set HEc BK_g.out (by decide)⟩
  have OBn := Aside0.mk (ks_mv OB_l.out HEc NE_l_g.out)
  have MPn : Aside0 (IsMap w10 m f n) := ⟨MP_m.out.ext HEc NE_m_g.out⟩
  have XTn : Aside0 (Ext (fun k => B ≤ k) w w10) := ⟨XT.out.step HEc F_g.out⟩
  have BKn := Aside0.mk hput
  clear BK_g BK_b MP_m HO XT OB_l hput HEc
  have BK_g := BKn; have MP_m := MPn; have HO := HOn; have XT := XTn; have OB_l := OBn; clear BKn MPn HOn XTn OBn
  have ly4 : w10.cell? ⟨g, 4, none⟩ = some (.int .i64 (wrap64 (tk + 1))) := (blk_cell BK_g.out 4).trans rfl
  refine hK.out _ _ ?_
  clear hK K
  refine done_ (by kernel_rfl) ?_
  go_wp2
  go_ret2
  exact ⟨rfl, ⟨⟨_, _, BK_g.out, OB_l.out, HO.out⟩, ⟨_, _, MP_m.out, HF.out⟩, BG.out, BM.out⟩, extB XT.out HBW.out⟩
end Go.Proofs.Ytlalpooiegganaa.MstB
end

section
namespace Go.Proofs.Ytlalpooiegganaa.MstC
open Go.RowKit Go.Proofs.YtlalpooiegganaaW.PrintWords Go.Proofs.YtlalpooiegganaaW.PrintLast Go.Proofs.YtlalpooiegganaaW.PrintMore Go.Proofs.Ytlalpooiegganaa.Core Go.Proofs.Ytlalpooiegganaa.Wk Go.Proofs.Ytlalpooiegganaa.PMasterWaits Go.Proofs.Ytlalpooiegganaa.Mst
set_option linter.unusedVariables false
set_option linter.unusedSimpArgs false
def Z39 : Value := .agg #[.int .i64 0, .int .i64 0, .int .i64 0, .int .i64 0, .int .i64 0, .slice none 0 0, .int .i64 0, .int .i64 0, .int .i64 0]
theorem own_room {W : World} {base g cap : Nat} {cs : Array Value} (hg : W.heap[g]? = some (.cells cs 39 (0, 0))) (hb : base ≤ g) (hc : cs.size = cap * 9) (hm : cap ≤ 9223372036854775807) : OwnE ks (fun _ => False) 39 base W (.slice (some ⟨g, 0, none⟩) 0 cap) [] :=
  ⟨[], ⟨by simp, .inr ⟨g, cap, cs, rfl, hb, hg, Nat.zero_le _, by simpa [maxLen] using hm, by simpa [ks] using hc, by simp⟩⟩, Reps.none _ _⟩
set_option maxHeartbeats 4000000 in
set_option maxRecDepth 100000 in
theorem grow_c (n : Nat) (w : World) (hn : n ≤ 1000) :
    Calls Try.prog 47 #[.slice none 0 0, .int .i64 n] w fun e w' => ∃ v, e = .returned v ∧ OwnE ks (fun _ => False) 39 w.heap.size w' v [] ∧ Below w.heap.size w w' := by
  obtain ⟨i0, hi, hz0, hz1, hz2⟩ := info_parts info39
  have h3 : wrap64 (n : Int) = n := by unfold wrap64; omega
  rcases Nat.eq_zero_or_pos n with rfl | hp
  · go_enter Try.func47, Try.ntmps47
    go_wp2
    go_ret
    exact ⟨_, rfl, OwnE.nil _ _ _ _ _, Below.refl _ _⟩
  · have hrz : ∀ ty, (Builtin.append_ #[34, 3] ty #[.slice none 0 0, .int .i64 (n : Int)]).run Try.prog w =
        .ok (.slice (some ⟨w.heap.size, 0, none⟩) n (grownCap w n 0 39)) (w.drew.alloc (.cells (#[] ++ Builtin.zeroCells Z39.cells n ++ Builtin.zeroCells Z39.cells (grownCap w n 0 39 - n)) 39)) := fun ty => by
      have h := Lib.run_append_grow_zeros (P := Try.prog) w 34 3 ty 39 i0 Z39 .i64 .i64 Try.underlying34 Try.underlying3 hi hz0 none 0 0 [] (run_firstCells_none (P := Try.prog) (w := w.drew) i0.size 0 0 0) n hp (by omega) (by omega) (by omega) (by rw [hz2]; omega) (by rw [hz2]; have := growslice_fits (need := 0 + n) (old := 0) (bytes := 88) (by omega) (by omega); omega)
      simpa using h
    have hGn : n ≤ grownCap w n 0 39 := grownCap_ge w _ _ _
    have hG63 := grownCap_le_maxLen w n 0 39 (by unfold maxLen; omega)
    obtain ⟨G, hG⟩ : ∃ G, G = grownCap w n 0 39 := ⟨_, rfl⟩
    rw [← hG] at hrz hGn hG63
    unfold maxLen at hG63
    clear hG
    have hpos : (n : Int) > 0 := by omega
    obtain ⟨zc, hzc⟩ : ∃ z, z = Z39.cells := ⟨_, rfl⟩
    have hz9 : zc.size = 9 := by rw [hzc]; rfl
    rw [← hzc] at hrz
    clear hzc
    go_enter Try.func47, Try.ntmps47
    go_wp2_with (at_builtin; refine Lib.wpList_append_run _ rfl _ _ _ _ rfl _ _ rfl rfl _ _ (hrz _) ?_)
    go_ret
    refine ⟨_, rfl, own_room (cs := Builtin.zeroCells zc n ++ Builtin.zeroCells zc (G - n)) ?_ (Nat.le_refl _) ?_ hG63, below_alloc (below_drew (Below.refl _ _)) _⟩
    · exact heap_alloc_new w (.cells (Builtin.zeroCells zc n ++ Builtin.zeroCells zc (G - n)) 39 (0, 0))
    · simp [size_zeroCells, hz9]; omega
theorem rowR {W : World} {A : Option Addr} {n : Nat} {xs : List (Int × Int)} {M : Nat → Prop} (h : Kd.C ks W A n xs) : ReadsRow (fun x cs => cs.length = ks.sz ∧ (∀ u ∈ cs, u.oneCell' = true) ∧ Ever M W (fun W => ks.K W x cs)) ks.sz W A n xs :=
  ⟨h.1, h.2.1, fun hn => by
    obtain ⟨ad, rfl, hc⟩ := h.2.2 hn
    refine ⟨ad, rfl, fun j p hj => ?_⟩
    obtain ⟨cs, h1, h2, h3⟩ := hc j p hj
    exact ⟨cs, h1, ⟨h1, ks.K_one h2, Ever.triv (p := cs = sc p) h2⟩, h3⟩⟩
def Stage (b : Nat) (s i : Value) : Prop := (i = .int .i64 0 ∧ s = .int .i64 0) ∨ (i = .int .i64 1 ∧ s = .int .i64 0) ∨ (i = .int .i64 2 ∧ s = .int .i64 b)
def StageR (B : Nat) (xs : List (Int × Int)) (v i : Value) (W : World) : Prop :=
  (i = .int .i64 0 ∧ OwnE ks (fun _ => False) 39 B W v []) ∨ (i = .int .i64 1 ∧ OwnE ks (fun _ => False) 39 B W v []) ∨ (i = .int .i64 2 ∧ OwnE ks (fun _ => False) 39 B W v xs)
set_option maxHeartbeats 8000000 in
set_option maxRecDepth 100000 in
theorem concat_c (A1 A2 : Option Addr) (c1 c2 : Nat) (xs : List (Int × Int)) (gb cb : Nat) (w : World) (hgb : w.heap[gb]? = some (.cells #[.slice A1 0 c1, .slice A2 xs.length c2] 34 (0, 0)))
    (hV2 : Kd.C ks w A2 xs.length xs) (hl : xs.length ≤ 1000) :
    Calls Try.prog 33 #[.slice (some ⟨gb, 0, none⟩) 2 cb] w fun e w' => ∃ v, e = .returned v ∧ OwnE ks (fun _ => False) 39 w.heap.size w' v xs ∧ Below w.heap.size w w' := by
  have BK := Aside0.mk hgb
  have HV2 := Aside0.mk hV2
  have HLX := Aside0.mk hl
  clear hgb hV2
  have HB := Aside0.mk (Below.refl w.heap.size w)
  have hcz0 : w.cell? ⟨gb, 0, none⟩ = some (.slice A1 0 c1) := (blk_cell BK.out 0).trans rfl
  have hcz1 : w.cell? ⟨gb, 1, none⟩ = some (.slice A2 xs.length c2) := (blk_cell BK.out 1).trans rfl
  go_enter Try.func33, Try.ntmps33
  go_wp2
  go_loop [3, 11] (fun s i => Stage xs.length s i) (fun _ i => 2 - (intOf i).toNat)
  case atStart => exact .inl ⟨rfl, rfl⟩
  case round =>
    rcases hrel with ⟨rfl, rfl⟩ | ⟨rfl, rfl⟩ | ⟨rfl, rfl⟩
    · go_wp2
      go_round
      case rel => exact .inr (.inl ⟨rfl, by simp⟩)
      case measure => simp [intOf]
    · go_wp2
      go_round
      case rel => exact .inr (.inr ⟨rfl, by simp⟩)
      case measure => simp [intOf]
    · clear hcz0 hcz1
      go_wp2_with (go_at_call 47; refine (grow_c xs.length _ (by omega)).mono ?_; rintro e w1 ⟨v, rfl, HR, HBc⟩; have HR1 := Aside0.mk HR; clear HR; have HB1 := Aside0.mk HBc; clear HBc)
      have hcz0 : w1.cell? ⟨gb, 0, none⟩ = some (.slice A1 0 c1) := (blk_cell (HB1.out.block _ (blk_lt BK.out) ▸ BK.out) 0).trans rfl
      have hcz1 : w1.cell? ⟨gb, 1, none⟩ = some (.slice A2 xs.length c2) := (blk_cell (HB1.out.block _ (blk_lt BK.out) ▸ BK.out) 1).trans rfl
      have hz1 := HB1.out.size
      go_loopw [6, 27] (fun v i wr => Aside0 (StageR w.heap.size xs v i wr) ∧ Aside0 (Below w.heap.size w wr)) (fun _ i _ => 2 - (intOf i).toNat)
      case atStart => exact ⟨⟨.inl ⟨rfl, HR1.out⟩⟩, HB1⟩
      case round =>
        obtain ⟨hst, HB2⟩ := hrel
        clear hcz0 hcz1 HR1
        have hcz0 : wr.cell? ⟨gb, 0, none⟩ = some (.slice A1 0 c1) := (blk_cell (HB2.out.block _ (blk_lt BK.out) ▸ BK.out) 0).trans rfl
        have hcz1 : wr.cell? ⟨gb, 1, none⟩ = some (.slice A2 xs.length c2) := (blk_cell (HB2.out.block _ (blk_lt BK.out) ▸ BK.out) 1).trans rfl
        obtain (⟨rfl, HO⟩ | ⟨rfl, HO⟩ | ⟨rfl, HO⟩) := hst.out
        · have HO1 := Aside0.mk HO
          clear HO hst
          obtain ⟨A6, c6, e6⟩ := HO1.out.slice
          cases e6
          go_wp2_with ((with_reducible refine gate_builtin (b := .append) (xs := #[.tmp 31, .tmp 32]) rfl ?_); (refine ev_append_rows ks (M := fun _ => False) (w0 := w) w.heap.size rfl (.tmp 31) (.tmp 32) 34 39 Z39 88 rfl Try.underlying34 info39 rfl (by decide) (by decide) (.slice A6 0 c6) [] [] A1 0 c1 rfl rfl ?d1 ?d2 ?d3 ?d4 ?d5 ?_; (case d1 => exact HO1.out); (case d2 => exact ⟨rfl, by simp, fun h => absurd h (Nat.lt_irrefl 0)⟩); (case d3 => exact HB2.out); (case d4 => exact HB2.out.size); (case d5 => simp); intro v3 w3 hown hbel hgrow hat; have HO3 := Aside0.mk hown; have HB3 := Aside0.mk hbel; clear hown hbel hgrow hat))
          go_roundw
          case rel => exact ⟨⟨.inr (.inl ⟨rfl, HO3.out⟩)⟩, HB3⟩
          case measure => simp [intOf]
        · have HO1 := Aside0.mk HO
          clear HO hst
          obtain ⟨A6, c6, e6⟩ := HO1.out.slice
          cases e6
          go_wp2_with ((with_reducible refine gate_builtin (b := .append) (xs := #[.tmp 31, .tmp 32]) rfl ?_); (refine ev_append_rows ks (M := fun _ => False) (w0 := w) w.heap.size rfl (.tmp 31) (.tmp 32) 34 39 Z39 88 rfl Try.underlying34 info39 rfl (by decide) (by decide) (.slice A6 0 c6) [] xs A2 xs.length c2 rfl rfl ?d1 ?d2 ?d3 ?d4 ?d5 ?_; (case d1 => exact HO1.out); (case d2 => exact rowR (Kd.C_below HV2.out HB2.out)); (case d3 => exact HB2.out); (case d4 => exact HB2.out.size); (case d5 => (have := HLX.out; simp only [List.length_nil]; omega)); intro v3 w3 hown hbel hgrow hat; rw [List.nil_append] at hown; have HO3 := Aside0.mk hown; have HB3 := Aside0.mk hbel; clear hown hbel hgrow hat))
          go_roundw
          case rel => exact ⟨⟨.inr (.inr ⟨rfl, HO3.out⟩)⟩, HB3⟩
          case measure => simp [intOf]
        · have HO1 := Aside0.mk HO
          clear HO hst
          go_wp2
          go_ret
          exact ⟨_, rfl, HO1.out, HB2.out⟩
end Go.Proofs.Ytlalpooiegganaa.MstC
end

section
namespace Go.Proofs.Ytlalpooiegganaa.MstD
open Go.RowKit Go.Proofs.YtlalpooiegganaaW.PrintWords Go.Proofs.YtlalpooiegganaaW.PrintLast Go.Proofs.YtlalpooiegganaaW.PrintMore Go.Proofs.Ytlalpooiegganaa.Core Go.Proofs.Ytlalpooiegganaa.Wk Go.Proofs.Ytlalpooiegganaa.PMasterWaits Go.Proofs.Ytlalpooiegganaa.Mst Go.Proofs.Ytlalpooiegganaa.MstB Go.Proofs.Ytlalpooiegganaa.MstC
set_option linter.unusedVariables false
set_option linter.unusedSimpArgs false
section
variable {P : Program} {ops : Array Oper} {rest : List Oper} {o : Oper} {a : Act} {Q : Exit → Act → World → Prop} {Kc : Act → World → Prop} {W : World}
theorem look_step (hw : Region.wanted o (yielded ops a.tmps) = true) {N : Tmp} (hN : o.dst = some N) {t kt et : TypeId} {x y : Operand} {m n : Nat} {f : Int → Option Value} {z : Value} {k : Int} (ho : o.op = .lookup t x y false) (hm : IsMap W m f n) (ht : P.underlying t = some (.map kt et)) (hk : P.underlying kt = some (.int .i64)) (hz : ∀ w, (zeroValue et).run P w = .ok z w)
    (hx : a.eval x = .map (some m)) (hy : a.eval y = .int .i64 k) {v : Value} (hv : (f k).getD z = v) (h : Kc (a.put (some N) v) W) : if Region.wanted o (yielded ops a.tmps) = true then Oper.wp P o a W Kc Q else Kc (a.put (some N) undef) W := by
  subst hv
  refine value_ (w1 := W) hw hN ?_ h
  unfold execOp
  simp [ho, hx, hy, hm.look ht hk hz k, Result.andThen]
theorem upd_step (hw : Region.wanted o (yielded ops a.tmps) = true) {t kt et : TypeId} {x y z : Operand} {m n : Nat} {f : Int → Option Value} {k : Int} {v : Value} (ho : o.op = .mapUpdate t x y z) (hN : o.dst = none) (hm : IsMap W m f n) (ht : P.underlying t = some (.map kt et)) (hk : P.underlying kt = some (.int .i64))
    (hx : a.eval x = .map (some m)) (hy : a.eval y = .int .i64 k) (hz : a.eval z = v) (h : ∀ w1, IsMap w1 m (fun j => if j = k then some v else f j) (n + 1) → Ext (fun b => b = m) W w1 → Kc a w1) : if Region.wanted o (yielded ops a.tmps) = true then Oper.wp P o a W Kc Q else Kc (a.put none undef) W := by
  obtain ⟨W', hrun, h1, h2⟩ := hm.update ht hk k v
  have hr : (execOp a.eval o).run P W = .ok .skip W' := by
    unfold execOp
    simp [ho, hx, hy, hz, hrun, Result.andThen]
  exact skip_ hw hN hr (h W' h1 h2)
theorem bs_ev {N : Tmp} (hgd : o.guard = none) (_hd : o.dst = some N) {cs : Array Value} {t n : Nat}
    (hrun : (execOp a.eval o).run P W = .ok (.value (.slice (some ⟨W.heap.size, 0, none⟩) n n)) (W.alloc (.cells cs t (0, 0))))
    (h : ∀ g, g = W.heap.size → ∀ w1, w1.heap[g]? = some (.cells cs t (0, 0)) → Below W.heap.size W w1 → wpList P ops Q rest (a.put o.dst (.slice (some ⟨g, 0, none⟩) n n)) w1) : wpList P ops Q (o :: rest) a W :=
  Kd.event_run hgd hrun (h _ rfl _ (blk_new W _) (below_alloc (Below.refl _ _) _))
end
section
variable {B : Nat} {F : Nat → Prop} {w W W' : World} {v : Value} {l : List Int} {g m n : Nat} {f : Int → Option Value} {cs : Array Value} {T : TypeId}
theorem kd_mv {B : Nat} (h : OwnE kd (fun _ => False) 48 B W v l) (k : Ext F W W') (hf : ∀ k, v.ownBlock = some k → ¬ F k) : OwnE kd (fun _ => False) 48 B W' v l := by
  obtain ⟨i, h1, h2⟩ := h
  exact ⟨i, own_move h1 (fun b hb => k.block b (own_lt h1 b hb) (hf b hb)), h2.imp_ (fun x cs h => Ever.triv (p := cs = dc x) h.now)⟩
theorem kd_ne {B : Nat} (h : OwnE kd (fun _ => False) 48 B W v l) (hb : W.heap[g]? = some (.cells cs T (0, 0))) (hT : T ≠ 48) : ∀ k, v.ownBlock = some k → k ≠ g := by
  intro k hk e
  obtain ⟨i, h1, _⟩ := h
  obtain ⟨cells, hc⟩ := own_typed h1 k hk
  rw [e, hb] at hc
  injection hc with hc
  injection hc with _ hc _
  exact hT hc
theorem kd_nm {B : Nat} (h : OwnE kd (fun _ => False) 48 B W v l) (hm : IsMap W m f n) : ∀ k, v.ownBlock = some k → k ≠ m := by
  intro k hk e
  obtain ⟨i, h1, _⟩ := h
  obtain ⟨cells, hc⟩ := own_typed h1 k hk
  obtain ⟨es, c, hb, _⟩ := hm.out
  rw [e, hb] at hc
  injection hc with hc
  cases hc
def SentR (W : World) (v : Value) : Option (Int × Int) → Prop
  | none => v = .slice none 0 0
  | some x => ∃ ga c, v = .slice (some ⟨ga, 0, none⟩) 1 c ∧ W.heap[ga]? = some (.cells (sc x).toArray 39 (0, 0))
def DoneR (W : World) (v : Value) : Option Int → Prop
  | none => v = .slice none 0 0
  | some t => ∃ gd c, v = .slice (some ⟨gd, 0, none⟩) 1 c ∧ ∀ i u, (dc t)[i]? = some u → W.cell? ⟨gd, i, none⟩ = some u
theorem sent_mk {x : Int × Int} {ga c : Nat} (h : W.heap[ga]? = some (.cells (sc x).toArray 39 (0, 0))) : SentR W (.slice (some ⟨ga, 0, none⟩) 1 c) (some x) := ⟨ga, c, rfl, h⟩
theorem done_mk {B : Nat} {t : Int} (h : OwnE kd (fun _ => False) 48 B W v [t]) : DoneR W v (some t) := by
  obtain ⟨i, h1, h2⟩ := h
  obtain ⟨g, cap, rfl, _, _⟩ := h1.form (by simp)
  refine ⟨g, cap, rfl, fun j u hu => ?_⟩
  have he : i = dc t := by
    have h3 := h2.2 0 t rfl
    have h4 := h2.1
    have h5 : ((i.drop (0 * kd.sz)).take kd.sz) = dc t := h3.now
    rw [Nat.zero_mul, List.drop_zero, List.take_of_length_le (by rw [h4]; simp)] at h5
    exact h5
  have := h1.cells rfl j u (by rw [he]; exact hu)
  rw [show (⟨g, 0, none⟩ : Addr).add j = ⟨g, j, none⟩ from by simp [Addr.add] <;> omega] at this
  exact this
theorem belowT {B : Nat} {w w1 w2 : World} (h : Below B w w1) (k : Below B w1 w2) : Below B w w2 := ⟨k.os.trans h.os, k.tape.trans h.tape, k.output.trans h.output, Nat.le_trans h.size k.size, fun i hi => (k.block i hi).trans (h.block i hi)⟩
theorem IsM.outS {s : MS} (h : IsM B W g m s) : B ≤ g ∧ g < W.heap.size := by obtain ⟨vl, vo, h1, _⟩ := h.out; exact ⟨h.bg, blk_lt h1⟩
theorem row0 {x : Int × Int} {xs : List (Int × Int)} (h : OwnE ks (fun _ => False) 39 B W v (x :: xs)) : ∃ gl c, v = .slice (some ⟨gl, 0, none⟩) (xs.length + 1) c ∧ xs.length + 1 ≤ c ∧ ∀ i u, (sc x)[i]? = some u → W.cell? ⟨gl, i, none⟩ = some u := by
  obtain ⟨i, h1, h2⟩ := h
  have hcap := h1
  obtain ⟨g, cap, e, _, _⟩ := h1.form (by simp)
  subst e
  refine ⟨g, cap, rfl, own_cap hcap, fun j u hu => ?_⟩
  have he : i.take 9 = sc x := by
    have h3 := h2.2 0 x rfl
    have h5 : ((i.drop (0 * ks.sz)).take ks.sz) = sc x := h3.now
    rw [Nat.zero_mul, List.drop_zero] at h5
    exact h5
  have hj : j < 9 := by have := (List.getElem?_eq_some_iff.1 hu).1; simpa [sc] using this
  have := h1.cells rfl j u (by rw [← he, List.getElem?_take, if_pos hj] at hu; exact hu)
  rw [show (⟨g, 0, none⟩ : Addr).add j = ⟨g, j, none⟩ from by simp [Addr.add] <;> omega] at this
  exact this
theorem rowC {x : Int × Int} {xs : List (Int × Int)} {gl c : Nat} (h : OwnE ks (fun _ => False) 39 B W (.slice (some ⟨gl, 0, none⟩) (xs.length + 1) c) (x :: xs)) (hc : xs.length + 1 ≤ c) : Kd.C ks W (if c = 1 then some ⟨gl, 0, none⟩ else (some ⟨gl, 0, none⟩ : Option Addr).map (·.add (1 * 9))) xs.length xs := by
  obtain ⟨A, c', e, hcc, hv⟩ := h.view (fun _ _ e => e)
  have e1 : A = some ⟨gl, 0, none⟩ ∧ c' = c := by injection e with e1 e2 e3; exact ⟨e1.symm, e3.symm⟩
  obtain ⟨rfl, rfl⟩ := e1
  exact Kd.C_drop (m := 1) hv.now (by simp) (by simpa using hc)
end
set_option maxHeartbeats 4000000 in
set_option maxRecDepth 100000 in
theorem send_f {B : Nat} {w : World} {g m : Nat} {wait again pause now tk times last : Int} {line : List (Int × Int)} {rest : Int → Int} {ot ou : Int} (h : IsM B w g m ⟨wait, again, pause, now, tk, line, some (ot, ou), times, last, rest⟩) (hB : B ≤ w.heap.size) : Calls Try.prog 32 #[.pointer (some ⟨g, 0, none⟩)] w fun e w' => e = .returned (.agg #[.int .i64 (ot), .int .i64 (ou), .int .i64 3, .int .i64 0, .int .i64 1, .slice none 0 0, .int .i64 0, .int .i64 0, .int .i64 0]) ∧ IsM B w' g m ⟨wait, again, pause, now, tk, line, some (ot, ou), wrap64 (times + 1), now, rest⟩ ∧ Ext (fun k => k = g) w w' := by
  have HBW := Aside0.mk hB
  obtain ⟨⟨vl, vo, hb, hl, ho⟩, ⟨f, n, hm, hf⟩, bg, bm⟩ := h
  obtain ⟨go, rfl, hgo, bgo, nlo⟩ := ho
  have BK_g : Aside0 (w.heap[g]? = some (.cells #[.int .i64 wait, .int .i64 again, .int .i64 pause, .int .i64 now, .int .i64 tk, vl, .pointer (some ⟨go, 0, none⟩), .int .i64 times, .int .i64 last, .map (some m)] 73 (0, 0))) := ⟨hb⟩
  have OB_l : Aside0 (OwnE ks (fun _ => False) 39 B w vl (line)) := ⟨hl⟩
  have MP_m := Aside0.mk hm; have HF := Aside0.mk hf; have BG := Aside0.mk bg; have BM := Aside0.mk bm
  have NE_l_g : Aside0 (∀ k, (vl).ownBlock = some k → k ≠ g) := ⟨ks_ne hl hb (by decide)⟩; have NE_l_m : Aside0 (∀ k, (vl).ownBlock = some k → k ≠ m) := ⟨ks_nm hl hm⟩; have NE_g_m : Aside0 (g ≠ m) := ⟨cell_nm hb hm⟩; have NE_m_g : Aside0 (m ≠ g) := ⟨fun e => NE_g_m.out e.symm⟩; have F_g : Aside0 (∀ k, k = g → k = g ∨ w.heap.size ≤ k) := ⟨fun k e => .inl e⟩
  have BK_go : Aside0 (w.heap[go]? = some (.cells #[.int .i64 (ot), .int .i64 (ou), .int .i64 3, .int .i64 0, .int .i64 1, .slice none 0 0, .int .i64 0, .int .i64 0, .int .i64 0] 39 (0, 0))) := ⟨hgo⟩; have BGO := Aside0.mk bgo; have NE_l_go : Aside0 (∀ k, (vl).ownBlock = some k → k ≠ go) := ⟨nlo⟩; have NE_go_g : Aside0 (go ≠ g) := ⟨blk_ne hgo hb (by decide)⟩; have NE_g_go : Aside0 (g ≠ go) := ⟨fun e => NE_go_g.out e.symm⟩; have NE_go_m : Aside0 (go ≠ m) := ⟨cell_nm hgo hm⟩; have NE_m_go : Aside0 (m ≠ go) := ⟨fun e => NE_go_m.out e.symm⟩; clear hgo bgo nlo
  clear hb hl hm hf bg bm hB
  have XT : Aside0 (Ext (fun k => k = g) w w) := ⟨Ext.refl _ _⟩
  have lc1_0 : w.cell? ⟨g, 0, none⟩ = some (.int .i64 wait) := (blk_cell BK_g.out 0).trans rfl
  have lf1_0 := blk_frozen BK_g.out 0
  have lc1_1 : w.cell? ⟨g, 1, none⟩ = some (.int .i64 again) := (blk_cell BK_g.out 1).trans rfl
  have lf1_1 := blk_frozen BK_g.out 1
  have lc1_2 : w.cell? ⟨g, 2, none⟩ = some (.int .i64 pause) := (blk_cell BK_g.out 2).trans rfl
  have lf1_2 := blk_frozen BK_g.out 2
  have lc1_3 : w.cell? ⟨g, 3, none⟩ = some (.int .i64 now) := (blk_cell BK_g.out 3).trans rfl
  have lf1_3 := blk_frozen BK_g.out 3
  have lc1_4 : w.cell? ⟨g, 4, none⟩ = some (.int .i64 tk) := (blk_cell BK_g.out 4).trans rfl
  have lf1_4 := blk_frozen BK_g.out 4
  have lc1_5 : w.cell? ⟨g, 5, none⟩ = some (vl) := (blk_cell BK_g.out 5).trans rfl
  have lf1_5 := blk_frozen BK_g.out 5
  have lc1_6 : w.cell? ⟨g, 6, none⟩ = some (.pointer (some ⟨go, 0, none⟩)) := (blk_cell BK_g.out 6).trans rfl
  have lf1_6 := blk_frozen BK_g.out 6
  have lc1_7 : w.cell? ⟨g, 7, none⟩ = some (.int .i64 times) := (blk_cell BK_g.out 7).trans rfl
  have lf1_7 := blk_frozen BK_g.out 7
  have lc1_8 : w.cell? ⟨g, 8, none⟩ = some (.int .i64 last) := (blk_cell BK_g.out 8).trans rfl
  have lf1_8 := blk_frozen BK_g.out 8
  have lc1_9 : w.cell? ⟨g, 9, none⟩ = some (.map (some m)) := (blk_cell BK_g.out 9).trans rfl
  have lf1_9 := blk_frozen BK_g.out 9
  have lc2_0 : w.cell? ⟨go, 0, none⟩ = some (.int .i64 (ot)) := (blk_cell BK_go.out 0).trans rfl
  have lf2_0 := blk_frozen BK_go.out 0
  have lc2_1 : w.cell? ⟨go, 1, none⟩ = some (.int .i64 (ou)) := (blk_cell BK_go.out 1).trans rfl
  have lf2_1 := blk_frozen BK_go.out 1
  have lc2_2 : w.cell? ⟨go, 2, none⟩ = some (.int .i64 3) := (blk_cell BK_go.out 2).trans rfl
  have lf2_2 := blk_frozen BK_go.out 2
  have lc2_3 : w.cell? ⟨go, 3, none⟩ = some (.int .i64 0) := (blk_cell BK_go.out 3).trans rfl
  have lf2_3 := blk_frozen BK_go.out 3
  have lc2_4 : w.cell? ⟨go, 4, none⟩ = some (.int .i64 1) := (blk_cell BK_go.out 4).trans rfl
  have lf2_4 := blk_frozen BK_go.out 4
  have lc2_5 : w.cell? ⟨go, 5, none⟩ = some (.slice none 0 0) := (blk_cell BK_go.out 5).trans rfl
  have lf2_5 := blk_frozen BK_go.out 5
  have lc2_6 : w.cell? ⟨go, 6, none⟩ = some (.int .i64 0) := (blk_cell BK_go.out 6).trans rfl
  have lf2_6 := blk_frozen BK_go.out 6
  have lc2_7 : w.cell? ⟨go, 7, none⟩ = some (.int .i64 0) := (blk_cell BK_go.out 7).trans rfl
  have lf2_7 := blk_frozen BK_go.out 7
  have lc2_8 : w.cell? ⟨go, 8, none⟩ = some (.int .i64 0) := (blk_cell BK_go.out 8).trans rfl
  have lf2_8 := blk_frozen BK_go.out 8
  have hu39 := Try.underlying39
  go_enter Try.func32, Try.ntmps32
  go_wp2_with (first | ((with_reducible refine gate_dst (N := 2) rfl ?_); refine box_event ?hg (N := 2) ?hd (cs := #[.int .i64 0, .int .i64 0, .int .i64 0, .int .i64 0, .int .i64 0, .slice none 0 0, .int .i64 0, .int .i64 0, .int .i64 0]) (t := 39) ?hr ?_; (case hd => rfl); (case hg => rfl); (case hr => first | (go_simp; done) | (go_simp; rfl)); intro r hg w1 hbox HBc; have NE_l_r : Aside0 (∀ k, (vl).ownBlock = some k → k ≠ r) := ⟨fun k hk e => by have := OwnE.lt OB_l.out k hk; omega⟩; have NE_g_r : Aside0 (g ≠ r) := ⟨ne_born (blk_lt BK_g.out) hg⟩; have NE_r_g : Aside0 (r ≠ g) := ⟨fun e => NE_g_r.out e.symm⟩; have NE_go_r : Aside0 (go ≠ r) := ⟨ne_born (blk_lt BK_go.out) hg⟩; have NE_r_go : Aside0 (r ≠ go) := ⟨fun e => NE_go_r.out e.symm⟩; have NE_m_r : Aside0 (m ≠ r) := ⟨ne_born (IsMap.lt MP_m.out) hg⟩; have NE_r_m : Aside0 (r ≠ m) := ⟨fun e => NE_m_r.out e.symm⟩; have F_r : Aside0 (∀ k, k = r → (fun k => k = g) k ∨ w.heap.size ≤ k) := ⟨fnew hg XT.out.size⟩; have RG_r : Aside0 (w.heap.size ≤ r) := ⟨Nat.le_trans XT.out.size (Nat.le_of_eq hg.symm)⟩; have BG_r : Aside0 (B ≤ r) := ⟨Nat.le_trans HBW.out RG_r.out⟩; clear hg; have OBn_l : Aside0 (OwnE ks (fun _ => False) 39 B w1 vl (line)) := ⟨ks_mv OB_l.out (Ext.none_ HBc) (fun _ _ e => e)⟩; clear OB_l; have OB_l := OBn_l; clear OBn_l; clear lc1_0 lf1_0 lc1_1 lf1_1 lc1_2 lf1_2 lc1_3 lf1_3 lc1_4 lf1_4 lc1_5 lf1_5 lc1_6 lf1_6 lc1_7 lf1_7 lc1_8 lf1_8 lc1_9 lf1_9 lc2_0 lf2_0 lc2_1 lf2_1 lc2_2 lf2_2 lc2_3 lf2_3 lc2_4 lf2_4 lc2_5 lf2_5 lc2_6 lf2_6 lc2_7 lf2_7 lc2_8 lf2_8; have BKn_g : Aside0 (w1.heap[g]? = some (.cells #[.int .i64 wait, .int .i64 again, .int .i64 pause, .int .i64 now, .int .i64 tk, vl, .pointer (some ⟨go, 0, none⟩), .int .i64 times, .int .i64 last, .map (some m)] 73 (0, 0))) := ⟨Ext.blk (Ext.none_ HBc) BK_g.out (fun e => e)⟩; have BKn_go : Aside0 (w1.heap[go]? = some (.cells #[.int .i64 (ot), .int .i64 (ou), .int .i64 3, .int .i64 0, .int .i64 1, .slice none 0 0, .int .i64 0, .int .i64 0, .int .i64 0] 39 (0, 0))) := ⟨Ext.blk (Ext.none_ HBc) BK_go.out (fun e => e)⟩; have MPn_m : Aside0 (IsMap w1 m (f) (n)) := ⟨IsMap.ext MP_m.out (Ext.none_ HBc) (fun e => e)⟩; have XTn : Aside0 (Ext (fun k => k = g) w w1) := ⟨XT.out.stepB HBc⟩; clear BK_g BK_go MP_m XT; have BK_g := BKn_g; have BK_go := BKn_go; have MP_m := MPn_m; have XT := XTn; clear BKn_g BKn_go MPn_m XTn; have BK_r : Aside0 (w1.heap[r]? = some (.cells #[.int .i64 0, .int .i64 0, .int .i64 0, .int .i64 0, .int .i64 0, .slice none 0 0, .int .i64 0, .int .i64 0, .int .i64 0] 39 (0, 0))) := ⟨hbox⟩; clear hbox HBc; have lc3_0 : w1.cell? ⟨g, 0, none⟩ = some (.int .i64 wait) := (blk_cell BK_g.out 0).trans rfl; have lf3_0 := blk_frozen BK_g.out 0; have lc3_1 : w1.cell? ⟨g, 1, none⟩ = some (.int .i64 again) := (blk_cell BK_g.out 1).trans rfl; have lf3_1 := blk_frozen BK_g.out 1; have lc3_2 : w1.cell? ⟨g, 2, none⟩ = some (.int .i64 pause) := (blk_cell BK_g.out 2).trans rfl; have lf3_2 := blk_frozen BK_g.out 2; have lc3_3 : w1.cell? ⟨g, 3, none⟩ = some (.int .i64 now) := (blk_cell BK_g.out 3).trans rfl; have lf3_3 := blk_frozen BK_g.out 3; have lc3_4 : w1.cell? ⟨g, 4, none⟩ = some (.int .i64 tk) := (blk_cell BK_g.out 4).trans rfl; have lf3_4 := blk_frozen BK_g.out 4; have lc3_5 : w1.cell? ⟨g, 5, none⟩ = some (vl) := (blk_cell BK_g.out 5).trans rfl; have lf3_5 := blk_frozen BK_g.out 5; have lc3_6 : w1.cell? ⟨g, 6, none⟩ = some (.pointer (some ⟨go, 0, none⟩)) := (blk_cell BK_g.out 6).trans rfl; have lf3_6 := blk_frozen BK_g.out 6; have lc3_7 : w1.cell? ⟨g, 7, none⟩ = some (.int .i64 times) := (blk_cell BK_g.out 7).trans rfl; have lf3_7 := blk_frozen BK_g.out 7; have lc3_8 : w1.cell? ⟨g, 8, none⟩ = some (.int .i64 last) := (blk_cell BK_g.out 8).trans rfl; have lf3_8 := blk_frozen BK_g.out 8; have lc3_9 : w1.cell? ⟨g, 9, none⟩ = some (.map (some m)) := (blk_cell BK_g.out 9).trans rfl; have lf3_9 := blk_frozen BK_g.out 9; have lc4_0 : w1.cell? ⟨go, 0, none⟩ = some (.int .i64 (ot)) := (blk_cell BK_go.out 0).trans rfl; have lf4_0 := blk_frozen BK_go.out 0; have lc4_1 : w1.cell? ⟨go, 1, none⟩ = some (.int .i64 (ou)) := (blk_cell BK_go.out 1).trans rfl; have lf4_1 := blk_frozen BK_go.out 1; have lc4_2 : w1.cell? ⟨go, 2, none⟩ = some (.int .i64 3) := (blk_cell BK_go.out 2).trans rfl; have lf4_2 := blk_frozen BK_go.out 2; have lc4_3 : w1.cell? ⟨go, 3, none⟩ = some (.int .i64 0) := (blk_cell BK_go.out 3).trans rfl; have lf4_3 := blk_frozen BK_go.out 3; have lc4_4 : w1.cell? ⟨go, 4, none⟩ = some (.int .i64 1) := (blk_cell BK_go.out 4).trans rfl; have lf4_4 := blk_frozen BK_go.out 4; have lc4_5 : w1.cell? ⟨go, 5, none⟩ = some (.slice none 0 0) := (blk_cell BK_go.out 5).trans rfl; have lf4_5 := blk_frozen BK_go.out 5; have lc4_6 : w1.cell? ⟨go, 6, none⟩ = some (.int .i64 0) := (blk_cell BK_go.out 6).trans rfl; have lf4_6 := blk_frozen BK_go.out 6; have lc4_7 : w1.cell? ⟨go, 7, none⟩ = some (.int .i64 0) := (blk_cell BK_go.out 7).trans rfl; have lf4_7 := blk_frozen BK_go.out 7; have lc4_8 : w1.cell? ⟨go, 8, none⟩ = some (.int .i64 0) := (blk_cell BK_go.out 8).trans rfl; have lf4_8 := blk_frozen BK_go.out 8; have lc5_0 : w1.cell? ⟨r, 0, none⟩ = some (.int .i64 0) := (blk_cell BK_r.out 0).trans rfl; have lf5_0 := blk_frozen BK_r.out 0; have lc5_1 : w1.cell? ⟨r, 1, none⟩ = some (.int .i64 0) := (blk_cell BK_r.out 1).trans rfl; have lf5_1 := blk_frozen BK_r.out 1; have lc5_2 : w1.cell? ⟨r, 2, none⟩ = some (.int .i64 0) := (blk_cell BK_r.out 2).trans rfl; have lf5_2 := blk_frozen BK_r.out 2; have lc5_3 : w1.cell? ⟨r, 3, none⟩ = some (.int .i64 0) := (blk_cell BK_r.out 3).trans rfl; have lf5_3 := blk_frozen BK_r.out 3; have lc5_4 : w1.cell? ⟨r, 4, none⟩ = some (.int .i64 0) := (blk_cell BK_r.out 4).trans rfl; have lf5_4 := blk_frozen BK_r.out 4; have lc5_5 : w1.cell? ⟨r, 5, none⟩ = some (.slice none 0 0) := (blk_cell BK_r.out 5).trans rfl; have lf5_5 := blk_frozen BK_r.out 5; have lc5_6 : w1.cell? ⟨r, 6, none⟩ = some (.int .i64 0) := (blk_cell BK_r.out 6).trans rfl; have lf5_6 := blk_frozen BK_r.out 6; have lc5_7 : w1.cell? ⟨r, 7, none⟩ = some (.int .i64 0) := (blk_cell BK_r.out 7).trans rfl; have lf5_7 := blk_frozen BK_r.out 7; have lc5_8 : w1.cell? ⟨r, 8, none⟩ = some (.int .i64 0) := (blk_cell BK_r.out 8).trans rfl; have lf5_8 := blk_frozen BK_r.out 8) | ((with_reducible refine gate_store (p := 10) rfl ?_); refine store_event (w1 := ?_) rfl (p := 10) rfl rfl ?hr ?_; rotate_left; (case hr => go_simp; rfl); intro w2 hw_; obtain ⟨hput, HEc⟩ := put1 (cs' := #[.int .i64 wait, .int .i64 again, .int .i64 pause, .int .i64 now, .int .i64 tk, vl, .pointer (some ⟨go, 0, none⟩), .int .i64 (wrap64 (times + 1)), .int .i64 last, .map (some m)]) hw_ BK_g.out rfl; clear hw_; have OBn_l : Aside0 (OwnE ks (fun _ => False) 39 B w2 vl (line)) := ⟨ks_mv OB_l.out HEc NE_l_g.out⟩; clear OB_l; have OB_l := OBn_l; clear OBn_l; clear lc3_0 lf3_0 lc3_1 lf3_1 lc3_2 lf3_2 lc3_3 lf3_3 lc3_4 lf3_4 lc3_5 lf3_5 lc3_6 lf3_6 lc3_7 lf3_7 lc3_8 lf3_8 lc3_9 lf3_9 lc4_0 lf4_0 lc4_1 lf4_1 lc4_2 lf4_2 lc4_3 lf4_3 lc4_4 lf4_4 lc4_5 lf4_5 lc4_6 lf4_6 lc4_7 lf4_7 lc4_8 lf4_8 lc5_0 lf5_0 lc5_1 lf5_1 lc5_2 lf5_2 lc5_3 lf5_3 lc5_4 lf5_4 lc5_5 lf5_5 lc5_6 lf5_6 lc5_7 lf5_7 lc5_8 lf5_8; have BKn_go : Aside0 (w2.heap[go]? = some (.cells #[.int .i64 (ot), .int .i64 (ou), .int .i64 3, .int .i64 0, .int .i64 1, .slice none 0 0, .int .i64 0, .int .i64 0, .int .i64 0] 39 (0, 0))) := ⟨Ext.blk HEc BK_go.out NE_go_g.out⟩; have BKn_r : Aside0 (w2.heap[r]? = some (.cells #[.int .i64 0, .int .i64 0, .int .i64 0, .int .i64 0, .int .i64 0, .slice none 0 0, .int .i64 0, .int .i64 0, .int .i64 0] 39 (0, 0))) := ⟨Ext.blk HEc BK_r.out NE_r_g.out⟩; have MPn_m : Aside0 (IsMap w2 m (f) (n)) := ⟨IsMap.ext MP_m.out HEc NE_m_g.out⟩; have XTn : Aside0 (Ext (fun k => k = g) w w2) := ⟨XT.out.step HEc (F_g.out)⟩; clear BK_go BK_r MP_m XT; have BK_go := BKn_go; have BK_r := BKn_r; have MP_m := MPn_m; have XT := XTn; clear BKn_go BKn_r MPn_m XTn; clear BK_g; have BK_g : Aside0 (w2.heap[g]? = some (.cells #[.int .i64 wait, .int .i64 again, .int .i64 pause, .int .i64 now, .int .i64 tk, vl, .pointer (some ⟨go, 0, none⟩), .int .i64 (wrap64 (times + 1)), .int .i64 last, .map (some m)] 73 (0, 0))) := ⟨hput⟩; clear hput HEc; have lc6_0 : w2.cell? ⟨g, 0, none⟩ = some (.int .i64 wait) := (blk_cell BK_g.out 0).trans rfl; have lf6_0 := blk_frozen BK_g.out 0; have lc6_1 : w2.cell? ⟨g, 1, none⟩ = some (.int .i64 again) := (blk_cell BK_g.out 1).trans rfl; have lf6_1 := blk_frozen BK_g.out 1; have lc6_2 : w2.cell? ⟨g, 2, none⟩ = some (.int .i64 pause) := (blk_cell BK_g.out 2).trans rfl; have lf6_2 := blk_frozen BK_g.out 2; have lc6_3 : w2.cell? ⟨g, 3, none⟩ = some (.int .i64 now) := (blk_cell BK_g.out 3).trans rfl; have lf6_3 := blk_frozen BK_g.out 3; have lc6_4 : w2.cell? ⟨g, 4, none⟩ = some (.int .i64 tk) := (blk_cell BK_g.out 4).trans rfl; have lf6_4 := blk_frozen BK_g.out 4; have lc6_5 : w2.cell? ⟨g, 5, none⟩ = some (vl) := (blk_cell BK_g.out 5).trans rfl; have lf6_5 := blk_frozen BK_g.out 5; have lc6_6 : w2.cell? ⟨g, 6, none⟩ = some (.pointer (some ⟨go, 0, none⟩)) := (blk_cell BK_g.out 6).trans rfl; have lf6_6 := blk_frozen BK_g.out 6; have lc6_7 : w2.cell? ⟨g, 7, none⟩ = some (.int .i64 (wrap64 (times + 1))) := (blk_cell BK_g.out 7).trans rfl; have lf6_7 := blk_frozen BK_g.out 7; have lc6_8 : w2.cell? ⟨g, 8, none⟩ = some (.int .i64 last) := (blk_cell BK_g.out 8).trans rfl; have lf6_8 := blk_frozen BK_g.out 8; have lc6_9 : w2.cell? ⟨g, 9, none⟩ = some (.map (some m)) := (blk_cell BK_g.out 9).trans rfl; have lf6_9 := blk_frozen BK_g.out 9; have lc7_0 : w2.cell? ⟨go, 0, none⟩ = some (.int .i64 (ot)) := (blk_cell BK_go.out 0).trans rfl; have lf7_0 := blk_frozen BK_go.out 0; have lc7_1 : w2.cell? ⟨go, 1, none⟩ = some (.int .i64 (ou)) := (blk_cell BK_go.out 1).trans rfl; have lf7_1 := blk_frozen BK_go.out 1; have lc7_2 : w2.cell? ⟨go, 2, none⟩ = some (.int .i64 3) := (blk_cell BK_go.out 2).trans rfl; have lf7_2 := blk_frozen BK_go.out 2; have lc7_3 : w2.cell? ⟨go, 3, none⟩ = some (.int .i64 0) := (blk_cell BK_go.out 3).trans rfl; have lf7_3 := blk_frozen BK_go.out 3; have lc7_4 : w2.cell? ⟨go, 4, none⟩ = some (.int .i64 1) := (blk_cell BK_go.out 4).trans rfl; have lf7_4 := blk_frozen BK_go.out 4; have lc7_5 : w2.cell? ⟨go, 5, none⟩ = some (.slice none 0 0) := (blk_cell BK_go.out 5).trans rfl; have lf7_5 := blk_frozen BK_go.out 5; have lc7_6 : w2.cell? ⟨go, 6, none⟩ = some (.int .i64 0) := (blk_cell BK_go.out 6).trans rfl; have lf7_6 := blk_frozen BK_go.out 6; have lc7_7 : w2.cell? ⟨go, 7, none⟩ = some (.int .i64 0) := (blk_cell BK_go.out 7).trans rfl; have lf7_7 := blk_frozen BK_go.out 7; have lc7_8 : w2.cell? ⟨go, 8, none⟩ = some (.int .i64 0) := (blk_cell BK_go.out 8).trans rfl; have lf7_8 := blk_frozen BK_go.out 8; have lc8_0 : w2.cell? ⟨r, 0, none⟩ = some (.int .i64 0) := (blk_cell BK_r.out 0).trans rfl; have lf8_0 := blk_frozen BK_r.out 0; have lc8_1 : w2.cell? ⟨r, 1, none⟩ = some (.int .i64 0) := (blk_cell BK_r.out 1).trans rfl; have lf8_1 := blk_frozen BK_r.out 1; have lc8_2 : w2.cell? ⟨r, 2, none⟩ = some (.int .i64 0) := (blk_cell BK_r.out 2).trans rfl; have lf8_2 := blk_frozen BK_r.out 2; have lc8_3 : w2.cell? ⟨r, 3, none⟩ = some (.int .i64 0) := (blk_cell BK_r.out 3).trans rfl; have lf8_3 := blk_frozen BK_r.out 3; have lc8_4 : w2.cell? ⟨r, 4, none⟩ = some (.int .i64 0) := (blk_cell BK_r.out 4).trans rfl; have lf8_4 := blk_frozen BK_r.out 4; have lc8_5 : w2.cell? ⟨r, 5, none⟩ = some (.slice none 0 0) := (blk_cell BK_r.out 5).trans rfl; have lf8_5 := blk_frozen BK_r.out 5; have lc8_6 : w2.cell? ⟨r, 6, none⟩ = some (.int .i64 0) := (blk_cell BK_r.out 6).trans rfl; have lf8_6 := blk_frozen BK_r.out 6; have lc8_7 : w2.cell? ⟨r, 7, none⟩ = some (.int .i64 0) := (blk_cell BK_r.out 7).trans rfl; have lf8_7 := blk_frozen BK_r.out 7; have lc8_8 : w2.cell? ⟨r, 8, none⟩ = some (.int .i64 0) := (blk_cell BK_r.out 8).trans rfl; have lf8_8 := blk_frozen BK_r.out 8) | ((with_reducible refine gate_store (p := 17) rfl ?_); refine store_event (w1 := ?_) rfl (p := 17) rfl rfl ?hr ?_; rotate_left; (case hr => go_simp; rfl); intro w3 hw_; obtain ⟨hput, HEc⟩ := put1 (cs' := #[.int .i64 wait, .int .i64 again, .int .i64 pause, .int .i64 now, .int .i64 tk, vl, .pointer (some ⟨go, 0, none⟩), .int .i64 (wrap64 (times + 1)), .int .i64 now, .map (some m)]) hw_ BK_g.out rfl; clear hw_; have OBn_l : Aside0 (OwnE ks (fun _ => False) 39 B w3 vl (line)) := ⟨ks_mv OB_l.out HEc NE_l_g.out⟩; clear OB_l; have OB_l := OBn_l; clear OBn_l; clear lc6_0 lf6_0 lc6_1 lf6_1 lc6_2 lf6_2 lc6_3 lf6_3 lc6_4 lf6_4 lc6_5 lf6_5 lc6_6 lf6_6 lc6_7 lf6_7 lc6_8 lf6_8 lc6_9 lf6_9 lc7_0 lf7_0 lc7_1 lf7_1 lc7_2 lf7_2 lc7_3 lf7_3 lc7_4 lf7_4 lc7_5 lf7_5 lc7_6 lf7_6 lc7_7 lf7_7 lc7_8 lf7_8 lc8_0 lf8_0 lc8_1 lf8_1 lc8_2 lf8_2 lc8_3 lf8_3 lc8_4 lf8_4 lc8_5 lf8_5 lc8_6 lf8_6 lc8_7 lf8_7 lc8_8 lf8_8; have BKn_go : Aside0 (w3.heap[go]? = some (.cells #[.int .i64 (ot), .int .i64 (ou), .int .i64 3, .int .i64 0, .int .i64 1, .slice none 0 0, .int .i64 0, .int .i64 0, .int .i64 0] 39 (0, 0))) := ⟨Ext.blk HEc BK_go.out NE_go_g.out⟩; have BKn_r : Aside0 (w3.heap[r]? = some (.cells #[.int .i64 0, .int .i64 0, .int .i64 0, .int .i64 0, .int .i64 0, .slice none 0 0, .int .i64 0, .int .i64 0, .int .i64 0] 39 (0, 0))) := ⟨Ext.blk HEc BK_r.out NE_r_g.out⟩; have MPn_m : Aside0 (IsMap w3 m (f) (n)) := ⟨IsMap.ext MP_m.out HEc NE_m_g.out⟩; have XTn : Aside0 (Ext (fun k => k = g) w w3) := ⟨XT.out.step HEc (F_g.out)⟩; clear BK_go BK_r MP_m XT; have BK_go := BKn_go; have BK_r := BKn_r; have MP_m := MPn_m; have XT := XTn; clear BKn_go BKn_r MPn_m XTn; clear BK_g; have BK_g : Aside0 (w3.heap[g]? = some (.cells #[.int .i64 wait, .int .i64 again, .int .i64 pause, .int .i64 now, .int .i64 tk, vl, .pointer (some ⟨go, 0, none⟩), .int .i64 (wrap64 (times + 1)), .int .i64 now, .map (some m)] 73 (0, 0))) := ⟨hput⟩; clear hput HEc; have lc9_0 : w3.cell? ⟨g, 0, none⟩ = some (.int .i64 wait) := (blk_cell BK_g.out 0).trans rfl; have lf9_0 := blk_frozen BK_g.out 0; have lc9_1 : w3.cell? ⟨g, 1, none⟩ = some (.int .i64 again) := (blk_cell BK_g.out 1).trans rfl; have lf9_1 := blk_frozen BK_g.out 1; have lc9_2 : w3.cell? ⟨g, 2, none⟩ = some (.int .i64 pause) := (blk_cell BK_g.out 2).trans rfl; have lf9_2 := blk_frozen BK_g.out 2; have lc9_3 : w3.cell? ⟨g, 3, none⟩ = some (.int .i64 now) := (blk_cell BK_g.out 3).trans rfl; have lf9_3 := blk_frozen BK_g.out 3; have lc9_4 : w3.cell? ⟨g, 4, none⟩ = some (.int .i64 tk) := (blk_cell BK_g.out 4).trans rfl; have lf9_4 := blk_frozen BK_g.out 4; have lc9_5 : w3.cell? ⟨g, 5, none⟩ = some (vl) := (blk_cell BK_g.out 5).trans rfl; have lf9_5 := blk_frozen BK_g.out 5; have lc9_6 : w3.cell? ⟨g, 6, none⟩ = some (.pointer (some ⟨go, 0, none⟩)) := (blk_cell BK_g.out 6).trans rfl; have lf9_6 := blk_frozen BK_g.out 6; have lc9_7 : w3.cell? ⟨g, 7, none⟩ = some (.int .i64 (wrap64 (times + 1))) := (blk_cell BK_g.out 7).trans rfl; have lf9_7 := blk_frozen BK_g.out 7; have lc9_8 : w3.cell? ⟨g, 8, none⟩ = some (.int .i64 now) := (blk_cell BK_g.out 8).trans rfl; have lf9_8 := blk_frozen BK_g.out 8; have lc9_9 : w3.cell? ⟨g, 9, none⟩ = some (.map (some m)) := (blk_cell BK_g.out 9).trans rfl; have lf9_9 := blk_frozen BK_g.out 9; have lc10_0 : w3.cell? ⟨go, 0, none⟩ = some (.int .i64 (ot)) := (blk_cell BK_go.out 0).trans rfl; have lf10_0 := blk_frozen BK_go.out 0; have lc10_1 : w3.cell? ⟨go, 1, none⟩ = some (.int .i64 (ou)) := (blk_cell BK_go.out 1).trans rfl; have lf10_1 := blk_frozen BK_go.out 1; have lc10_2 : w3.cell? ⟨go, 2, none⟩ = some (.int .i64 3) := (blk_cell BK_go.out 2).trans rfl; have lf10_2 := blk_frozen BK_go.out 2; have lc10_3 : w3.cell? ⟨go, 3, none⟩ = some (.int .i64 0) := (blk_cell BK_go.out 3).trans rfl; have lf10_3 := blk_frozen BK_go.out 3; have lc10_4 : w3.cell? ⟨go, 4, none⟩ = some (.int .i64 1) := (blk_cell BK_go.out 4).trans rfl; have lf10_4 := blk_frozen BK_go.out 4; have lc10_5 : w3.cell? ⟨go, 5, none⟩ = some (.slice none 0 0) := (blk_cell BK_go.out 5).trans rfl; have lf10_5 := blk_frozen BK_go.out 5; have lc10_6 : w3.cell? ⟨go, 6, none⟩ = some (.int .i64 0) := (blk_cell BK_go.out 6).trans rfl; have lf10_6 := blk_frozen BK_go.out 6; have lc10_7 : w3.cell? ⟨go, 7, none⟩ = some (.int .i64 0) := (blk_cell BK_go.out 7).trans rfl; have lf10_7 := blk_frozen BK_go.out 7; have lc10_8 : w3.cell? ⟨go, 8, none⟩ = some (.int .i64 0) := (blk_cell BK_go.out 8).trans rfl; have lf10_8 := blk_frozen BK_go.out 8; have lc11_0 : w3.cell? ⟨r, 0, none⟩ = some (.int .i64 0) := (blk_cell BK_r.out 0).trans rfl; have lf11_0 := blk_frozen BK_r.out 0; have lc11_1 : w3.cell? ⟨r, 1, none⟩ = some (.int .i64 0) := (blk_cell BK_r.out 1).trans rfl; have lf11_1 := blk_frozen BK_r.out 1; have lc11_2 : w3.cell? ⟨r, 2, none⟩ = some (.int .i64 0) := (blk_cell BK_r.out 2).trans rfl; have lf11_2 := blk_frozen BK_r.out 2; have lc11_3 : w3.cell? ⟨r, 3, none⟩ = some (.int .i64 0) := (blk_cell BK_r.out 3).trans rfl; have lf11_3 := blk_frozen BK_r.out 3; have lc11_4 : w3.cell? ⟨r, 4, none⟩ = some (.int .i64 0) := (blk_cell BK_r.out 4).trans rfl; have lf11_4 := blk_frozen BK_r.out 4; have lc11_5 : w3.cell? ⟨r, 5, none⟩ = some (.slice none 0 0) := (blk_cell BK_r.out 5).trans rfl; have lf11_5 := blk_frozen BK_r.out 5; have lc11_6 : w3.cell? ⟨r, 6, none⟩ = some (.int .i64 0) := (blk_cell BK_r.out 6).trans rfl; have lf11_6 := blk_frozen BK_r.out 6; have lc11_7 : w3.cell? ⟨r, 7, none⟩ = some (.int .i64 0) := (blk_cell BK_r.out 7).trans rfl; have lf11_7 := blk_frozen BK_r.out 7; have lc11_8 : w3.cell? ⟨r, 8, none⟩ = some (.int .i64 0) := (blk_cell BK_r.out 8).trans rfl; have lf11_8 := blk_frozen BK_r.out 8) | ((with_reducible refine gate_dst (N := 3) rfl ?_); refine box_event ?hg (N := 3) ?hd (cs := #[.int .i64 0, .int .i64 0, .int .i64 0, .int .i64 0, .int .i64 0, .slice none 0 0, .int .i64 0, .int .i64 0, .int .i64 0]) (t := 39) ?hr ?_; (case hd => rfl); (case hg => rfl); (case hr => first | (go_simp; done) | (go_simp; rfl)); intro s hg w4 hbox HBc; have NE_l_s : Aside0 (∀ k, (vl).ownBlock = some k → k ≠ s) := ⟨fun k hk e => by have := OwnE.lt OB_l.out k hk; omega⟩; have NE_g_s : Aside0 (g ≠ s) := ⟨ne_born (blk_lt BK_g.out) hg⟩; have NE_s_g : Aside0 (s ≠ g) := ⟨fun e => NE_g_s.out e.symm⟩; have NE_go_s : Aside0 (go ≠ s) := ⟨ne_born (blk_lt BK_go.out) hg⟩; have NE_s_go : Aside0 (s ≠ go) := ⟨fun e => NE_go_s.out e.symm⟩; have NE_r_s : Aside0 (r ≠ s) := ⟨ne_born (blk_lt BK_r.out) hg⟩; have NE_s_r : Aside0 (s ≠ r) := ⟨fun e => NE_r_s.out e.symm⟩; have NE_m_s : Aside0 (m ≠ s) := ⟨ne_born (IsMap.lt MP_m.out) hg⟩; have NE_s_m : Aside0 (s ≠ m) := ⟨fun e => NE_m_s.out e.symm⟩; have F_s : Aside0 (∀ k, k = s → (fun k => k = g) k ∨ w.heap.size ≤ k) := ⟨fnew hg XT.out.size⟩; have RG_s : Aside0 (w.heap.size ≤ s) := ⟨Nat.le_trans XT.out.size (Nat.le_of_eq hg.symm)⟩; have BG_s : Aside0 (B ≤ s) := ⟨Nat.le_trans HBW.out RG_s.out⟩; clear hg; have OBn_l : Aside0 (OwnE ks (fun _ => False) 39 B w4 vl (line)) := ⟨ks_mv OB_l.out (Ext.none_ HBc) (fun _ _ e => e)⟩; clear OB_l; have OB_l := OBn_l; clear OBn_l; clear lc9_0 lf9_0 lc9_1 lf9_1 lc9_2 lf9_2 lc9_3 lf9_3 lc9_4 lf9_4 lc9_5 lf9_5 lc9_6 lf9_6 lc9_7 lf9_7 lc9_8 lf9_8 lc9_9 lf9_9 lc10_0 lf10_0 lc10_1 lf10_1 lc10_2 lf10_2 lc10_3 lf10_3 lc10_4 lf10_4 lc10_5 lf10_5 lc10_6 lf10_6 lc10_7 lf10_7 lc10_8 lf10_8 lc11_0 lf11_0 lc11_1 lf11_1 lc11_2 lf11_2 lc11_3 lf11_3 lc11_4 lf11_4 lc11_5 lf11_5 lc11_6 lf11_6 lc11_7 lf11_7 lc11_8 lf11_8; have BKn_g : Aside0 (w4.heap[g]? = some (.cells #[.int .i64 wait, .int .i64 again, .int .i64 pause, .int .i64 now, .int .i64 tk, vl, .pointer (some ⟨go, 0, none⟩), .int .i64 (wrap64 (times + 1)), .int .i64 now, .map (some m)] 73 (0, 0))) := ⟨Ext.blk (Ext.none_ HBc) BK_g.out (fun e => e)⟩; have BKn_go : Aside0 (w4.heap[go]? = some (.cells #[.int .i64 (ot), .int .i64 (ou), .int .i64 3, .int .i64 0, .int .i64 1, .slice none 0 0, .int .i64 0, .int .i64 0, .int .i64 0] 39 (0, 0))) := ⟨Ext.blk (Ext.none_ HBc) BK_go.out (fun e => e)⟩; have BKn_r : Aside0 (w4.heap[r]? = some (.cells #[.int .i64 0, .int .i64 0, .int .i64 0, .int .i64 0, .int .i64 0, .slice none 0 0, .int .i64 0, .int .i64 0, .int .i64 0] 39 (0, 0))) := ⟨Ext.blk (Ext.none_ HBc) BK_r.out (fun e => e)⟩; have MPn_m : Aside0 (IsMap w4 m (f) (n)) := ⟨IsMap.ext MP_m.out (Ext.none_ HBc) (fun e => e)⟩; have XTn : Aside0 (Ext (fun k => k = g) w w4) := ⟨XT.out.stepB HBc⟩; clear BK_g BK_go BK_r MP_m XT; have BK_g := BKn_g; have BK_go := BKn_go; have BK_r := BKn_r; have MP_m := MPn_m; have XT := XTn; clear BKn_g BKn_go BKn_r MPn_m XTn; have BK_s : Aside0 (w4.heap[s]? = some (.cells #[.int .i64 0, .int .i64 0, .int .i64 0, .int .i64 0, .int .i64 0, .slice none 0 0, .int .i64 0, .int .i64 0, .int .i64 0] 39 (0, 0))) := ⟨hbox⟩; clear hbox HBc; have lc12_0 : w4.cell? ⟨g, 0, none⟩ = some (.int .i64 wait) := (blk_cell BK_g.out 0).trans rfl; have lf12_0 := blk_frozen BK_g.out 0; have lc12_1 : w4.cell? ⟨g, 1, none⟩ = some (.int .i64 again) := (blk_cell BK_g.out 1).trans rfl; have lf12_1 := blk_frozen BK_g.out 1; have lc12_2 : w4.cell? ⟨g, 2, none⟩ = some (.int .i64 pause) := (blk_cell BK_g.out 2).trans rfl; have lf12_2 := blk_frozen BK_g.out 2; have lc12_3 : w4.cell? ⟨g, 3, none⟩ = some (.int .i64 now) := (blk_cell BK_g.out 3).trans rfl; have lf12_3 := blk_frozen BK_g.out 3; have lc12_4 : w4.cell? ⟨g, 4, none⟩ = some (.int .i64 tk) := (blk_cell BK_g.out 4).trans rfl; have lf12_4 := blk_frozen BK_g.out 4; have lc12_5 : w4.cell? ⟨g, 5, none⟩ = some (vl) := (blk_cell BK_g.out 5).trans rfl; have lf12_5 := blk_frozen BK_g.out 5; have lc12_6 : w4.cell? ⟨g, 6, none⟩ = some (.pointer (some ⟨go, 0, none⟩)) := (blk_cell BK_g.out 6).trans rfl; have lf12_6 := blk_frozen BK_g.out 6; have lc12_7 : w4.cell? ⟨g, 7, none⟩ = some (.int .i64 (wrap64 (times + 1))) := (blk_cell BK_g.out 7).trans rfl; have lf12_7 := blk_frozen BK_g.out 7; have lc12_8 : w4.cell? ⟨g, 8, none⟩ = some (.int .i64 now) := (blk_cell BK_g.out 8).trans rfl; have lf12_8 := blk_frozen BK_g.out 8; have lc12_9 : w4.cell? ⟨g, 9, none⟩ = some (.map (some m)) := (blk_cell BK_g.out 9).trans rfl; have lf12_9 := blk_frozen BK_g.out 9; have lc13_0 : w4.cell? ⟨go, 0, none⟩ = some (.int .i64 (ot)) := (blk_cell BK_go.out 0).trans rfl; have lf13_0 := blk_frozen BK_go.out 0; have lc13_1 : w4.cell? ⟨go, 1, none⟩ = some (.int .i64 (ou)) := (blk_cell BK_go.out 1).trans rfl; have lf13_1 := blk_frozen BK_go.out 1; have lc13_2 : w4.cell? ⟨go, 2, none⟩ = some (.int .i64 3) := (blk_cell BK_go.out 2).trans rfl; have lf13_2 := blk_frozen BK_go.out 2; have lc13_3 : w4.cell? ⟨go, 3, none⟩ = some (.int .i64 0) := (blk_cell BK_go.out 3).trans rfl; have lf13_3 := blk_frozen BK_go.out 3; have lc13_4 : w4.cell? ⟨go, 4, none⟩ = some (.int .i64 1) := (blk_cell BK_go.out 4).trans rfl; have lf13_4 := blk_frozen BK_go.out 4; have lc13_5 : w4.cell? ⟨go, 5, none⟩ = some (.slice none 0 0) := (blk_cell BK_go.out 5).trans rfl; have lf13_5 := blk_frozen BK_go.out 5; have lc13_6 : w4.cell? ⟨go, 6, none⟩ = some (.int .i64 0) := (blk_cell BK_go.out 6).trans rfl; have lf13_6 := blk_frozen BK_go.out 6; have lc13_7 : w4.cell? ⟨go, 7, none⟩ = some (.int .i64 0) := (blk_cell BK_go.out 7).trans rfl; have lf13_7 := blk_frozen BK_go.out 7; have lc13_8 : w4.cell? ⟨go, 8, none⟩ = some (.int .i64 0) := (blk_cell BK_go.out 8).trans rfl; have lf13_8 := blk_frozen BK_go.out 8; have lc14_0 : w4.cell? ⟨r, 0, none⟩ = some (.int .i64 0) := (blk_cell BK_r.out 0).trans rfl; have lf14_0 := blk_frozen BK_r.out 0; have lc14_1 : w4.cell? ⟨r, 1, none⟩ = some (.int .i64 0) := (blk_cell BK_r.out 1).trans rfl; have lf14_1 := blk_frozen BK_r.out 1; have lc14_2 : w4.cell? ⟨r, 2, none⟩ = some (.int .i64 0) := (blk_cell BK_r.out 2).trans rfl; have lf14_2 := blk_frozen BK_r.out 2; have lc14_3 : w4.cell? ⟨r, 3, none⟩ = some (.int .i64 0) := (blk_cell BK_r.out 3).trans rfl; have lf14_3 := blk_frozen BK_r.out 3; have lc14_4 : w4.cell? ⟨r, 4, none⟩ = some (.int .i64 0) := (blk_cell BK_r.out 4).trans rfl; have lf14_4 := blk_frozen BK_r.out 4; have lc14_5 : w4.cell? ⟨r, 5, none⟩ = some (.slice none 0 0) := (blk_cell BK_r.out 5).trans rfl; have lf14_5 := blk_frozen BK_r.out 5; have lc14_6 : w4.cell? ⟨r, 6, none⟩ = some (.int .i64 0) := (blk_cell BK_r.out 6).trans rfl; have lf14_6 := blk_frozen BK_r.out 6; have lc14_7 : w4.cell? ⟨r, 7, none⟩ = some (.int .i64 0) := (blk_cell BK_r.out 7).trans rfl; have lf14_7 := blk_frozen BK_r.out 7; have lc14_8 : w4.cell? ⟨r, 8, none⟩ = some (.int .i64 0) := (blk_cell BK_r.out 8).trans rfl; have lf14_8 := blk_frozen BK_r.out 8; have lc15_0 : w4.cell? ⟨s, 0, none⟩ = some (.int .i64 0) := (blk_cell BK_s.out 0).trans rfl; have lf15_0 := blk_frozen BK_s.out 0; have lc15_1 : w4.cell? ⟨s, 1, none⟩ = some (.int .i64 0) := (blk_cell BK_s.out 1).trans rfl; have lf15_1 := blk_frozen BK_s.out 1; have lc15_2 : w4.cell? ⟨s, 2, none⟩ = some (.int .i64 0) := (blk_cell BK_s.out 2).trans rfl; have lf15_2 := blk_frozen BK_s.out 2; have lc15_3 : w4.cell? ⟨s, 3, none⟩ = some (.int .i64 0) := (blk_cell BK_s.out 3).trans rfl; have lf15_3 := blk_frozen BK_s.out 3; have lc15_4 : w4.cell? ⟨s, 4, none⟩ = some (.int .i64 0) := (blk_cell BK_s.out 4).trans rfl; have lf15_4 := blk_frozen BK_s.out 4; have lc15_5 : w4.cell? ⟨s, 5, none⟩ = some (.slice none 0 0) := (blk_cell BK_s.out 5).trans rfl; have lf15_5 := blk_frozen BK_s.out 5; have lc15_6 : w4.cell? ⟨s, 6, none⟩ = some (.int .i64 0) := (blk_cell BK_s.out 6).trans rfl; have lf15_6 := blk_frozen BK_s.out 6; have lc15_7 : w4.cell? ⟨s, 7, none⟩ = some (.int .i64 0) := (blk_cell BK_s.out 7).trans rfl; have lf15_7 := blk_frozen BK_s.out 7; have lc15_8 : w4.cell? ⟨s, 8, none⟩ = some (.int .i64 0) := (blk_cell BK_s.out 8).trans rfl; have lf15_8 := blk_frozen BK_s.out 8) | ((with_reducible refine gate_store (p := 3) rfl ?_); refine store_event (w1 := ?_) rfl (p := 3) rfl rfl ?hr ?_; rotate_left; (case hr => go_simp; rfl); intro w5 hw_; have hput : w5.heap[s]? = some (.cells #[.int .i64 (ot), .int .i64 (ou), .int .i64 3, .int .i64 0, .int .i64 1, .slice none 0 0, .int .i64 0, .int .i64 0, .int .i64 0] 39 (0, 0)) := (by rw [hw_]; refine blk_put (cs := #[.int .i64 (ot), .int .i64 (ou), .int .i64 3, .int .i64 0, .int .i64 1, .slice none 0 0, .int .i64 0, .int .i64 0, .int .i64 0]) ?_ 8 _ rfl; refine blk_put (cs := #[.int .i64 (ot), .int .i64 (ou), .int .i64 3, .int .i64 0, .int .i64 1, .slice none 0 0, .int .i64 0, .int .i64 0, .int .i64 0]) ?_ 7 _ rfl; refine blk_put (cs := #[.int .i64 (ot), .int .i64 (ou), .int .i64 3, .int .i64 0, .int .i64 1, .slice none 0 0, .int .i64 0, .int .i64 0, .int .i64 0]) ?_ 6 _ rfl; refine blk_put (cs := #[.int .i64 (ot), .int .i64 (ou), .int .i64 3, .int .i64 0, .int .i64 1, .slice none 0 0, .int .i64 0, .int .i64 0, .int .i64 0]) ?_ 5 _ rfl; refine blk_put (cs := #[.int .i64 (ot), .int .i64 (ou), .int .i64 3, .int .i64 0, .int .i64 0, .slice none 0 0, .int .i64 0, .int .i64 0, .int .i64 0]) ?_ 4 _ rfl; refine blk_put (cs := #[.int .i64 (ot), .int .i64 (ou), .int .i64 3, .int .i64 0, .int .i64 0, .slice none 0 0, .int .i64 0, .int .i64 0, .int .i64 0]) ?_ 3 _ rfl; refine blk_put (cs := #[.int .i64 (ot), .int .i64 (ou), .int .i64 0, .int .i64 0, .int .i64 0, .slice none 0 0, .int .i64 0, .int .i64 0, .int .i64 0]) ?_ 2 _ rfl; refine blk_put (cs := #[.int .i64 (ot), .int .i64 0, .int .i64 0, .int .i64 0, .int .i64 0, .slice none 0 0, .int .i64 0, .int .i64 0, .int .i64 0]) ?_ 1 _ rfl; refine blk_put (cs := #[.int .i64 0, .int .i64 0, .int .i64 0, .int .i64 0, .int .i64 0, .slice none 0 0, .int .i64 0, .int .i64 0, .int .i64 0]) ?_ 0 _ rfl; exact BK_s.out); have HEc : Ext (fun k => k = s) w4 w5 := (by rw [hw_]; exact ((((((((((Ext.refl _ _).setg _).setg _).setg _).setg _).setg _).setg _).setg _).setg _).setg _)); clear hw_; have OBn_l : Aside0 (OwnE ks (fun _ => False) 39 B w5 vl (line)) := ⟨ks_mv OB_l.out HEc NE_l_s.out⟩; clear OB_l; have OB_l := OBn_l; clear OBn_l; clear lc12_0 lf12_0 lc12_1 lf12_1 lc12_2 lf12_2 lc12_3 lf12_3 lc12_4 lf12_4 lc12_5 lf12_5 lc12_6 lf12_6 lc12_7 lf12_7 lc12_8 lf12_8 lc12_9 lf12_9 lc13_0 lf13_0 lc13_1 lf13_1 lc13_2 lf13_2 lc13_3 lf13_3 lc13_4 lf13_4 lc13_5 lf13_5 lc13_6 lf13_6 lc13_7 lf13_7 lc13_8 lf13_8 lc14_0 lf14_0 lc14_1 lf14_1 lc14_2 lf14_2 lc14_3 lf14_3 lc14_4 lf14_4 lc14_5 lf14_5 lc14_6 lf14_6 lc14_7 lf14_7 lc14_8 lf14_8 lc15_0 lf15_0 lc15_1 lf15_1 lc15_2 lf15_2 lc15_3 lf15_3 lc15_4 lf15_4 lc15_5 lf15_5 lc15_6 lf15_6 lc15_7 lf15_7 lc15_8 lf15_8; have BKn_g : Aside0 (w5.heap[g]? = some (.cells #[.int .i64 wait, .int .i64 again, .int .i64 pause, .int .i64 now, .int .i64 tk, vl, .pointer (some ⟨go, 0, none⟩), .int .i64 (wrap64 (times + 1)), .int .i64 now, .map (some m)] 73 (0, 0))) := ⟨Ext.blk HEc BK_g.out NE_g_s.out⟩; have BKn_go : Aside0 (w5.heap[go]? = some (.cells #[.int .i64 (ot), .int .i64 (ou), .int .i64 3, .int .i64 0, .int .i64 1, .slice none 0 0, .int .i64 0, .int .i64 0, .int .i64 0] 39 (0, 0))) := ⟨Ext.blk HEc BK_go.out NE_go_s.out⟩; have BKn_r : Aside0 (w5.heap[r]? = some (.cells #[.int .i64 0, .int .i64 0, .int .i64 0, .int .i64 0, .int .i64 0, .slice none 0 0, .int .i64 0, .int .i64 0, .int .i64 0] 39 (0, 0))) := ⟨Ext.blk HEc BK_r.out NE_r_s.out⟩; have MPn_m : Aside0 (IsMap w5 m (f) (n)) := ⟨IsMap.ext MP_m.out HEc NE_m_s.out⟩; have XTn : Aside0 (Ext (fun k => k = g) w w5) := ⟨XT.out.step HEc (F_s.out)⟩; clear BK_g BK_go BK_r MP_m XT; have BK_g := BKn_g; have BK_go := BKn_go; have BK_r := BKn_r; have MP_m := MPn_m; have XT := XTn; clear BKn_g BKn_go BKn_r MPn_m XTn; clear BK_s; have BK_s : Aside0 (w5.heap[s]? = some (.cells #[.int .i64 (ot), .int .i64 (ou), .int .i64 3, .int .i64 0, .int .i64 1, .slice none 0 0, .int .i64 0, .int .i64 0, .int .i64 0] 39 (0, 0))) := ⟨hput⟩; clear hput HEc; have lc16_0 : w5.cell? ⟨g, 0, none⟩ = some (.int .i64 wait) := (blk_cell BK_g.out 0).trans rfl; have lf16_0 := blk_frozen BK_g.out 0; have lc16_1 : w5.cell? ⟨g, 1, none⟩ = some (.int .i64 again) := (blk_cell BK_g.out 1).trans rfl; have lf16_1 := blk_frozen BK_g.out 1; have lc16_2 : w5.cell? ⟨g, 2, none⟩ = some (.int .i64 pause) := (blk_cell BK_g.out 2).trans rfl; have lf16_2 := blk_frozen BK_g.out 2; have lc16_3 : w5.cell? ⟨g, 3, none⟩ = some (.int .i64 now) := (blk_cell BK_g.out 3).trans rfl; have lf16_3 := blk_frozen BK_g.out 3; have lc16_4 : w5.cell? ⟨g, 4, none⟩ = some (.int .i64 tk) := (blk_cell BK_g.out 4).trans rfl; have lf16_4 := blk_frozen BK_g.out 4; have lc16_5 : w5.cell? ⟨g, 5, none⟩ = some (vl) := (blk_cell BK_g.out 5).trans rfl; have lf16_5 := blk_frozen BK_g.out 5; have lc16_6 : w5.cell? ⟨g, 6, none⟩ = some (.pointer (some ⟨go, 0, none⟩)) := (blk_cell BK_g.out 6).trans rfl; have lf16_6 := blk_frozen BK_g.out 6; have lc16_7 : w5.cell? ⟨g, 7, none⟩ = some (.int .i64 (wrap64 (times + 1))) := (blk_cell BK_g.out 7).trans rfl; have lf16_7 := blk_frozen BK_g.out 7; have lc16_8 : w5.cell? ⟨g, 8, none⟩ = some (.int .i64 now) := (blk_cell BK_g.out 8).trans rfl; have lf16_8 := blk_frozen BK_g.out 8; have lc16_9 : w5.cell? ⟨g, 9, none⟩ = some (.map (some m)) := (blk_cell BK_g.out 9).trans rfl; have lf16_9 := blk_frozen BK_g.out 9; have lc17_0 : w5.cell? ⟨go, 0, none⟩ = some (.int .i64 (ot)) := (blk_cell BK_go.out 0).trans rfl; have lf17_0 := blk_frozen BK_go.out 0; have lc17_1 : w5.cell? ⟨go, 1, none⟩ = some (.int .i64 (ou)) := (blk_cell BK_go.out 1).trans rfl; have lf17_1 := blk_frozen BK_go.out 1; have lc17_2 : w5.cell? ⟨go, 2, none⟩ = some (.int .i64 3) := (blk_cell BK_go.out 2).trans rfl; have lf17_2 := blk_frozen BK_go.out 2; have lc17_3 : w5.cell? ⟨go, 3, none⟩ = some (.int .i64 0) := (blk_cell BK_go.out 3).trans rfl; have lf17_3 := blk_frozen BK_go.out 3; have lc17_4 : w5.cell? ⟨go, 4, none⟩ = some (.int .i64 1) := (blk_cell BK_go.out 4).trans rfl; have lf17_4 := blk_frozen BK_go.out 4; have lc17_5 : w5.cell? ⟨go, 5, none⟩ = some (.slice none 0 0) := (blk_cell BK_go.out 5).trans rfl; have lf17_5 := blk_frozen BK_go.out 5; have lc17_6 : w5.cell? ⟨go, 6, none⟩ = some (.int .i64 0) := (blk_cell BK_go.out 6).trans rfl; have lf17_6 := blk_frozen BK_go.out 6; have lc17_7 : w5.cell? ⟨go, 7, none⟩ = some (.int .i64 0) := (blk_cell BK_go.out 7).trans rfl; have lf17_7 := blk_frozen BK_go.out 7; have lc17_8 : w5.cell? ⟨go, 8, none⟩ = some (.int .i64 0) := (blk_cell BK_go.out 8).trans rfl; have lf17_8 := blk_frozen BK_go.out 8; have lc18_0 : w5.cell? ⟨r, 0, none⟩ = some (.int .i64 0) := (blk_cell BK_r.out 0).trans rfl; have lf18_0 := blk_frozen BK_r.out 0; have lc18_1 : w5.cell? ⟨r, 1, none⟩ = some (.int .i64 0) := (blk_cell BK_r.out 1).trans rfl; have lf18_1 := blk_frozen BK_r.out 1; have lc18_2 : w5.cell? ⟨r, 2, none⟩ = some (.int .i64 0) := (blk_cell BK_r.out 2).trans rfl; have lf18_2 := blk_frozen BK_r.out 2; have lc18_3 : w5.cell? ⟨r, 3, none⟩ = some (.int .i64 0) := (blk_cell BK_r.out 3).trans rfl; have lf18_3 := blk_frozen BK_r.out 3; have lc18_4 : w5.cell? ⟨r, 4, none⟩ = some (.int .i64 0) := (blk_cell BK_r.out 4).trans rfl; have lf18_4 := blk_frozen BK_r.out 4; have lc18_5 : w5.cell? ⟨r, 5, none⟩ = some (.slice none 0 0) := (blk_cell BK_r.out 5).trans rfl; have lf18_5 := blk_frozen BK_r.out 5; have lc18_6 : w5.cell? ⟨r, 6, none⟩ = some (.int .i64 0) := (blk_cell BK_r.out 6).trans rfl; have lf18_6 := blk_frozen BK_r.out 6; have lc18_7 : w5.cell? ⟨r, 7, none⟩ = some (.int .i64 0) := (blk_cell BK_r.out 7).trans rfl; have lf18_7 := blk_frozen BK_r.out 7; have lc18_8 : w5.cell? ⟨r, 8, none⟩ = some (.int .i64 0) := (blk_cell BK_r.out 8).trans rfl; have lf18_8 := blk_frozen BK_r.out 8; have lc19_0 : w5.cell? ⟨s, 0, none⟩ = some (.int .i64 (ot)) := (blk_cell BK_s.out 0).trans rfl; have lf19_0 := blk_frozen BK_s.out 0; have lc19_1 : w5.cell? ⟨s, 1, none⟩ = some (.int .i64 (ou)) := (blk_cell BK_s.out 1).trans rfl; have lf19_1 := blk_frozen BK_s.out 1; have lc19_2 : w5.cell? ⟨s, 2, none⟩ = some (.int .i64 3) := (blk_cell BK_s.out 2).trans rfl; have lf19_2 := blk_frozen BK_s.out 2; have lc19_3 : w5.cell? ⟨s, 3, none⟩ = some (.int .i64 0) := (blk_cell BK_s.out 3).trans rfl; have lf19_3 := blk_frozen BK_s.out 3; have lc19_4 : w5.cell? ⟨s, 4, none⟩ = some (.int .i64 1) := (blk_cell BK_s.out 4).trans rfl; have lf19_4 := blk_frozen BK_s.out 4; have lc19_5 : w5.cell? ⟨s, 5, none⟩ = some (.slice none 0 0) := (blk_cell BK_s.out 5).trans rfl; have lf19_5 := blk_frozen BK_s.out 5; have lc19_6 : w5.cell? ⟨s, 6, none⟩ = some (.int .i64 0) := (blk_cell BK_s.out 6).trans rfl; have lf19_6 := blk_frozen BK_s.out 6; have lc19_7 : w5.cell? ⟨s, 7, none⟩ = some (.int .i64 0) := (blk_cell BK_s.out 7).trans rfl; have lf19_7 := blk_frozen BK_s.out 7; have lc19_8 : w5.cell? ⟨s, 8, none⟩ = some (.int .i64 0) := (blk_cell BK_s.out 8).trans rfl; have lf19_8 := blk_frozen BK_s.out 8) | (go_at_call 30; refine (clone_nil _).mono ?_; rintro e w' ⟨rfl, rfl⟩) | ((with_reducible refine gate_store (p := 29) rfl ?_); refine store_event (w1 := ?_) rfl (p := 29) rfl rfl ?hr ?_; rotate_left; (case hr => go_simp; rfl); intro w6 hw_; obtain ⟨hput, HEc⟩ := put1 (cs' := #[.int .i64 (ot), .int .i64 (ou), .int .i64 3, .int .i64 0, .int .i64 1, .slice none 0 0, .int .i64 0, .int .i64 0, .int .i64 0]) hw_ BK_s.out rfl; clear hw_; have OBn_l : Aside0 (OwnE ks (fun _ => False) 39 B w6 vl (line)) := ⟨ks_mv OB_l.out HEc NE_l_s.out⟩; clear OB_l; have OB_l := OBn_l; clear OBn_l; clear lc16_0 lf16_0 lc16_1 lf16_1 lc16_2 lf16_2 lc16_3 lf16_3 lc16_4 lf16_4 lc16_5 lf16_5 lc16_6 lf16_6 lc16_7 lf16_7 lc16_8 lf16_8 lc16_9 lf16_9 lc17_0 lf17_0 lc17_1 lf17_1 lc17_2 lf17_2 lc17_3 lf17_3 lc17_4 lf17_4 lc17_5 lf17_5 lc17_6 lf17_6 lc17_7 lf17_7 lc17_8 lf17_8 lc18_0 lf18_0 lc18_1 lf18_1 lc18_2 lf18_2 lc18_3 lf18_3 lc18_4 lf18_4 lc18_5 lf18_5 lc18_6 lf18_6 lc18_7 lf18_7 lc18_8 lf18_8 lc19_0 lf19_0 lc19_1 lf19_1 lc19_2 lf19_2 lc19_3 lf19_3 lc19_4 lf19_4 lc19_5 lf19_5 lc19_6 lf19_6 lc19_7 lf19_7 lc19_8 lf19_8; have BKn_g : Aside0 (w6.heap[g]? = some (.cells #[.int .i64 wait, .int .i64 again, .int .i64 pause, .int .i64 now, .int .i64 tk, vl, .pointer (some ⟨go, 0, none⟩), .int .i64 (wrap64 (times + 1)), .int .i64 now, .map (some m)] 73 (0, 0))) := ⟨Ext.blk HEc BK_g.out NE_g_s.out⟩; have BKn_go : Aside0 (w6.heap[go]? = some (.cells #[.int .i64 (ot), .int .i64 (ou), .int .i64 3, .int .i64 0, .int .i64 1, .slice none 0 0, .int .i64 0, .int .i64 0, .int .i64 0] 39 (0, 0))) := ⟨Ext.blk HEc BK_go.out NE_go_s.out⟩; have BKn_r : Aside0 (w6.heap[r]? = some (.cells #[.int .i64 0, .int .i64 0, .int .i64 0, .int .i64 0, .int .i64 0, .slice none 0 0, .int .i64 0, .int .i64 0, .int .i64 0] 39 (0, 0))) := ⟨Ext.blk HEc BK_r.out NE_r_s.out⟩; have MPn_m : Aside0 (IsMap w6 m (f) (n)) := ⟨IsMap.ext MP_m.out HEc NE_m_s.out⟩; have XTn : Aside0 (Ext (fun k => k = g) w w6) := ⟨XT.out.step HEc (F_s.out)⟩; clear BK_g BK_go BK_r MP_m XT; have BK_g := BKn_g; have BK_go := BKn_go; have BK_r := BKn_r; have MP_m := MPn_m; have XT := XTn; clear BKn_g BKn_go BKn_r MPn_m XTn; clear BK_s; have BK_s : Aside0 (w6.heap[s]? = some (.cells #[.int .i64 (ot), .int .i64 (ou), .int .i64 3, .int .i64 0, .int .i64 1, .slice none 0 0, .int .i64 0, .int .i64 0, .int .i64 0] 39 (0, 0))) := ⟨hput⟩; clear hput HEc; have lc20_0 : w6.cell? ⟨g, 0, none⟩ = some (.int .i64 wait) := (blk_cell BK_g.out 0).trans rfl; have lf20_0 := blk_frozen BK_g.out 0; have lc20_1 : w6.cell? ⟨g, 1, none⟩ = some (.int .i64 again) := (blk_cell BK_g.out 1).trans rfl; have lf20_1 := blk_frozen BK_g.out 1; have lc20_2 : w6.cell? ⟨g, 2, none⟩ = some (.int .i64 pause) := (blk_cell BK_g.out 2).trans rfl; have lf20_2 := blk_frozen BK_g.out 2; have lc20_3 : w6.cell? ⟨g, 3, none⟩ = some (.int .i64 now) := (blk_cell BK_g.out 3).trans rfl; have lf20_3 := blk_frozen BK_g.out 3; have lc20_4 : w6.cell? ⟨g, 4, none⟩ = some (.int .i64 tk) := (blk_cell BK_g.out 4).trans rfl; have lf20_4 := blk_frozen BK_g.out 4; have lc20_5 : w6.cell? ⟨g, 5, none⟩ = some (vl) := (blk_cell BK_g.out 5).trans rfl; have lf20_5 := blk_frozen BK_g.out 5; have lc20_6 : w6.cell? ⟨g, 6, none⟩ = some (.pointer (some ⟨go, 0, none⟩)) := (blk_cell BK_g.out 6).trans rfl; have lf20_6 := blk_frozen BK_g.out 6; have lc20_7 : w6.cell? ⟨g, 7, none⟩ = some (.int .i64 (wrap64 (times + 1))) := (blk_cell BK_g.out 7).trans rfl; have lf20_7 := blk_frozen BK_g.out 7; have lc20_8 : w6.cell? ⟨g, 8, none⟩ = some (.int .i64 now) := (blk_cell BK_g.out 8).trans rfl; have lf20_8 := blk_frozen BK_g.out 8; have lc20_9 : w6.cell? ⟨g, 9, none⟩ = some (.map (some m)) := (blk_cell BK_g.out 9).trans rfl; have lf20_9 := blk_frozen BK_g.out 9; have lc21_0 : w6.cell? ⟨go, 0, none⟩ = some (.int .i64 (ot)) := (blk_cell BK_go.out 0).trans rfl; have lf21_0 := blk_frozen BK_go.out 0; have lc21_1 : w6.cell? ⟨go, 1, none⟩ = some (.int .i64 (ou)) := (blk_cell BK_go.out 1).trans rfl; have lf21_1 := blk_frozen BK_go.out 1; have lc21_2 : w6.cell? ⟨go, 2, none⟩ = some (.int .i64 3) := (blk_cell BK_go.out 2).trans rfl; have lf21_2 := blk_frozen BK_go.out 2; have lc21_3 : w6.cell? ⟨go, 3, none⟩ = some (.int .i64 0) := (blk_cell BK_go.out 3).trans rfl; have lf21_3 := blk_frozen BK_go.out 3; have lc21_4 : w6.cell? ⟨go, 4, none⟩ = some (.int .i64 1) := (blk_cell BK_go.out 4).trans rfl; have lf21_4 := blk_frozen BK_go.out 4; have lc21_5 : w6.cell? ⟨go, 5, none⟩ = some (.slice none 0 0) := (blk_cell BK_go.out 5).trans rfl; have lf21_5 := blk_frozen BK_go.out 5; have lc21_6 : w6.cell? ⟨go, 6, none⟩ = some (.int .i64 0) := (blk_cell BK_go.out 6).trans rfl; have lf21_6 := blk_frozen BK_go.out 6; have lc21_7 : w6.cell? ⟨go, 7, none⟩ = some (.int .i64 0) := (blk_cell BK_go.out 7).trans rfl; have lf21_7 := blk_frozen BK_go.out 7; have lc21_8 : w6.cell? ⟨go, 8, none⟩ = some (.int .i64 0) := (blk_cell BK_go.out 8).trans rfl; have lf21_8 := blk_frozen BK_go.out 8; have lc22_0 : w6.cell? ⟨r, 0, none⟩ = some (.int .i64 0) := (blk_cell BK_r.out 0).trans rfl; have lf22_0 := blk_frozen BK_r.out 0; have lc22_1 : w6.cell? ⟨r, 1, none⟩ = some (.int .i64 0) := (blk_cell BK_r.out 1).trans rfl; have lf22_1 := blk_frozen BK_r.out 1; have lc22_2 : w6.cell? ⟨r, 2, none⟩ = some (.int .i64 0) := (blk_cell BK_r.out 2).trans rfl; have lf22_2 := blk_frozen BK_r.out 2; have lc22_3 : w6.cell? ⟨r, 3, none⟩ = some (.int .i64 0) := (blk_cell BK_r.out 3).trans rfl; have lf22_3 := blk_frozen BK_r.out 3; have lc22_4 : w6.cell? ⟨r, 4, none⟩ = some (.int .i64 0) := (blk_cell BK_r.out 4).trans rfl; have lf22_4 := blk_frozen BK_r.out 4; have lc22_5 : w6.cell? ⟨r, 5, none⟩ = some (.slice none 0 0) := (blk_cell BK_r.out 5).trans rfl; have lf22_5 := blk_frozen BK_r.out 5; have lc22_6 : w6.cell? ⟨r, 6, none⟩ = some (.int .i64 0) := (blk_cell BK_r.out 6).trans rfl; have lf22_6 := blk_frozen BK_r.out 6; have lc22_7 : w6.cell? ⟨r, 7, none⟩ = some (.int .i64 0) := (blk_cell BK_r.out 7).trans rfl; have lf22_7 := blk_frozen BK_r.out 7; have lc22_8 : w6.cell? ⟨r, 8, none⟩ = some (.int .i64 0) := (blk_cell BK_r.out 8).trans rfl; have lf22_8 := blk_frozen BK_r.out 8; have lc23_0 : w6.cell? ⟨s, 0, none⟩ = some (.int .i64 (ot)) := (blk_cell BK_s.out 0).trans rfl; have lf23_0 := blk_frozen BK_s.out 0; have lc23_1 : w6.cell? ⟨s, 1, none⟩ = some (.int .i64 (ou)) := (blk_cell BK_s.out 1).trans rfl; have lf23_1 := blk_frozen BK_s.out 1; have lc23_2 : w6.cell? ⟨s, 2, none⟩ = some (.int .i64 3) := (blk_cell BK_s.out 2).trans rfl; have lf23_2 := blk_frozen BK_s.out 2; have lc23_3 : w6.cell? ⟨s, 3, none⟩ = some (.int .i64 0) := (blk_cell BK_s.out 3).trans rfl; have lf23_3 := blk_frozen BK_s.out 3; have lc23_4 : w6.cell? ⟨s, 4, none⟩ = some (.int .i64 1) := (blk_cell BK_s.out 4).trans rfl; have lf23_4 := blk_frozen BK_s.out 4; have lc23_5 : w6.cell? ⟨s, 5, none⟩ = some (.slice none 0 0) := (blk_cell BK_s.out 5).trans rfl; have lf23_5 := blk_frozen BK_s.out 5; have lc23_6 : w6.cell? ⟨s, 6, none⟩ = some (.int .i64 0) := (blk_cell BK_s.out 6).trans rfl; have lf23_6 := blk_frozen BK_s.out 6; have lc23_7 : w6.cell? ⟨s, 7, none⟩ = some (.int .i64 0) := (blk_cell BK_s.out 7).trans rfl; have lf23_7 := blk_frozen BK_s.out 7; have lc23_8 : w6.cell? ⟨s, 8, none⟩ = some (.int .i64 0) := (blk_cell BK_s.out 8).trans rfl; have lf23_8 := blk_frozen BK_s.out 8) | ((with_reducible refine gate_store (p := 2) rfl ?_); refine store_event (w1 := ?_) rfl (p := 2) rfl rfl ?hr ?_; rotate_left; (case hr => go_simp; rfl); intro w7 hw_; have hput : w7.heap[r]? = some (.cells #[.int .i64 (ot), .int .i64 (ou), .int .i64 3, .int .i64 0, .int .i64 1, .slice none 0 0, .int .i64 0, .int .i64 0, .int .i64 0] 39 (0, 0)) := (by rw [hw_]; refine blk_put (cs := #[.int .i64 (ot), .int .i64 (ou), .int .i64 3, .int .i64 0, .int .i64 1, .slice none 0 0, .int .i64 0, .int .i64 0, .int .i64 0]) ?_ 8 _ rfl; refine blk_put (cs := #[.int .i64 (ot), .int .i64 (ou), .int .i64 3, .int .i64 0, .int .i64 1, .slice none 0 0, .int .i64 0, .int .i64 0, .int .i64 0]) ?_ 7 _ rfl; refine blk_put (cs := #[.int .i64 (ot), .int .i64 (ou), .int .i64 3, .int .i64 0, .int .i64 1, .slice none 0 0, .int .i64 0, .int .i64 0, .int .i64 0]) ?_ 6 _ rfl; refine blk_put (cs := #[.int .i64 (ot), .int .i64 (ou), .int .i64 3, .int .i64 0, .int .i64 1, .slice none 0 0, .int .i64 0, .int .i64 0, .int .i64 0]) ?_ 5 _ rfl; refine blk_put (cs := #[.int .i64 (ot), .int .i64 (ou), .int .i64 3, .int .i64 0, .int .i64 0, .slice none 0 0, .int .i64 0, .int .i64 0, .int .i64 0]) ?_ 4 _ rfl; refine blk_put (cs := #[.int .i64 (ot), .int .i64 (ou), .int .i64 3, .int .i64 0, .int .i64 0, .slice none 0 0, .int .i64 0, .int .i64 0, .int .i64 0]) ?_ 3 _ rfl; refine blk_put (cs := #[.int .i64 (ot), .int .i64 (ou), .int .i64 0, .int .i64 0, .int .i64 0, .slice none 0 0, .int .i64 0, .int .i64 0, .int .i64 0]) ?_ 2 _ rfl; refine blk_put (cs := #[.int .i64 (ot), .int .i64 0, .int .i64 0, .int .i64 0, .int .i64 0, .slice none 0 0, .int .i64 0, .int .i64 0, .int .i64 0]) ?_ 1 _ rfl; refine blk_put (cs := #[.int .i64 0, .int .i64 0, .int .i64 0, .int .i64 0, .int .i64 0, .slice none 0 0, .int .i64 0, .int .i64 0, .int .i64 0]) ?_ 0 _ rfl; exact BK_r.out); have HEc : Ext (fun k => k = r) w6 w7 := (by rw [hw_]; exact ((((((((((Ext.refl _ _).setg _).setg _).setg _).setg _).setg _).setg _).setg _).setg _).setg _)); clear hw_; have OBn_l : Aside0 (OwnE ks (fun _ => False) 39 B w7 vl (line)) := ⟨ks_mv OB_l.out HEc NE_l_r.out⟩; clear OB_l; have OB_l := OBn_l; clear OBn_l; clear lc20_0 lf20_0 lc20_1 lf20_1 lc20_2 lf20_2 lc20_3 lf20_3 lc20_4 lf20_4 lc20_5 lf20_5 lc20_6 lf20_6 lc20_7 lf20_7 lc20_8 lf20_8 lc20_9 lf20_9 lc21_0 lf21_0 lc21_1 lf21_1 lc21_2 lf21_2 lc21_3 lf21_3 lc21_4 lf21_4 lc21_5 lf21_5 lc21_6 lf21_6 lc21_7 lf21_7 lc21_8 lf21_8 lc22_0 lf22_0 lc22_1 lf22_1 lc22_2 lf22_2 lc22_3 lf22_3 lc22_4 lf22_4 lc22_5 lf22_5 lc22_6 lf22_6 lc22_7 lf22_7 lc22_8 lf22_8 lc23_0 lf23_0 lc23_1 lf23_1 lc23_2 lf23_2 lc23_3 lf23_3 lc23_4 lf23_4 lc23_5 lf23_5 lc23_6 lf23_6 lc23_7 lf23_7 lc23_8 lf23_8; have BKn_g : Aside0 (w7.heap[g]? = some (.cells #[.int .i64 wait, .int .i64 again, .int .i64 pause, .int .i64 now, .int .i64 tk, vl, .pointer (some ⟨go, 0, none⟩), .int .i64 (wrap64 (times + 1)), .int .i64 now, .map (some m)] 73 (0, 0))) := ⟨Ext.blk HEc BK_g.out NE_g_r.out⟩; have BKn_go : Aside0 (w7.heap[go]? = some (.cells #[.int .i64 (ot), .int .i64 (ou), .int .i64 3, .int .i64 0, .int .i64 1, .slice none 0 0, .int .i64 0, .int .i64 0, .int .i64 0] 39 (0, 0))) := ⟨Ext.blk HEc BK_go.out NE_go_r.out⟩; have BKn_s : Aside0 (w7.heap[s]? = some (.cells #[.int .i64 (ot), .int .i64 (ou), .int .i64 3, .int .i64 0, .int .i64 1, .slice none 0 0, .int .i64 0, .int .i64 0, .int .i64 0] 39 (0, 0))) := ⟨Ext.blk HEc BK_s.out NE_s_r.out⟩; have MPn_m : Aside0 (IsMap w7 m (f) (n)) := ⟨IsMap.ext MP_m.out HEc NE_m_r.out⟩; have XTn : Aside0 (Ext (fun k => k = g) w w7) := ⟨XT.out.step HEc (F_r.out)⟩; clear BK_g BK_go BK_s MP_m XT; have BK_g := BKn_g; have BK_go := BKn_go; have BK_s := BKn_s; have MP_m := MPn_m; have XT := XTn; clear BKn_g BKn_go BKn_s MPn_m XTn; clear BK_r; have BK_r : Aside0 (w7.heap[r]? = some (.cells #[.int .i64 (ot), .int .i64 (ou), .int .i64 3, .int .i64 0, .int .i64 1, .slice none 0 0, .int .i64 0, .int .i64 0, .int .i64 0] 39 (0, 0))) := ⟨hput⟩; clear hput HEc; have lc24_0 : w7.cell? ⟨g, 0, none⟩ = some (.int .i64 wait) := (blk_cell BK_g.out 0).trans rfl; have lf24_0 := blk_frozen BK_g.out 0; have lc24_1 : w7.cell? ⟨g, 1, none⟩ = some (.int .i64 again) := (blk_cell BK_g.out 1).trans rfl; have lf24_1 := blk_frozen BK_g.out 1; have lc24_2 : w7.cell? ⟨g, 2, none⟩ = some (.int .i64 pause) := (blk_cell BK_g.out 2).trans rfl; have lf24_2 := blk_frozen BK_g.out 2; have lc24_3 : w7.cell? ⟨g, 3, none⟩ = some (.int .i64 now) := (blk_cell BK_g.out 3).trans rfl; have lf24_3 := blk_frozen BK_g.out 3; have lc24_4 : w7.cell? ⟨g, 4, none⟩ = some (.int .i64 tk) := (blk_cell BK_g.out 4).trans rfl; have lf24_4 := blk_frozen BK_g.out 4; have lc24_5 : w7.cell? ⟨g, 5, none⟩ = some (vl) := (blk_cell BK_g.out 5).trans rfl; have lf24_5 := blk_frozen BK_g.out 5; have lc24_6 : w7.cell? ⟨g, 6, none⟩ = some (.pointer (some ⟨go, 0, none⟩)) := (blk_cell BK_g.out 6).trans rfl; have lf24_6 := blk_frozen BK_g.out 6; have lc24_7 : w7.cell? ⟨g, 7, none⟩ = some (.int .i64 (wrap64 (times + 1))) := (blk_cell BK_g.out 7).trans rfl; have lf24_7 := blk_frozen BK_g.out 7; have lc24_8 : w7.cell? ⟨g, 8, none⟩ = some (.int .i64 now) := (blk_cell BK_g.out 8).trans rfl; have lf24_8 := blk_frozen BK_g.out 8; have lc24_9 : w7.cell? ⟨g, 9, none⟩ = some (.map (some m)) := (blk_cell BK_g.out 9).trans rfl; have lf24_9 := blk_frozen BK_g.out 9; have lc25_0 : w7.cell? ⟨go, 0, none⟩ = some (.int .i64 (ot)) := (blk_cell BK_go.out 0).trans rfl; have lf25_0 := blk_frozen BK_go.out 0; have lc25_1 : w7.cell? ⟨go, 1, none⟩ = some (.int .i64 (ou)) := (blk_cell BK_go.out 1).trans rfl; have lf25_1 := blk_frozen BK_go.out 1; have lc25_2 : w7.cell? ⟨go, 2, none⟩ = some (.int .i64 3) := (blk_cell BK_go.out 2).trans rfl; have lf25_2 := blk_frozen BK_go.out 2; have lc25_3 : w7.cell? ⟨go, 3, none⟩ = some (.int .i64 0) := (blk_cell BK_go.out 3).trans rfl; have lf25_3 := blk_frozen BK_go.out 3; have lc25_4 : w7.cell? ⟨go, 4, none⟩ = some (.int .i64 1) := (blk_cell BK_go.out 4).trans rfl; have lf25_4 := blk_frozen BK_go.out 4; have lc25_5 : w7.cell? ⟨go, 5, none⟩ = some (.slice none 0 0) := (blk_cell BK_go.out 5).trans rfl; have lf25_5 := blk_frozen BK_go.out 5; have lc25_6 : w7.cell? ⟨go, 6, none⟩ = some (.int .i64 0) := (blk_cell BK_go.out 6).trans rfl; have lf25_6 := blk_frozen BK_go.out 6; have lc25_7 : w7.cell? ⟨go, 7, none⟩ = some (.int .i64 0) := (blk_cell BK_go.out 7).trans rfl; have lf25_7 := blk_frozen BK_go.out 7; have lc25_8 : w7.cell? ⟨go, 8, none⟩ = some (.int .i64 0) := (blk_cell BK_go.out 8).trans rfl; have lf25_8 := blk_frozen BK_go.out 8; have lc26_0 : w7.cell? ⟨r, 0, none⟩ = some (.int .i64 (ot)) := (blk_cell BK_r.out 0).trans rfl; have lf26_0 := blk_frozen BK_r.out 0; have lc26_1 : w7.cell? ⟨r, 1, none⟩ = some (.int .i64 (ou)) := (blk_cell BK_r.out 1).trans rfl; have lf26_1 := blk_frozen BK_r.out 1; have lc26_2 : w7.cell? ⟨r, 2, none⟩ = some (.int .i64 3) := (blk_cell BK_r.out 2).trans rfl; have lf26_2 := blk_frozen BK_r.out 2; have lc26_3 : w7.cell? ⟨r, 3, none⟩ = some (.int .i64 0) := (blk_cell BK_r.out 3).trans rfl; have lf26_3 := blk_frozen BK_r.out 3; have lc26_4 : w7.cell? ⟨r, 4, none⟩ = some (.int .i64 1) := (blk_cell BK_r.out 4).trans rfl; have lf26_4 := blk_frozen BK_r.out 4; have lc26_5 : w7.cell? ⟨r, 5, none⟩ = some (.slice none 0 0) := (blk_cell BK_r.out 5).trans rfl; have lf26_5 := blk_frozen BK_r.out 5; have lc26_6 : w7.cell? ⟨r, 6, none⟩ = some (.int .i64 0) := (blk_cell BK_r.out 6).trans rfl; have lf26_6 := blk_frozen BK_r.out 6; have lc26_7 : w7.cell? ⟨r, 7, none⟩ = some (.int .i64 0) := (blk_cell BK_r.out 7).trans rfl; have lf26_7 := blk_frozen BK_r.out 7; have lc26_8 : w7.cell? ⟨r, 8, none⟩ = some (.int .i64 0) := (blk_cell BK_r.out 8).trans rfl; have lf26_8 := blk_frozen BK_r.out 8; have lc27_0 : w7.cell? ⟨s, 0, none⟩ = some (.int .i64 (ot)) := (blk_cell BK_s.out 0).trans rfl; have lf27_0 := blk_frozen BK_s.out 0; have lc27_1 : w7.cell? ⟨s, 1, none⟩ = some (.int .i64 (ou)) := (blk_cell BK_s.out 1).trans rfl; have lf27_1 := blk_frozen BK_s.out 1; have lc27_2 : w7.cell? ⟨s, 2, none⟩ = some (.int .i64 3) := (blk_cell BK_s.out 2).trans rfl; have lf27_2 := blk_frozen BK_s.out 2; have lc27_3 : w7.cell? ⟨s, 3, none⟩ = some (.int .i64 0) := (blk_cell BK_s.out 3).trans rfl; have lf27_3 := blk_frozen BK_s.out 3; have lc27_4 : w7.cell? ⟨s, 4, none⟩ = some (.int .i64 1) := (blk_cell BK_s.out 4).trans rfl; have lf27_4 := blk_frozen BK_s.out 4; have lc27_5 : w7.cell? ⟨s, 5, none⟩ = some (.slice none 0 0) := (blk_cell BK_s.out 5).trans rfl; have lf27_5 := blk_frozen BK_s.out 5; have lc27_6 : w7.cell? ⟨s, 6, none⟩ = some (.int .i64 0) := (blk_cell BK_s.out 6).trans rfl; have lf27_6 := blk_frozen BK_s.out 6; have lc27_7 : w7.cell? ⟨s, 7, none⟩ = some (.int .i64 0) := (blk_cell BK_s.out 7).trans rfl; have lf27_7 := blk_frozen BK_s.out 7; have lc27_8 : w7.cell? ⟨s, 8, none⟩ = some (.int .i64 0) := (blk_cell BK_s.out 8).trans rfl; have lf27_8 := blk_frozen BK_s.out 8))
  refine bodyPost_ret (results_cell_row rfl _ _ r 39 #[.int .i64 (ot), .int .i64 (ou), .int .i64 3, .int .i64 0, .int .i64 1, .slice none 0 0, .int .i64 0, .int .i64 0, .int .i64 0] (0, 0) _ rfl BK_r.out Try.underlying39 rfl (by kernel_rfl)) rfl ?_
  exact ⟨rfl, ⟨⟨_, _, BK_g.out, OB_l.out, ⟨go, rfl, BK_go.out, BGO.out, NE_l_go.out⟩⟩, ⟨_, _, MP_m.out, HF.out⟩, BG.out, BM.out⟩, XT.out⟩
set_option maxHeartbeats 4000000 in
set_option maxRecDepth 100000 in
theorem goon_f {B : Nat} {w : World} {g m : Nat} {wait again pause now tk times last : Int} {line : List (Int × Int)} {rest : Int → Int} {out : Option (Int × Int)} (h : IsM B w g m ⟨wait, again, pause, now, tk, line, out, times, last, rest⟩) (hB : B ≤ w.heap.size) (t : Int) (h0 : 0 ≤ t) (h1 : now ≤ t) : Calls Try.prog 31 #[.pointer (some ⟨g, 0, none⟩), .int .i64 t] w fun e w' => e = .returned (.int .i64 0) ∧ IsM B w' g m ⟨wait, again, pause, t, tk, line, out, times, last, rest⟩ ∧ Ext (fun k => k = g) w w' := by
  have q0 : decide (t < 0) = false := decide_eq_false (by omega)
  have q1 : decide (t < now) = false := decide_eq_false (by omega)
  clear h0 h1
  have HBW := Aside0.mk hB
  obtain ⟨⟨vl, vo, hb, hl, ho⟩, ⟨f, n, hm, hf⟩, bg, bm⟩ := h
  have BK_g : Aside0 (w.heap[g]? = some (.cells #[.int .i64 wait, .int .i64 again, .int .i64 pause, .int .i64 now, .int .i64 tk, vl, vo, .int .i64 times, .int .i64 last, .map (some m)] 73 (0, 0))) := ⟨hb⟩
  have OB_l : Aside0 (OwnE ks (fun _ => False) 39 B w vl (line)) := ⟨hl⟩
  have MP_m := Aside0.mk hm; have HF := Aside0.mk hf; have BG := Aside0.mk bg; have BM := Aside0.mk bm
  have NE_l_g : Aside0 (∀ k, (vl).ownBlock = some k → k ≠ g) := ⟨ks_ne hl hb (by decide)⟩; have NE_l_m : Aside0 (∀ k, (vl).ownBlock = some k → k ≠ m) := ⟨ks_nm hl hm⟩; have NE_g_m : Aside0 (g ≠ m) := ⟨cell_nm hb hm⟩; have NE_m_g : Aside0 (m ≠ g) := ⟨fun e => NE_g_m.out e.symm⟩; have F_g : Aside0 (∀ k, k = g → k = g ∨ w.heap.size ≤ k) := ⟨fun k e => .inl e⟩
  have HO : Aside0 (IsOut B w vl vo out) := ⟨ho⟩; clear ho
  clear hb hl hm hf bg bm hB
  have XT : Aside0 (Ext (fun k => k = g) w w) := ⟨Ext.refl _ _⟩
  have lc1_0 : w.cell? ⟨g, 0, none⟩ = some (.int .i64 wait) := (blk_cell BK_g.out 0).trans rfl
  have lf1_0 := blk_frozen BK_g.out 0
  have lc1_1 : w.cell? ⟨g, 1, none⟩ = some (.int .i64 again) := (blk_cell BK_g.out 1).trans rfl
  have lf1_1 := blk_frozen BK_g.out 1
  have lc1_2 : w.cell? ⟨g, 2, none⟩ = some (.int .i64 pause) := (blk_cell BK_g.out 2).trans rfl
  have lf1_2 := blk_frozen BK_g.out 2
  have lc1_3 : w.cell? ⟨g, 3, none⟩ = some (.int .i64 now) := (blk_cell BK_g.out 3).trans rfl
  have lf1_3 := blk_frozen BK_g.out 3
  have lc1_4 : w.cell? ⟨g, 4, none⟩ = some (.int .i64 tk) := (blk_cell BK_g.out 4).trans rfl
  have lf1_4 := blk_frozen BK_g.out 4
  have lc1_5 : w.cell? ⟨g, 5, none⟩ = some (vl) := (blk_cell BK_g.out 5).trans rfl
  have lf1_5 := blk_frozen BK_g.out 5
  have lc1_6 : w.cell? ⟨g, 6, none⟩ = some (vo) := (blk_cell BK_g.out 6).trans rfl
  have lf1_6 := blk_frozen BK_g.out 6
  have lc1_7 : w.cell? ⟨g, 7, none⟩ = some (.int .i64 times) := (blk_cell BK_g.out 7).trans rfl
  have lf1_7 := blk_frozen BK_g.out 7
  have lc1_8 : w.cell? ⟨g, 8, none⟩ = some (.int .i64 last) := (blk_cell BK_g.out 8).trans rfl
  have lf1_8 := blk_frozen BK_g.out 8
  have lc1_9 : w.cell? ⟨g, 9, none⟩ = some (.map (some m)) := (blk_cell BK_g.out 9).trans rfl
  have lf1_9 := blk_frozen BK_g.out 9
  go_enter Try.func31, Try.ntmps31
  go_wp2_with (first | ((with_reducible refine gate_store (p := 22) rfl ?_); refine store_event (w1 := ?_) rfl (p := 22) rfl rfl ?hr ?_; rotate_left; (case hr => go_simp; rfl); intro w1 hw_; obtain ⟨hput, HEc⟩ := put1 (cs' := #[.int .i64 wait, .int .i64 again, .int .i64 pause, .int .i64 t, .int .i64 tk, vl, vo, .int .i64 times, .int .i64 last, .map (some m)]) hw_ BK_g.out rfl; clear hw_; have OBn_l : Aside0 (OwnE ks (fun _ => False) 39 B w1 vl (line)) := ⟨ks_mv OB_l.out HEc NE_l_g.out⟩; clear OB_l; have OB_l := OBn_l; clear OBn_l; have HOn : Aside0 (IsOut B w1 vl vo out) := ⟨HO.out.set HEc BK_g.out (by decide)⟩; clear HO; have HO := HOn; clear HOn; clear lc1_0 lf1_0 lc1_1 lf1_1 lc1_2 lf1_2 lc1_3 lf1_3 lc1_4 lf1_4 lc1_5 lf1_5 lc1_6 lf1_6 lc1_7 lf1_7 lc1_8 lf1_8 lc1_9 lf1_9; have MPn_m : Aside0 (IsMap w1 m (f) (n)) := ⟨IsMap.ext MP_m.out HEc NE_m_g.out⟩; have XTn : Aside0 (Ext (fun k => k = g) w w1) := ⟨XT.out.step HEc (F_g.out)⟩; clear MP_m XT; have MP_m := MPn_m; have XT := XTn; clear MPn_m XTn; clear BK_g; have BK_g : Aside0 (w1.heap[g]? = some (.cells #[.int .i64 wait, .int .i64 again, .int .i64 pause, .int .i64 t, .int .i64 tk, vl, vo, .int .i64 times, .int .i64 last, .map (some m)] 73 (0, 0))) := ⟨hput⟩; clear hput HEc; have lc2_0 : w1.cell? ⟨g, 0, none⟩ = some (.int .i64 wait) := (blk_cell BK_g.out 0).trans rfl; have lf2_0 := blk_frozen BK_g.out 0; have lc2_1 : w1.cell? ⟨g, 1, none⟩ = some (.int .i64 again) := (blk_cell BK_g.out 1).trans rfl; have lf2_1 := blk_frozen BK_g.out 1; have lc2_2 : w1.cell? ⟨g, 2, none⟩ = some (.int .i64 pause) := (blk_cell BK_g.out 2).trans rfl; have lf2_2 := blk_frozen BK_g.out 2; have lc2_3 : w1.cell? ⟨g, 3, none⟩ = some (.int .i64 t) := (blk_cell BK_g.out 3).trans rfl; have lf2_3 := blk_frozen BK_g.out 3; have lc2_4 : w1.cell? ⟨g, 4, none⟩ = some (.int .i64 tk) := (blk_cell BK_g.out 4).trans rfl; have lf2_4 := blk_frozen BK_g.out 4; have lc2_5 : w1.cell? ⟨g, 5, none⟩ = some (vl) := (blk_cell BK_g.out 5).trans rfl; have lf2_5 := blk_frozen BK_g.out 5; have lc2_6 : w1.cell? ⟨g, 6, none⟩ = some (vo) := (blk_cell BK_g.out 6).trans rfl; have lf2_6 := blk_frozen BK_g.out 6; have lc2_7 : w1.cell? ⟨g, 7, none⟩ = some (.int .i64 times) := (blk_cell BK_g.out 7).trans rfl; have lf2_7 := blk_frozen BK_g.out 7; have lc2_8 : w1.cell? ⟨g, 8, none⟩ = some (.int .i64 last) := (blk_cell BK_g.out 8).trans rfl; have lf2_8 := blk_frozen BK_g.out 8; have lc2_9 : w1.cell? ⟨g, 9, none⟩ = some (.map (some m)) := (blk_cell BK_g.out 9).trans rfl; have lf2_9 := blk_frozen BK_g.out 9))
  go_ret
  exact ⟨rfl, ⟨⟨_, _, BK_g.out, OB_l.out, HO.out⟩, ⟨_, _, MP_m.out, HF.out⟩, BG.out, BM.out⟩, XT.out⟩
end Go.Proofs.Ytlalpooiegganaa.MstD
end

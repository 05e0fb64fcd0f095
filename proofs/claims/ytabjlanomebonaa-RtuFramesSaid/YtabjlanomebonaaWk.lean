/- Events that leave a world by its letter: makes, copies, maps keyed by ints; what they leave of what was. -/
import Derived.Test.YtabjlanomebonaaCore
import Derived.MapKept
import Derived.Laws.CopyOwn
set_option linter.unusedVariables false
set_option linter.unusedSimpArgs false
namespace Go.Proofs.Ytabjlanomebonaa.Wk
open Go.RowKit Go.Proofs.YtabjlanomebonaaW.PrintWords Go.Proofs.YtabjlanomebonaaW.PrintLast Go.Proofs.YtabjlanomebonaaW.PrintMore Go.Proofs.Ytabjlanomebonaa.Core

end Go.Proofs.Ytabjlanomebonaa.Wk
namespace Go.Proofs.Ytabjlanomebonaa.Core
open Go.RowKit Go.Proofs.YtabjlanomebonaaW.PrintWords Go.Proofs.YtabjlanomebonaaW.PrintLast Go.Proofs.YtabjlanomebonaaW.PrintMore
section
variable {M M' F : Nat → Prop} {w w1 w2 W W' : World} {P Q : World → Prop} {g : Nat}
theorem Ext.blk {o : Obj} (h : Ext F W W') (hb : W.heap[g]? = some o) (hg : ¬ F g) : W'.heap[g]? = some o := (h.block g (blk_lt hb) hg).trans hb
theorem Ext.sub (h : Ext F W W') (hs : ∀ k, F k → M k) : Ext M W W' := h.mono (fun k _ e => hs k e)
/-- One step more: its blocks are of M, or new. -/
theorem Ext.step (h : Ext M w W) (k : Ext F W W') (hF : ∀ k, F k → M k ∨ w.heap.size ≤ k) : Ext M w W' := h.grow k hF
theorem Ext.stepB (h : Ext M w W) (k : Below W.heap.size W W') : Ext M w W' := h.then_below k
theorem Ext.none_ (h : Below W.heap.size W W') : Ext (fun _ => False) W W' := Ext.of_below h
theorem ne_born {h g n : Nat} (hl : h < n) (hg : g = n) : h ≠ g := by omega
theorem fnew {g : Nat} (hg : g = W.heap.size) (h : w.heap.size ≤ W.heap.size) : ∀ k, k = g → M k ∨ w.heap.size ≤ k := fun k e => .inr (by omega)
theorem fold {g : Nat} (hg : M g) : ∀ k, k = g → M k ∨ w.heap.size ≤ k := fun k e => .inl (by rw [e]; exact hg)
theorem lt_size {o : Obj} (h : W.heap[g]? = some o) : g < W.heap.size := blk_lt h
/-- These blocks. -/
def Ms (gs : List Nat) (k : Nat) : Prop := k ∈ gs
theorem Ms.new {r : Nat} {gs : List Nat} {n : Nat} (hr : n ≤ r) : ∀ k, Ms (r :: gs) k → Ms gs k ∨ n ≤ k := fun k h => by
  rcases List.mem_cons.1 h with e | h
  · exact .inr (by omega)
  · exact .inl h
theorem Ms.old {r : Nat} {gs : List Nat} : ∀ k, Ms gs k → Ms (r :: gs) k := fun _ h => List.mem_cons_of_mem _ h
theorem Ms.one {g : Nat} {gs : List Nat} (h : g ∈ gs) : ∀ k, k = g → Ms gs k := fun k e => by rw [e]; exact h
theorem Ms.two {g m : Nat} {gs : List Nat} (h : g ∈ gs) (h2 : m ∈ gs) : ∀ k, (k = g ∨ k = m) → Ms gs k := fun k e => by rcases e with e | e; rw [e]; exact h; rw [e]; exact h2
theorem Ms.lt (gs : List Nat) {n n' : Nat} (h : ∀ k, Ms gs k → k < n) (hn : n ≤ n') : ∀ k, Ms gs k → k < n' := fun k hk => Nat.lt_of_lt_of_le (h k hk) hn
theorem Ms.ltc {r : Nat} (gs : List Nat) {n n' : Nat} (h : ∀ k, Ms gs k → k < n) (hn : n ≤ n') (hr : r < n') : ∀ k, Ms (r :: gs) k → k < n' := fun k hk => by
  rcases List.mem_cons.1 hk with e | h1
  · omega
  · exact Nat.lt_of_lt_of_le (h k h1) hn
/-- A store into a row, element by element. -/
theorem rowset {g i : Nat} {v : Int} {k : IntKind} {xs : List Int} {e : TypeId} (hw : W' = W.setCell ⟨g, i, none⟩ (.int k v)) (hb : W.heap[g]? = some (.cells (xs.map (Value.int k)).toArray e (0, 0))) :
    W'.heap[g]? = some (.cells ((xs.set i v).map (Value.int k)).toArray e (0, 0)) ∧ Ext (fun k => k = g) W W' := by
  subst hw
  refine ⟨blk_put hb i _ ?_, (Ext.refl _ _).setg _⟩
  rw [List.map_set, List.setIfInBounds_toArray]
theorem row_cell {g i : Nat} {k : IntKind} {xs : List Int} {e : TypeId} (hb : W.heap[g]? = some (.cells (xs.map (Value.int k)).toArray e (0, 0))) (hi : i < xs.length) : W.cell? ⟨g, i, none⟩ = some (.int k (xs.getD i 0)) := by
  rw [blk_cell hb i]
  simp only [List.getElem?_toArray, List.getElem?_map, List.getD_eq_getElem?_getD, List.getElem?_eq_getElem hi, Option.map_some, Option.getD_some]
/-- A store into a row of cells. -/
theorem put1 {g i : Nat} {v : Value} {cs cs' : Array Value} {T : TypeId} (hw : W' = W.setCell ⟨g, i, none⟩ v) (hb : W.heap[g]? = some (.cells cs T (0, 0))) (hc : cs.setIfInBounds i v = cs') :
    W'.heap[g]? = some (.cells cs' T (0, 0)) ∧ Ext (fun k => k = g) W W' := by
  subst hw
  exact ⟨blk_put hb i v hc, (Ext.refl _ _).setg v⟩
theorem Ever.at0 (h : Ever M w P) (k : Ext M w W) : P W := h.at_ W k
/-- A row whose block is no block of M stays. -/
theorem Ever.ofRow {xs : List Int} {k : IntKind} {e : TypeId} {n : Nat} (h : W.heap[g]? = some (.cells (xs.map (Value.int k)).toArray e (0, 0))) (hl : xs.length ≤ 9223372036854775807) (hM : ¬ M g) : Ever M W (fun W => Kd.C (Kd.int k) W (some ⟨g, 0, none⟩) xs.length xs) := by
  refine (Ever.blk h hM).imp (fun W1 h1 => ?_)
  refine Kd.C_of_reads (enc := Value.int k) (d := (0 : Int)) (h1 := fun _ => rfl) (show ReadsInt W1 k _ _ _ from ⟨rfl, hl, fun hn => ⟨_, rfl, fun j hj => ?_⟩⟩)
  have : (⟨g, 0, none⟩ : Addr).add j = ⟨g, j, none⟩ := by simp [Addr.add] <;> omega
  rw [this, blk_cell h1 j]
  simp only [List.getElem?_toArray, List.getElem?_map, List.getD_eq_getElem?_getD, List.getElem?_eq_getElem hj, Option.map_some, Option.getD_some]
theorem row_C {xs : List Int} {k : IntKind} {e : TypeId} (h : W.heap[g]? = some (.cells (xs.map (Value.int k)).toArray e (0, 0))) (hl : xs.length ≤ 9223372036854775807) : Kd.C (Kd.int k) W (some ⟨g, 0, none⟩) xs.length xs :=
  (Ever.ofRow (M := fun _ => False) (n := 0) h hl (fun a => a)).now
theorem C_cell {xs : List Int} {k : IntKind} {A : Option Addr} (h : Kd.C (Kd.int k) W A xs.length xs) (hn : 0 < xs.length) : ∃ ad, A = some ad ∧ ∀ j, j < xs.length → W.cell? (ad.add j) = some (.int k (xs.getD j 0)) := (Kd.reads_of_C h).2.2 hn
end

end Go.Proofs.Ytabjlanomebonaa.Core
namespace Go.Proofs.Ytabjlanomebonaa.Wk
open Go.RowKit Go.Proofs.YtabjlanomebonaaW.PrintWords Go.Proofs.YtabjlanomebonaaW.PrintLast Go.Proofs.YtabjlanomebonaaW.PrintMore Go.Proofs.Ytabjlanomebonaa.Core
section
variable {P : Program} {ops : Array Oper} {rest : List Oper} {o : Oper} {a : Act} {Q : Exit → Act → World → Prop} {W : World} {Kc : Act → World → Prop}
/-- The run of make([]T, n). -/
theorem run_mk (W : World) {t e : TypeId} {k : IntKind} (ht : P.underlying t = some (.slice e)) (bytes : Nat) (hinfo : (P.info? e).map (fun i => (i.zero, i.size, i.bytes)) = some (some (.int k 0), 1, bytes)) (hb0 : 0 < bytes) (hb8 : bytes ≤ 8) (n : Int) (h0 : 0 ≤ n) (hn : n ≤ 4294967296) :
    ∃ W', (Instr.makeSlice t (.int .i64 n) (.int .i64 n)).run P W = .ok (.slice (some ⟨W.heap.size, 0, none⟩) n.toNat n.toNat) W' ∧
      W'.heap[W.heap.size]? = some (.cells ((List.replicate n.toNat (0 : Int)).map (Value.int k)).toArray e (0, 0)) ∧ Below W.heap.size W W' := by
  obtain ⟨m, rfl⟩ := Int.eq_ofNat_of_zero_le h0
  obtain ⟨i0, hi, hzz⟩ := Option.map_eq_some_iff.1 hinfo
  simp only [Prod.mk.injEq] at hzz
  obtain ⟨hz0, hz1, hz2⟩ := hzz
  have hb : i0.bytes * m ≤ 281474976710656 := by
    rw [hz2]
    exact Nat.le_trans (Nat.mul_le_mul hb8 (show m ≤ 4294967296 by omega)) (by decide)
  obtain ⟨W', hrun, hown, hg⟩ := run_make_full (P := P) W 0 t e i0 (.int k 0) 1 ht hi hz0 hz1 .i64 .i64 m hb (by simp only [maxLen]; omega) (Nat.zero_le _)
  refine ⟨W', by simpa using hrun, ?_, ⟨hg.os, hg.tape, hg.output, hg.size, fun k hk => hg.block k hk (by simp)⟩⟩
  obtain ⟨hl, h2⟩ := hown
  rcases h2 with ⟨h3, _⟩ | ⟨g, cap, cur, he, _, hh, _, _, hs, hx⟩
  · cases h3
  · cases he
    have hcur : cur.toList = ((List.replicate m (0 : Int)).map (Value.int k)) := by
      have h4 : cur.toList.take (m * 1) = cur.toList := List.take_of_length_le (by simp [hs])
      rw [h4] at hx
      rw [hx]
      simp [madeCells, Value.cells]
      apply List.ext_getElem
      · simp
      · intro i h1 h2
        simp [Nat.mod_one]
    rw [hh]
    congr 2
    rw [Int.toNat_natCast]
    rw [← hcur]
theorem mk_event (hgd : o.guard = none) {N : Tmp} (_hd : o.dst = some N) {t e : TypeId} {x y : Operand} (k : IntKind) (n : Nat) (bytes : Nat) (ho : o.op = .makeSlice t x y) (ht : P.underlying t = some (.slice e)) (hinfo : (P.info? e).map (fun i => (i.zero, i.size, i.bytes)) = some (some (.int k 0), 1, bytes)) (hb0 : 0 < bytes) (hb8 : bytes ≤ 8)
    (hx : a.eval x = .int .i64 (n : Int)) (hy : a.eval y = .int .i64 (n : Int)) (hn : n ≤ 4294967296)
    (h : ∀ g, g = W.heap.size → ∀ w1, w1.heap[g]? = some (.cells ((List.replicate n (0 : Int)).map (Value.int k)).toArray e (0, 0)) → Below W.heap.size W w1 → wpList P ops Q rest (a.put o.dst (.slice (some ⟨g, 0, none⟩) n n)) w1) : wpList P ops Q (o :: rest) a W := by
  obtain ⟨W', hrun, hb, hB⟩ := run_mk W ht bytes hinfo hb0 hb8 (n : Int) (by omega) (by omega)
  rw [Int.toNat_natCast] at hrun hb
  refine Kd.event_run hgd ?_ (h _ rfl W' hb hB)
  unfold execOp
  simp [ho, hx, hy, hrun, Result.andThen]
/-- copy(dst, src): dst a row of the walk's own. -/
theorem copy_event (hgd : o.guard = none) (d s : Operand) {t e : TypeId} (k : IntKind) (ho : o.op = .call { callee := .builtin .copy, args := #[d, s], argTypes := #[t, t] }) (ht : P.underlying t = some (.slice e)) (hinfo : (P.info? e).map (·.size) = some 1)
    {g : Nat} (xs ys : List Int) (c c2 : Nat) (A : Option Addr) {n : Nat} (hn : xs.length = n) (hd : a.eval d = .slice (some ⟨g, 0, none⟩) n c) (hs : a.eval s = .slice A ys.length c2)
    (hb : W.heap[g]? = some (.cells (xs.map (Value.int k)).toArray e (0, 0))) (hC : Kd.C (Kd.int k) W A ys.length ys)
    (h : ∀ w1, w1.heap[g]? = some (.cells ((ys.take xs.length ++ xs.drop ys.length).map (Value.int k)).toArray e (0, 0)) → Ext (fun k => k = g) W w1 → wpList P ops Q rest (a.put o.dst (goInt (min ys.length xs.length : Nat))) w1) : wpList P ops Q (o :: rest) a W := by
  subst hn
  have hl : ((ys.take xs.length).map (Value.int k)).length = Nat.min ys.length xs.length := by simp [Nat.min_comm]
  refine wpList_plain hgd fun K hK => ?_
  by_cases h0 : Nat.min ys.length xs.length = 0
  · have hrun := run_copy_none (P := P) W t t o.type e (some ⟨g, 0, none⟩) A xs.length c ys.length c2 ht hinfo h0
    unfold Oper.wp
    simp [execOp, ho, resolve, invoke, builtin, hd, hs, hrun, Result.andThen]
    refine hK _ _ ?_
    have hm : min ys.length xs.length = 0 := h0
    have h1 := h W (by
      have he : ys.take xs.length ++ xs.drop ys.length = xs := by
        rcases Nat.eq_zero_or_pos ys.length with a | a
        · rw [List.eq_nil_of_length_eq_zero a]; simp
        · have : xs.length = 0 := by omega
          rw [List.eq_nil_of_length_eq_zero this]; simp
      rw [he]; exact hb) (Ext.refl _ _)
    rw [hm] at h1
    exact h1
  · have hpos : 0 < ys.length := by
      have : Nat.min ys.length xs.length ≤ ys.length := Nat.min_le_left _ _
      omega
    obtain ⟨ad, rfl, hcell⟩ := C_cell hC hpos
    have hrun := run_copy_row (P := P) W t t o.type e g 0 xs.length c ad ys.length c2 ((xs.map (Value.int k)).toArray) e ((ys.take xs.length).map (Value.int k)) ht hinfo hb hl (by
        intro j v hj
        rw [List.getElem?_map, List.getElem?_take] at hj
        split at hj
        · obtain ⟨y, hy, rfl⟩ := Option.map_eq_some_iff.1 hj
          have hjl := (List.getElem?_eq_some_iff.1 hy).1
          rw [hcell j hjl, List.getD_eq_getElem?_getD, hy]; rfl
        · simp at hj) (by
        have : Nat.min ys.length xs.length ≤ xs.length := Nat.min_le_right _ _
        simp only [hl]; simp; omega) (by
        intro v hv
        obtain ⟨y, _, rfl⟩ := List.mem_map.1 hv
        rfl)
    unfold Oper.wp
    simp only [execOp, ho, resolve, invoke, builtin, hd, hs, Sem.run_bind, Sem.run_pure, Result.andThen_ok, List.map_toArray, List.map_cons, List.map_nil, hrun]
    refine hK _ _ ?_
    have h1 := h (W.setRow g (((xs.map (Value.int k)).toArray.toList.take 0 ++ ((ys.take xs.length).map (Value.int k) ++ (xs.map (Value.int k)).toArray.toList.drop (0 + ((ys.take xs.length).map (Value.int k)).length))).toArray)) ?_ ?_
    · have e1 : (goInt (((ys.take xs.length).map (Value.int k)).length : Int)) = goInt ((min ys.length xs.length : Nat) : Int) := by rw [hl]
      rw [e1]
      simpa only [List.append_assoc] using h1
    · refine (setRow_heap W g _ _ e _ hb).trans ?_
      have e2 : ((xs.map (Value.int k)).toArray.toList.take 0 ++ ((ys.take xs.length).map (Value.int k) ++ (xs.map (Value.int k)).toArray.toList.drop (0 + ((ys.take xs.length).map (Value.int k)).length))) = (ys.take xs.length ++ xs.drop ys.length).map (Value.int k) := by
        rw [hl, List.take_zero, List.nil_append, Nat.zero_add, List.map_append, List.map_drop]
        congr 1
        show List.drop (min ys.length xs.length) (xs.map (Value.int k)) = _
        rcases Nat.le_total xs.length ys.length with q | q
        · rw [Nat.min_eq_right q, List.drop_of_length_le (by simp), List.drop_of_length_le (by simpa using q)]
        · rw [Nat.min_eq_left q]
      rw [e2]
    · exact ⟨rfl, rfl, rfl, by simp [World.setRow], fun j hj hne => setRow_other W g j _ hne⟩
end

/-- The first k elements are x, the others 0. -/
def fill (n k : Nat) (x : Int) : List Int := List.replicate k x ++ List.replicate (n - k) 0
theorem fill_len {n k : Nat} {x : Int} (h : k ≤ n) : (fill n k x).length = n := by unfold fill; rw [List.length_append, List.length_replicate, List.length_replicate]; omega
theorem fill_zero (n : Nat) (x : Int) : fill n 0 x = List.replicate n 0 := by simp [fill]
theorem fill_all (n : Nat) (x : Int) : fill n n x = List.replicate n x := by simp [fill]
theorem fill_set {n k : Nat} {x : Int} (h : k < n) : (fill n k x).set k x = fill n (k + 1) x := by
  unfold fill
  rw [List.set_append_right _ _ (by simp), List.length_replicate, Nat.sub_self]
  obtain ⟨j, hj⟩ : ∃ j, n - k = j + 1 := ⟨n - k - 1, by omega⟩
  have hj2 : n - (k + 1) = j := by omega
  rw [hj, hj2, List.replicate_succ, List.set_cons_zero, List.replicate_succ', List.append_assoc, List.singleton_append]
/-! Maps keyed by ints: what they hold, key by key. -/
def keyIs (k : Int) (e : MapEntry) : Bool := match e.key with | .int .i64 a => a == k | _ => false
def mget (es : List MapEntry) (k : Int) : Option Value := (es.find? (keyIs k)).map (·.val)
def IntKeys (es : List MapEntry) : Prop := ∀ e ∈ es, ∃ a, e.key = .int .i64 a
structure IsMap (W : World) (m : Nat) (f : Int → Option Value) (n : Nat) : Prop where
  out : ∃ (es : Array MapEntry) (clock : Nat), W.heap[m]? = some (.map es clock) ∧ IntKeys es.toList ∧ es.size ≤ n ∧ ∀ k, mget es.toList k = f k
section
variable {P : Program} {W W' : World} {m n : Nat} {f : Int → Option Value}
theorem IsMap.lt (h : IsMap W m f n) : m < W.heap.size := by obtain ⟨es, c, hb, _⟩ := h.out; exact (Array.getElem?_eq_some_iff.1 hb).1
theorem IsMap.ext {F : Nat → Prop} (h : IsMap W m f n) (k : Ext F W W') (hm : ¬ F m) : IsMap W' m f n := by
  obtain ⟨es, c, hb, h1⟩ := h.out
  exact ⟨es, c, Ext.blk k hb hm, h1⟩
theorem IsMap.mono {n' : Nat} (h : IsMap W m f n) (hn : n ≤ n') : IsMap W m f n' := by
  obtain ⟨es, c, hb, h1, h2, h3⟩ := h.out
  exact ⟨es, c, hb, h1, Nat.le_trans h2 hn, h3⟩
theorem IsMap.new (W : World) : IsMap (W.alloc (.map #[] 0)) W.heap.size (fun _ => none) 0 := ⟨#[], 0, heap_alloc_new W _, by intro e he; simp at he, by simp, fun k => rfl⟩
theorem isKey_int (a : Int) : MapKept.IsKey (.int .i64) (.int .i64 a) := by simp [MapKept.IsKey]
theorem keyIs_iff {e : MapEntry} {k : Int} : keyIs k e = true ↔ e.key = .int .i64 k := by
  unfold keyIs
  split
  · rename_i a h; rw [h]; simp
  · rename_i h; constructor
    · intro h1; cases h1
    · intro h1; exact absurd h1 (h k)
theorem mget_at {es : List MapEntry} {k : Int} : ∀ {j : Nat} {e : MapEntry}, (∀ i, i < j → ∀ e', es[i]? = some e' → e'.key ≠ .int .i64 k) → es[j]? = some e → e.key = .int .i64 k → mget es k = some e.val := by
  induction es with
  | nil => intro j e _ h; simp at h
  | cons x r ih =>
    intro j e hlt hj hk
    unfold mget
    cases j with
    | zero =>
      simp at hj
      subst hj
      rw [List.find?_cons_of_pos (keyIs_iff.2 hk)]
      rfl
    | succ j =>
      rw [List.find?_cons_of_neg (by intro h1; exact hlt 0 (by omega) x rfl (keyIs_iff.1 h1))]
      exact ih (j := j) (fun i hi e' he' => hlt (i + 1) (by omega) e' (by simpa using he')) (by simpa using hj) hk
theorem mget_none {es : List MapEntry} {k : Int} (h : ∀ e ∈ es, e.key ≠ .int .i64 k) : mget es k = none := by
  unfold mget
  rw [List.find?_eq_none.2 (fun e he h1 => h e he (keyIs_iff.1 h1))]
  rfl
theorem mget_cons (x : MapEntry) (r : List MapEntry) (k : Int) : mget (x :: r) k = if keyIs k x then some x.val else mget r k := by
  unfold mget
  cases h : keyIs k x
  · rw [List.find?_cons_of_neg (by simp [h])]; simp
  · rw [List.find?_cons_of_pos h]; simp
theorem mget_append (l r : List MapEntry) (k : Int) : mget (l ++ r) k = (mget l k).or (mget r k) := by
  unfold mget
  rw [List.find?_append]
  cases l.find? (keyIs k) <;> simp
/-- The first entry at a key: found by the model, and by mget. -/
theorem find_first {k : Int} : ∀ (l : List MapEntry) (i : Nat), IntKeys l → (Instr.findNow (.int .i64) (.int .i64 k) l i = some none ∧ ∀ e ∈ l, e.key ≠ .int .i64 k) ∨
    ∃ j e, Instr.findNow (.int .i64) (.int .i64 k) l i = some (some (i + j, e.val)) ∧ l[j]? = some e ∧ e.key = .int .i64 k ∧ ∀ q, q < j → ∀ e', l[q]? = some e' → e'.key ≠ .int .i64 k
  | [], i, _ => .inl ⟨rfl, by simp⟩
  | x :: r, i, h => by
    obtain ⟨b, hb⟩ := h x (.head _)
    have hs : Instr.sameNow (.int .i64) (.int .i64 k) x.key = some (k == b) := by rw [hb]; simp [Instr.sameNow]
    by_cases e : k = b
    · subst e
      refine .inr ⟨0, x, by simp [Instr.findNow, hs], rfl, hb, fun q hq => by omega⟩
    · have hne : x.key ≠ .int .i64 k := by rw [hb]; intro q; exact e (by simpa using q.symm)
      have hf : Instr.findNow (.int .i64) (.int .i64 k) (x :: r) i = Instr.findNow (.int .i64) (.int .i64 k) r (i + 1) := by
        have hs' : Instr.sameNow (.int .i64) (.int .i64 k) x.key = some false := by rw [hs]; simp [e]
        simp only [Instr.findNow, hs']
      rcases find_first r (i + 1) (fun y hy => h y (.tail _ hy)) with ⟨h1, h2⟩ | ⟨j, e', h1, h2, h3, h4⟩
      · refine .inl ⟨by rw [hf]; exact h1, fun y hy => ?_⟩
        cases hy with
        | head => exact hne
        | tail _ hy => exact h2 y hy
      · refine .inr ⟨j + 1, e', by rw [hf, h1]; congr 3; omega, by simpa using h2, h3, fun q hq e'' he'' => ?_⟩
        cases q with
        | zero => simp at he''; subst he''; exact hne
        | succ q => exact h4 q (by omega) e'' (by simpa using he'')
/-- m[k]. -/
theorem IsMap.look {t kt et : TypeId} {z : Value} (h : IsMap W m f n) (ht : P.underlying t = some (.map kt et)) (hk : P.underlying kt = some (.int .i64)) (hz : ∀ w, (zeroValue et).run P w = .ok z w) (k : Int) :
    (Instr.lookup t (.map (some m)) (.int .i64 k) false).run P W = .ok ((f k).getD z) W := by
  obtain ⟨es, c, hb, hi, _, hf⟩ := h.out
  rw [← hf k]
  rcases find_first (k := k) es.toList 0 hi with ⟨h1, h2⟩ | ⟨j, e, h1, h2, h3, h4⟩
  · rw [mget_none h2]
    simp [Instr.lookup, run_underlying ht, MapKept.run_getObj_map hb, MapKept.run_checkKey hk (isKey_int k), MapKept.run_findKey hk h1, hz, Result.andThen]
  · rw [mget_at h4 h2 h3]
    simp [Instr.lookup, run_underlying ht, MapKept.run_getObj_map hb, MapKept.run_checkKey hk (isKey_int k), MapKept.run_findKey hk h1, Result.andThen]
theorem mget_set {v : Value} {k : Int} : ∀ {l : List MapEntry} {j : Nat} {e e2 : MapEntry}, l[j]? = some e → e.key = .int .i64 k → e2.key = .int .i64 k → e2.val = v → (∀ q, q < j → ∀ e', l[q]? = some e' → e'.key ≠ .int .i64 k) →
    ∀ x, mget (l.set j e2) x = if x = k then some v else mget l x := by
  intro l
  induction l with
  | nil => intro j e e2 h; simp at h
  | cons y r ih =>
    intro j e e2 hj hk hk2 hv hlt x
    cases j with
    | zero =>
      simp at hj
      subst hj
      rw [List.set_cons_zero, mget_cons, mget_cons]
      have a1 : keyIs x e2 = (k == x) := by unfold keyIs; rw [hk2]
      have a2 : keyIs x y = (k == x) := by unfold keyIs; rw [hk]
      rw [a1, a2]
      by_cases h : x = k
      · subst h; simp [hv]
      · have : (k == x) = false := by simpa using fun e => h e.symm
        simp [this, h]
    | succ j =>
      rw [List.set_cons_succ, mget_cons, mget_cons]
      have hy := hlt 0 (by omega) y rfl
      have ih' := ih (j := j) (e := e) (e2 := e2) (by simpa using hj) hk hk2 hv (fun q hq e' he' => hlt (q + 1) (by omega) e' (by simpa using he')) x
      rw [ih']
      by_cases h : x = k
      · subst h
        have : keyIs x y = false := by
          cases hq : keyIs x y
          · rfl
          · exact absurd (keyIs_iff.1 hq) hy
        simp [this]
      · simp [h]
/-- m[k] = v. -/
theorem IsMap.update {t kt et : TypeId} (h : IsMap W m f n) (ht : P.underlying t = some (.map kt et)) (hk : P.underlying kt = some (.int .i64)) (k : Int) (v : Value) :
    ∃ W', (Instr.mapUpdate t (.map (some m)) (.int .i64 k) v).run P W = .ok () W' ∧ IsMap W' m (fun j => if j = k then some v else f j) (n + 1) ∧ Ext (fun b => b = m) W W' := by
  obtain ⟨es, c, hb, hi, hn, hf⟩ := h.out
  have hE : ∀ o', Ext (fun b => b = m) W { W with heap := W.heap.setIfInBounds m o' } := fun o' => ⟨rfl, rfl, rfl, by simp, fun b _ hne => (MapKept.heap_set hb).2 b hne⟩
  rcases find_first (k := k) es.toList 0 hi with ⟨h1, h2⟩ | ⟨j, e, h1, h2, h3, h4⟩
  · refine ⟨{ W with heap := W.heap.setIfInBounds m (.map (es.push ⟨.int .i64 k, v, c⟩) (c + 1)) }, by simp [Instr.mapUpdate, run_underlying ht, MapKept.run_getObj_map hb, MapKept.run_checkKey hk (isKey_int k), MapKept.run_findKey hk h1, MapKept.run_setObj_map _ hb, Result.andThen], ⟨_, _, (MapKept.heap_set hb).1, ?_, by simp; omega, fun x => ?_⟩, hE _⟩
    · intro y hy
      simp at hy
      rcases hy with hy | rfl
      · exact hi y (by simpa using hy)
      · exact ⟨k, rfl⟩
    · rw [Array.toList_push, mget_append, ← hf x]
      by_cases hx : x = k
      · subst hx
        rw [mget_none h2, mget_cons]
        simp [keyIs]
      · rw [mget_cons]
        have : keyIs x ⟨.int .i64 k, v, c⟩ = false := by unfold keyIs; simpa using fun e => hx e.symm
        rw [if_neg hx, this]
        simp [mget]
  · have hj : es[j]? = some e := by simpa using h2
    have hl : (es.modify j fun e => { e with key := .int .i64 k, val := v }).toList = es.toList.set j { e with key := .int .i64 k, val := v } := by
      rw [Array.toList_modify, ChangeMaps.modify_eq_set _ _ _ _ h2]
    refine ⟨{ W with heap := W.heap.setIfInBounds m (.map (es.modify j fun e => { e with key := .int .i64 k, val := v }) c) }, by simp [Instr.mapUpdate, run_underlying ht, MapKept.run_getObj_map hb, MapKept.run_checkKey hk (isKey_int k), MapKept.run_findKey hk h1, hj, h3, MapKept.run_keyThatStays (isKey_int k), MapKept.run_setObj_map _ hb, Result.andThen], ⟨_, _, (MapKept.heap_set hb).1, ?_, by simp; omega, fun x => ?_⟩, hE _⟩
    · intro y hy
      rw [hl] at hy
      rcases List.mem_or_eq_of_mem_set hy with hy | rfl
      · exact hi y hy
      · exact ⟨k, rfl⟩
    · rw [hl, mget_set h2 h3 rfl rfl h4 x, hf x]
end
section
variable {P : Program} {ops : Array Oper} {rest : List Oper} {o : Oper} {a : Act} {Q : Exit → Act → World → Prop} {W : World}
theorem look_event (hgd : o.guard = none) {t kt et : TypeId} {x y : Operand} {m n : Nat} {f : Int → Option Value} {z : Value} {k : Int} (ho : o.op = .lookup t x y false) (hm : IsMap W m f n) (ht : P.underlying t = some (.map kt et)) (hk : P.underlying kt = some (.int .i64)) (hz : ∀ w, (zeroValue et).run P w = .ok z w)
    (hx : a.eval x = .map (some m)) (hy : a.eval y = .int .i64 k) {v : Value} (hv : (f k).getD z = v) (h : wpList P ops Q rest (a.put o.dst v) W) : wpList P ops Q (o :: rest) a W := by
  subst hv
  refine Kd.event_run hgd ?_ h
  unfold execOp
  simp [ho, hx, hy, hm.look ht hk hz k, Result.andThen]
theorem upd_event (hgd : o.guard = none) {t kt et : TypeId} {x y z : Operand} {m n : Nat} {f : Int → Option Value} {k : Int} {v : Value} (ho : o.op = .mapUpdate t x y z) (hN : o.dst = none) (hm : IsMap W m f n) (ht : P.underlying t = some (.map kt et)) (hk : P.underlying kt = some (.int .i64))
    (hx : a.eval x = .map (some m)) (hy : a.eval y = .int .i64 k) (hz : a.eval z = v) (h : ∀ w1, IsMap w1 m (fun j => if j = k then some v else f j) (n + 1) → Ext (fun b => b = m) W w1 → wpList P ops Q rest a w1) : wpList P ops Q (o :: rest) a W := by
  obtain ⟨W', hrun, h1, h2⟩ := hm.update ht hk k v
  refine wpList_plain hgd fun K hK => ?_
  have hr : (execOp a.eval o).run P W = .ok .skip W' := by
    unfold execOp
    simp [ho, hx, hy, hz, hrun, Result.andThen]
  unfold Oper.wp
  rw [hr]
  show K (a.put o.dst undef) W'
  rw [hN]
  exact hK _ _ (h W' h1 h2)
theorem gate_look {t : TypeId} {x y : Tmp} {b : Bool} (_ho : o.op = .lookup t (.tmp x) (.tmp y) b) (h : wpList P ops Q (o :: rest) a W) : wpList P ops Q (o :: rest) a W := h
theorem gate_upd {t : TypeId} {x y z : Tmp} (_ho : o.op = .mapUpdate t (.tmp x) (.tmp y) (.tmp z)) (h : wpList P ops Q (o :: rest) a W) : wpList P ops Q (o :: rest) a W := h
end
end Go.Proofs.Ytabjlanomebonaa.Wk

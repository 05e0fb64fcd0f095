/- What a disk is, and the contracts of its methods. (printed by gen_disk.py) -/
import Derived.Test.YtfkhffffokkheaaWk
namespace Go.Proofs.Ytfkhffffokkheaa.Dsk
open Go.RowKit Go.Proofs.YtfkhffffokkheaaW.PrintWords Go.Proofs.YtfkhffffokkheaaW.PrintLast Go.Proofs.YtfkhffffokkheaaW.PrintMore Go.Proofs.Ytfkhffffokkheaa.Core Go.Proofs.Ytfkhffffokkheaa.Wk
set_option linter.unusedVariables false
set_option linter.unusedSimpArgs false
attribute [local go_sem] max2_int min2_int max_two min_two
theorem info5 : (Try.prog.info? 5).map (fun i => (i.zero, i.size, i.bytes)) = some (some (.int .u8 0), 1, 1) := by kernel_rfl
theorem one5 : (Try.prog.info? 5).map (·.size) = some 1 := by kernel_rfl
theorem zero27 (w : World) : (zeroValue 27).run Try.prog w = .ok (.slice none 0 0) w := by kernel_rfl
/-- A disk's state: all its sectors. -/
structure DS where
  sec : Nat
  byt : Nat
  all : Int → List Int
  down : Bool
  left : Int
  keep : Int
  wr : Int
def zeros (n : Nat) : List Int := List.replicate n 0
/-- The sectors, in memory that stays. -/
def Sect (M : Nat → Prop) (W : World) (byt : Nat) (all : Int → List Int) (f : Int → Option Value) : Prop :=
  ∀ k, (all k).length = byt ∧ ((f k = none ∧ all k = zeros byt) ∨ ∃ A c, f k = some (.slice A byt c) ∧ Ever M W (fun W => Kd.C (Kd.int .u8) W A (all k).length (all k)))
def dcells (m : Nat) (s : DS) : Array Value := #[.int .i64 s.sec, .int .i64 s.byt, .map (some m), .bool s.down, .int .i64 s.left, .int .i64 s.keep, .int .i64 s.wr]
structure IsDisk (M : Nat → Prop) (W : World) (g m : Nat) (s : DS) : Prop where
  blk : W.heap[g]? = some (.cells (dcells m s) 52 (0, 0))
  mp : ∃ f n, IsMap W m f n ∧ (n : Int) ≤ s.wr ∧ Sect M W s.byt s.all f
  ne : g ≠ m
  mg : M g
  mm : M m
  bd : s.sec ≤ 4096 ∧ s.byt ≤ 4096
section
variable {M M' F : Nat → Prop} {W W' : World} {g m : Nat} {s : DS} {byt : Nat} {all : Int → List Int} {f : Int → Option Value}
theorem Sect.grow (h : Sect M W byt all f) (k : Ext M W W') (hM : ∀ k, M' k → M k ∨ W.heap.size ≤ k) : Sect M' W' byt all f := fun x => by
  obtain ⟨h1, h2⟩ := h x
  refine ⟨h1, ?_⟩
  rcases h2 with h2 | ⟨A, c, h2, h3⟩
  · exact .inl h2
  · exact .inr ⟨A, c, h2, h3.grow k hM⟩
theorem Sect.step (h : Sect M W byt all f) (k : Ext M W W') : Sect M W' byt all f := h.grow k (fun _ a => .inl a)
/-- What a look-up brings: the sector, or nothing where all is 00. -/
theorem Sect.look (h : Sect M W byt all f) (k : Int) : ∃ A ys c, (f k).getD (.slice none 0 0) = .slice A ys.length c ∧ Ever M W (fun W => Kd.C (Kd.int .u8) W A ys.length ys) ∧ ys.take (zeros byt).length ++ (zeros byt).drop ys.length = all k := by
  obtain ⟨h1, h2⟩ := h k
  rcases h2 with ⟨h2, h3⟩ | ⟨A, c, h2, h3⟩
  · exact ⟨none, [], 0, by rw [h2]; rfl, Ever.nil _, by rw [h3]; simp [zeros]⟩
  · refine ⟨A, all k, c, by rw [h2, h1]; rfl, h3, ?_⟩
    rw [List.take_of_length_le (by simp [zeros, h1]), List.drop_of_length_le (by simp [zeros, h1]), List.append_nil]
theorem Sect.put {A : Option Addr} {xs : List Int} {k : Int} {c : Nat} (h : Sect M W byt all f) (hx : xs.length = byt) (hE : Ever M W (fun W => Kd.C (Kd.int .u8) W A xs.length xs)) :
    Sect M W byt (fun j => if j = k then xs else all j) (fun j => if j = k then some (.slice A byt c) else f j) := fun j => by
  by_cases e : j = k
  · simp only [if_pos e]
    exact ⟨hx, .inr ⟨A, c, rfl, hE⟩⟩
  · simp only [if_neg e]
    exact h j
/-- A disk where nothing of it was turned. -/
theorem IsDisk.grow (h : IsDisk M W g m s) (k : Ext M W W') (hM : ∀ k, M' k → M k ∨ W.heap.size ≤ k) (hM' : ∀ k, M k → M' k) (hg : W'.heap[g]? = W.heap[g]?) (hm : W'.heap[m]? = W.heap[m]?) : IsDisk M' W' g m s := by
  obtain ⟨f, n, h1, h2, h3⟩ := h.mp
  obtain ⟨es, c, hb, h4⟩ := h1.out
  exact ⟨hg.trans h.blk, ⟨f, n, ⟨⟨es, c, hm.trans hb, h4⟩⟩, h2, h3.grow k hM⟩, h.ne, hM' _ h.mg, hM' _ h.mm, h.bd⟩
theorem IsDisk.step (h : IsDisk M W g m s) (k : Ext F W W') (hF : ∀ k, F k → M k) (hg : ¬ F g) (hm : ¬ F m) : IsDisk M W' g m s := by
  have hl : m < W.heap.size := by obtain ⟨f, n, h1, _⟩ := h.mp; exact h1.lt
  exact h.grow (k.sub hF) (fun _ a => .inl a) (fun _ a => a) (k.block g (blk_lt h.blk) hg) (k.block m hl hm)
theorem IsDisk.below (h : IsDisk M W g m s) (k : Below W.heap.size W W') : IsDisk M W' g m s := h.step (Ext.none_ k) (fun _ e => e.elim) (fun e => e) (fun e => e)
theorem IsDisk.lts (h : IsDisk M W g m s) : g < W.heap.size ∧ m < W.heap.size := ⟨blk_lt h.blk, by obtain ⟨f, n, h1, _⟩ := h.mp; exact h1.lt⟩
theorem IsDisk.len (h : IsDisk M W g m s) (k : Int) : (s.all k).length = s.byt := by obtain ⟨f, n, _, _, h3⟩ := h.mp; exact (h3 k).1
end
def DS.ready (s : DS) (k : Int) : Int := if s.down then 180 else if k < 0 ∨ (s.sec : Int) ≤ k then 1 else 0
theorem ready_down {s : DS} {k : Int} (h : s.down = true) : s.ready k = 180 := by simp [DS.ready, h]
theorem ready_arg {s : DS} {k : Int} (h : s.down = false) (hk : k < 0 ∨ (s.sec : Int) ≤ k) : s.ready k = 1 := by unfold DS.ready; rw [h, if_neg (by simp), if_pos hk]
theorem ready_ok {s : DS} {k : Int} (h : s.down = false) (h0 : 0 ≤ k) (h1 : k < s.sec) : s.ready k = 0 := by unfold DS.ready; rw [h, if_neg (by simp), if_neg (by omega)]
set_option maxHeartbeats 4000000 in
set_option maxRecDepth 100000 in
theorem ready_1 {M : Nat → Prop} {w : World} {g m : Nat} {sec byt : Nat} {all : Int → List Int} {left keep wr : Int} (h : IsDisk M w g m ⟨sec, byt, all, true, left, keep, wr⟩) (k : Int) :
    Calls Try.prog 27 #[.pointer (some ⟨g, 0, none⟩), .int .i64 k] w fun e w' => e = .returned (.int .i64 180) ∧ w = w' := by
  have BK_g : Aside0 (w.heap[g]? = some (.cells #[.int .i64 (sec : Int), .int .i64 (byt : Int), .map (some m), .bool true, .int .i64 (left), .int .i64 (keep), .int .i64 (wr)] 52 (0, 0))) := ⟨h.blk⟩
  clear h
  have lc1_0 : w.cell? ⟨g, 0, none⟩ = some (.int .i64 (sec : Int)) := (blk_cell BK_g.out 0).trans rfl
  have lf1_0 := blk_frozen BK_g.out 0
  have lc1_1 : w.cell? ⟨g, 1, none⟩ = some (.int .i64 (byt : Int)) := (blk_cell BK_g.out 1).trans rfl
  have lf1_1 := blk_frozen BK_g.out 1
  have lc1_2 : w.cell? ⟨g, 2, none⟩ = some (.map (some m)) := (blk_cell BK_g.out 2).trans rfl
  have lf1_2 := blk_frozen BK_g.out 2
  have lc1_3 : w.cell? ⟨g, 3, none⟩ = some (.bool true) := (blk_cell BK_g.out 3).trans rfl
  have lf1_3 := blk_frozen BK_g.out 3
  have lc1_4 : w.cell? ⟨g, 4, none⟩ = some (.int .i64 (left)) := (blk_cell BK_g.out 4).trans rfl
  have lf1_4 := blk_frozen BK_g.out 4
  have lc1_5 : w.cell? ⟨g, 5, none⟩ = some (.int .i64 (keep)) := (blk_cell BK_g.out 5).trans rfl
  have lf1_5 := blk_frozen BK_g.out 5
  have lc1_6 : w.cell? ⟨g, 6, none⟩ = some (.int .i64 (wr)) := (blk_cell BK_g.out 6).trans rfl
  have lf1_6 := blk_frozen BK_g.out 6
  go_enter Try.func27, Try.ntmps27
  go_wp2
  go_ret
  exact ⟨rfl, rfl⟩
set_option maxHeartbeats 4000000 in
set_option maxRecDepth 100000 in
theorem ready_2 {M : Nat → Prop} {w : World} {g m : Nat} {sec byt : Nat} {all : Int → List Int} {left keep wr : Int} (h : IsDisk M w g m ⟨sec, byt, all, false, left, keep, wr⟩) (k : Int) (hk : k < 0) :
    Calls Try.prog 27 #[.pointer (some ⟨g, 0, none⟩), .int .i64 k] w fun e w' => e = .returned (.int .i64 1) ∧ w = w' := by
  have BK_g : Aside0 (w.heap[g]? = some (.cells #[.int .i64 (sec : Int), .int .i64 (byt : Int), .map (some m), .bool false, .int .i64 (left), .int .i64 (keep), .int .i64 (wr)] 52 (0, 0))) := ⟨h.blk⟩
  clear h
  have lc1_0 : w.cell? ⟨g, 0, none⟩ = some (.int .i64 (sec : Int)) := (blk_cell BK_g.out 0).trans rfl
  have lf1_0 := blk_frozen BK_g.out 0
  have lc1_1 : w.cell? ⟨g, 1, none⟩ = some (.int .i64 (byt : Int)) := (blk_cell BK_g.out 1).trans rfl
  have lf1_1 := blk_frozen BK_g.out 1
  have lc1_2 : w.cell? ⟨g, 2, none⟩ = some (.map (some m)) := (blk_cell BK_g.out 2).trans rfl
  have lf1_2 := blk_frozen BK_g.out 2
  have lc1_3 : w.cell? ⟨g, 3, none⟩ = some (.bool false) := (blk_cell BK_g.out 3).trans rfl
  have lf1_3 := blk_frozen BK_g.out 3
  have lc1_4 : w.cell? ⟨g, 4, none⟩ = some (.int .i64 (left)) := (blk_cell BK_g.out 4).trans rfl
  have lf1_4 := blk_frozen BK_g.out 4
  have lc1_5 : w.cell? ⟨g, 5, none⟩ = some (.int .i64 (keep)) := (blk_cell BK_g.out 5).trans rfl
  have lf1_5 := blk_frozen BK_g.out 5
  have lc1_6 : w.cell? ⟨g, 6, none⟩ = some (.int .i64 (wr)) := (blk_cell BK_g.out 6).trans rfl
  have lf1_6 := blk_frozen BK_g.out 6
  have t1 : decide (k < 0) = true := decide_eq_true hk
  go_enter Try.func27, Try.ntmps27
  go_wp2
  go_ret
  exact ⟨rfl, rfl⟩
set_option maxHeartbeats 4000000 in
set_option maxRecDepth 100000 in
theorem ready_3 {M : Nat → Prop} {w : World} {g m : Nat} {sec byt : Nat} {all : Int → List Int} {left keep wr : Int} (h : IsDisk M w g m ⟨sec, byt, all, false, left, keep, wr⟩) (k : Int) (h0 : 0 ≤ k) (hk : (sec : Int) ≤ k) :
    Calls Try.prog 27 #[.pointer (some ⟨g, 0, none⟩), .int .i64 k] w fun e w' => e = .returned (.int .i64 1) ∧ w = w' := by
  have BK_g : Aside0 (w.heap[g]? = some (.cells #[.int .i64 (sec : Int), .int .i64 (byt : Int), .map (some m), .bool false, .int .i64 (left), .int .i64 (keep), .int .i64 (wr)] 52 (0, 0))) := ⟨h.blk⟩
  clear h
  have lc1_0 : w.cell? ⟨g, 0, none⟩ = some (.int .i64 (sec : Int)) := (blk_cell BK_g.out 0).trans rfl
  have lf1_0 := blk_frozen BK_g.out 0
  have lc1_1 : w.cell? ⟨g, 1, none⟩ = some (.int .i64 (byt : Int)) := (blk_cell BK_g.out 1).trans rfl
  have lf1_1 := blk_frozen BK_g.out 1
  have lc1_2 : w.cell? ⟨g, 2, none⟩ = some (.map (some m)) := (blk_cell BK_g.out 2).trans rfl
  have lf1_2 := blk_frozen BK_g.out 2
  have lc1_3 : w.cell? ⟨g, 3, none⟩ = some (.bool false) := (blk_cell BK_g.out 3).trans rfl
  have lf1_3 := blk_frozen BK_g.out 3
  have lc1_4 : w.cell? ⟨g, 4, none⟩ = some (.int .i64 (left)) := (blk_cell BK_g.out 4).trans rfl
  have lf1_4 := blk_frozen BK_g.out 4
  have lc1_5 : w.cell? ⟨g, 5, none⟩ = some (.int .i64 (keep)) := (blk_cell BK_g.out 5).trans rfl
  have lf1_5 := blk_frozen BK_g.out 5
  have lc1_6 : w.cell? ⟨g, 6, none⟩ = some (.int .i64 (wr)) := (blk_cell BK_g.out 6).trans rfl
  have lf1_6 := blk_frozen BK_g.out 6
  have t1 : decide (k < 0) = false := decide_eq_false (by omega)
  have t2 : decide ((sec : Int) ≤ k) = true := decide_eq_true hk
  go_enter Try.func27, Try.ntmps27
  go_wp2
  go_ret
  exact ⟨rfl, rfl⟩
set_option maxHeartbeats 4000000 in
set_option maxRecDepth 100000 in
theorem ready_4 {M : Nat → Prop} {w : World} {g m : Nat} {sec byt : Nat} {all : Int → List Int} {left keep wr : Int} (h : IsDisk M w g m ⟨sec, byt, all, false, left, keep, wr⟩) (k : Int) (h0 : 0 ≤ k) (hk : k < sec) :
    Calls Try.prog 27 #[.pointer (some ⟨g, 0, none⟩), .int .i64 k] w fun e w' => e = .returned (.int .i64 0) ∧ w = w' := by
  have BK_g : Aside0 (w.heap[g]? = some (.cells #[.int .i64 (sec : Int), .int .i64 (byt : Int), .map (some m), .bool false, .int .i64 (left), .int .i64 (keep), .int .i64 (wr)] 52 (0, 0))) := ⟨h.blk⟩
  clear h
  have lc1_0 : w.cell? ⟨g, 0, none⟩ = some (.int .i64 (sec : Int)) := (blk_cell BK_g.out 0).trans rfl
  have lf1_0 := blk_frozen BK_g.out 0
  have lc1_1 : w.cell? ⟨g, 1, none⟩ = some (.int .i64 (byt : Int)) := (blk_cell BK_g.out 1).trans rfl
  have lf1_1 := blk_frozen BK_g.out 1
  have lc1_2 : w.cell? ⟨g, 2, none⟩ = some (.map (some m)) := (blk_cell BK_g.out 2).trans rfl
  have lf1_2 := blk_frozen BK_g.out 2
  have lc1_3 : w.cell? ⟨g, 3, none⟩ = some (.bool false) := (blk_cell BK_g.out 3).trans rfl
  have lf1_3 := blk_frozen BK_g.out 3
  have lc1_4 : w.cell? ⟨g, 4, none⟩ = some (.int .i64 (left)) := (blk_cell BK_g.out 4).trans rfl
  have lf1_4 := blk_frozen BK_g.out 4
  have lc1_5 : w.cell? ⟨g, 5, none⟩ = some (.int .i64 (keep)) := (blk_cell BK_g.out 5).trans rfl
  have lf1_5 := blk_frozen BK_g.out 5
  have lc1_6 : w.cell? ⟨g, 6, none⟩ = some (.int .i64 (wr)) := (blk_cell BK_g.out 6).trans rfl
  have lf1_6 := blk_frozen BK_g.out 6
  have t1 : decide (k < 0) = false := decide_eq_false (by omega)
  have t2 : decide ((sec : Int) ≤ k) = false := decide_eq_false (by omega)
  go_enter Try.func27, Try.ntmps27
  go_wp2
  go_ret
  exact ⟨rfl, rfl⟩
set_option maxHeartbeats 4000000 in
set_option maxRecDepth 100000 in
theorem ready_nil (k : Int) (w : World) : Calls Try.prog 27 #[.pointer none, .int .i64 k] w fun e w' => e = .returned (.int .i64 3) ∧ w = w' := by
  go_enter Try.func27, Try.ntmps27
  go_wp2
  go_ret
  exact ⟨rfl, rfl⟩
theorem ready_c {M : Nat → Prop} {w : World} {g m : Nat} {s : DS} (h : IsDisk M w g m s) (k : Int) : Calls Try.prog 27 #[.pointer (some ⟨g, 0, none⟩), .int .i64 k] w fun e w' => e = .returned (.int .i64 (s.ready k)) ∧ w = w' := by
  obtain ⟨sec, byt, all, down, left, keep, wr⟩ := s
  cases down with
  | true => rw [ready_down rfl]; exact ready_1 h k
  | false =>
    by_cases h0 : k < 0
    · rw [ready_arg rfl (.inl h0)]; exact ready_2 h k h0
    · by_cases h1 : (sec : Int) ≤ k
      · rw [ready_arg rfl (.inr h1)]; exact ready_3 h k (by omega) h1
      · rw [ready_ok rfl (by omega) (by show k < (sec : Int); omega)]; exact ready_4 h k (by omega) (by omega)
set_option maxHeartbeats 4000000 in
set_option maxRecDepth 100000 in
theorem read_no {M : Nat → Prop} {w : World} {g m : Nat} {s : DS} (h : IsDisk M w g m s) (k e0 : Int) (he : s.ready k = e0) (hne : e0 ≠ 0) : Calls Try.prog 13 #[.pointer (some ⟨g, 0, none⟩), .int .i64 k] w fun e w' => e = .returned (.tuple #[.slice none 0 0, .int .i64 e0]) ∧ w = w' := by
  have q1 : (e0 != 0) = true := bne_iff_ne.2 hne
  have H := Aside0.mk h
  have HE := Aside0.mk he
  clear h he hne
  go_enter Try.func13, Try.ntmps13
  go_wp2_with (go_at_call 27; refine (ready_c H.out k).mono ?_; rw [HE.out]; rintro e w' ⟨rfl, rfl⟩)
  go_ret2
  exact ⟨rfl, rfl⟩
set_option maxHeartbeats 4000000 in
set_option maxRecDepth 100000 in
theorem read_nil (k : Int) (w : World) : Calls Try.prog 13 #[.pointer none, .int .i64 k] w fun e w' => e = .returned (.tuple #[.slice none 0 0, .int .i64 3]) ∧ w = w' := by
  go_enter Try.func13, Try.ntmps13
  go_wp2_with (go_at_call 27; refine (ready_nil k _).mono ?_; rintro e w' ⟨rfl, rfl⟩)
  go_ret2
  exact ⟨rfl, rfl⟩
set_option maxHeartbeats 4000000 in
set_option maxRecDepth 100000 in
theorem read_ok {M : Nat → Prop} {w : World} {g m : Nat} {sec byt : Nat} {all : Int → List Int} {left keep wr : Int} (h : IsDisk M w g m ⟨sec, byt, all, false, left, keep, wr⟩) (k : Int) (h0 : 0 ≤ k) (h1 : k < sec) : Calls Try.prog 13 #[.pointer (some ⟨g, 0, none⟩), .int .i64 k] w fun e w' => ∃ r, e = .returned (.tuple #[.slice (some ⟨r, 0, none⟩) byt byt, .int .i64 0]) ∧ w.heap.size ≤ r ∧ w'.heap[r]? = some (.cells ((all k).map (Value.int .u8)).toArray 5 (0, 0)) ∧ Below w.heap.size w w' := by
  obtain ⟨f, n, hmp, hn, hsect⟩ := h.mp
  obtain ⟨A, ys, c, hlk, hev, hys⟩ := hsect.look k
  have hbb := h.bd.2
  have H := Aside0.mk h
  have HN := Aside0.mk hn
  have HLK := Aside0.mk hlk
  have HEV := Aside0.mk hev
  have HYS := Aside0.mk hys
  have MP_m := Aside0.mk hmp
  have NE_g_m := Aside0.mk h.ne
  have NE_m_g := Aside0.mk h.ne.symm
  have K0 := Aside0.mk h0
  have K1 := Aside0.mk h1
  have BK_g : Aside0 (w.heap[g]? = some (.cells #[.int .i64 (sec : Int), .int .i64 (byt : Int), .map (some m), .bool false, .int .i64 (left), .int .i64 (keep), .int .i64 (wr)] 52 (0, 0))) := ⟨h.blk⟩
  clear h hn hlk hev hys hmp hsect h0 h1
  have XT : Aside0 (Ext (fun _ => False) w w) := ⟨Ext.refl _ _⟩
  have lc1_0 : w.cell? ⟨g, 0, none⟩ = some (.int .i64 (sec : Int)) := (blk_cell BK_g.out 0).trans rfl
  have lf1_0 := blk_frozen BK_g.out 0
  have lc1_1 : w.cell? ⟨g, 1, none⟩ = some (.int .i64 (byt : Int)) := (blk_cell BK_g.out 1).trans rfl
  have lf1_1 := blk_frozen BK_g.out 1
  have lc1_2 : w.cell? ⟨g, 2, none⟩ = some (.map (some m)) := (blk_cell BK_g.out 2).trans rfl
  have lf1_2 := blk_frozen BK_g.out 2
  have lc1_3 : w.cell? ⟨g, 3, none⟩ = some (.bool false) := (blk_cell BK_g.out 3).trans rfl
  have lf1_3 := blk_frozen BK_g.out 3
  have lc1_4 : w.cell? ⟨g, 4, none⟩ = some (.int .i64 (left)) := (blk_cell BK_g.out 4).trans rfl
  have lf1_4 := blk_frozen BK_g.out 4
  have lc1_5 : w.cell? ⟨g, 5, none⟩ = some (.int .i64 (keep)) := (blk_cell BK_g.out 5).trans rfl
  have lf1_5 := blk_frozen BK_g.out 5
  have lc1_6 : w.cell? ⟨g, 6, none⟩ = some (.int .i64 (wr)) := (blk_cell BK_g.out 6).trans rfl
  have lf1_6 := blk_frozen BK_g.out 6
  go_enter Try.func13, Try.ntmps13
  have HZ : Aside0 (∀ v : Nat, byt = (zeros byt).length) := ⟨fun _ => by simp [zeros]⟩
  go_wp2_with (first | (go_at_call 27; refine (ready_4 H.out k K0.out K1.out).mono ?_; rintro e w' ⟨rfl, rfl⟩) | ((with_reducible refine gate_dst (N := 18) rfl ?_); refine mk_event rfl (N := 18) rfl .u8 (byt) 1 rfl Try.underlying27 info5 (by decide) (by decide) ?hx ?hy (by omega) ?_; (case hx => rfl); (case hy => rfl); intro r hg w1 hbox HBc; have NE_g_r : Aside0 (g ≠ r) := ⟨ne_born (blk_lt BK_g.out) hg⟩; have NE_r_g : Aside0 (r ≠ g) := ⟨fun e => NE_g_r.out e.symm⟩; have NE_m_r : Aside0 (m ≠ r) := ⟨ne_born (IsMap.lt MP_m.out) hg⟩; have NE_r_m : Aside0 (r ≠ m) := ⟨fun e => NE_m_r.out e.symm⟩; have F_r : Aside0 (∀ k, k = r → (fun _ => False) k ∨ w.heap.size ≤ k) := ⟨fnew hg XT.out.size⟩; have RG_r : Aside0 (w.heap.size ≤ r) := ⟨Nat.le_trans XT.out.size (Nat.le_of_eq hg.symm)⟩; have hge := Nat.le_of_eq hg.symm; clear hg; clear lc1_0 lf1_0 lc1_1 lf1_1 lc1_2 lf1_2 lc1_3 lf1_3 lc1_4 lf1_4 lc1_5 lf1_5 lc1_6 lf1_6; have BKn_g : Aside0 (w1.heap[g]? = some (.cells #[.int .i64 (sec : Int), .int .i64 (byt : Int), .map (some m), .bool false, .int .i64 (left), .int .i64 (keep), .int .i64 (wr)] 52 (0, 0))) := ⟨Ext.blk (Ext.none_ HBc) BK_g.out (fun e => e)⟩; have MPn_m : Aside0 (IsMap w1 m (f) (n)) := ⟨IsMap.ext MP_m.out (Ext.none_ HBc) (fun e => e)⟩; have XTn : Aside0 (Ext (fun _ => False) w w1) := ⟨XT.out.stepB HBc⟩; clear BK_g MP_m XT; have BK_g := BKn_g; have MP_m := MPn_m; have XT := XTn; clear BKn_g MPn_m XTn; clear hge; have BK_r : Aside0 (w1.heap[r]? = some (.cells ((List.replicate byt (0 : Int)).map (Value.int .u8)).toArray 5 (0, 0))) := ⟨hbox⟩; clear hbox HBc; have lc2_0 : w1.cell? ⟨g, 0, none⟩ = some (.int .i64 (sec : Int)) := (blk_cell BK_g.out 0).trans rfl; have lf2_0 := blk_frozen BK_g.out 0; have lc2_1 : w1.cell? ⟨g, 1, none⟩ = some (.int .i64 (byt : Int)) := (blk_cell BK_g.out 1).trans rfl; have lf2_1 := blk_frozen BK_g.out 1; have lc2_2 : w1.cell? ⟨g, 2, none⟩ = some (.map (some m)) := (blk_cell BK_g.out 2).trans rfl; have lf2_2 := blk_frozen BK_g.out 2; have lc2_3 : w1.cell? ⟨g, 3, none⟩ = some (.bool false) := (blk_cell BK_g.out 3).trans rfl; have lf2_3 := blk_frozen BK_g.out 3; have lc2_4 : w1.cell? ⟨g, 4, none⟩ = some (.int .i64 (left)) := (blk_cell BK_g.out 4).trans rfl; have lf2_4 := blk_frozen BK_g.out 4; have lc2_5 : w1.cell? ⟨g, 5, none⟩ = some (.int .i64 (keep)) := (blk_cell BK_g.out 5).trans rfl; have lf2_5 := blk_frozen BK_g.out 5; have lc2_6 : w1.cell? ⟨g, 6, none⟩ = some (.int .i64 (wr)) := (blk_cell BK_g.out 6).trans rfl; have lf2_6 := blk_frozen BK_g.out 6) | ((with_reducible refine gate_look (x := 23) (y := 24) rfl ?_); refine look_event (k := k) rfl rfl MP_m.out Try.underlying50 Try.underlying3 zero27 ?hx ?hy HLK.out ?_; (case hx => rfl); (case hy => rfl)) | ((with_reducible refine gate_builtin (b := .copy) (xs := #[.tmp 19, .tmp 25]) rfl ?_); refine copy_event rfl (.tmp 19) (.tmp 25) .u8 rfl Try.underlying27 one5 (zeros byt) ys byt c A (List.length_replicate ..) ?cd ?cs BK_r.out ?cv ?_; (case cd => rfl); (case cs => rfl); (case cv => exact (HEV.out.at_ _ (XT.out.sub (fun _ e => e.elim)))); intro w2 hput HEc; clear lc2_0 lf2_0 lc2_1 lf2_1 lc2_2 lf2_2 lc2_3 lf2_3 lc2_4 lf2_4 lc2_5 lf2_5 lc2_6 lf2_6; have BKn_g : Aside0 (w2.heap[g]? = some (.cells #[.int .i64 (sec : Int), .int .i64 (byt : Int), .map (some m), .bool false, .int .i64 (left), .int .i64 (keep), .int .i64 (wr)] 52 (0, 0))) := ⟨Ext.blk HEc BK_g.out NE_g_r.out⟩; have MPn_m : Aside0 (IsMap w2 m (f) (n)) := ⟨IsMap.ext MP_m.out HEc NE_m_r.out⟩; have XTn : Aside0 (Ext (fun _ => False) w w2) := ⟨XT.out.step HEc (F_r.out)⟩; clear BK_g MP_m XT; have BK_g := BKn_g; have MP_m := MPn_m; have XT := XTn; clear BKn_g MPn_m XTn; clear BK_r; have BK_r : Aside0 (w2.heap[r]? = some (.cells ((ys.take (zeros byt).length ++ (zeros byt).drop ys.length).map (Value.int .u8)).toArray 5 (0, 0))) := ⟨hput⟩; clear hput HEc; have lc3_0 : w2.cell? ⟨g, 0, none⟩ = some (.int .i64 (sec : Int)) := (blk_cell BK_g.out 0).trans rfl; have lf3_0 := blk_frozen BK_g.out 0; have lc3_1 : w2.cell? ⟨g, 1, none⟩ = some (.int .i64 (byt : Int)) := (blk_cell BK_g.out 1).trans rfl; have lf3_1 := blk_frozen BK_g.out 1; have lc3_2 : w2.cell? ⟨g, 2, none⟩ = some (.map (some m)) := (blk_cell BK_g.out 2).trans rfl; have lf3_2 := blk_frozen BK_g.out 2; have lc3_3 : w2.cell? ⟨g, 3, none⟩ = some (.bool false) := (blk_cell BK_g.out 3).trans rfl; have lf3_3 := blk_frozen BK_g.out 3; have lc3_4 : w2.cell? ⟨g, 4, none⟩ = some (.int .i64 (left)) := (blk_cell BK_g.out 4).trans rfl; have lf3_4 := blk_frozen BK_g.out 4; have lc3_5 : w2.cell? ⟨g, 5, none⟩ = some (.int .i64 (keep)) := (blk_cell BK_g.out 5).trans rfl; have lf3_5 := blk_frozen BK_g.out 5; have lc3_6 : w2.cell? ⟨g, 6, none⟩ = some (.int .i64 (wr)) := (blk_cell BK_g.out 6).trans rfl; have lf3_6 := blk_frozen BK_g.out 6))
  go_ret2
  have hb := BK_r.out
  rw [HYS.out] at hb
  exact ⟨r, rfl, RG_r.out, hb, XT.out.below (fun _ e => e.elim)⟩
/-- The sectors behind a write of n bytes of b. -/
def put (all : Int → List Int) (k : Int) (b : List Int) (n : Nat) : Int → List Int := fun j => if j = k then b.take n ++ (all k).drop n else all j
theorem IsDisk.sub {M : Nat → Prop} {W : World} {g m : Nat} {s : DS} (h : IsDisk M W g m s) : ∀ k, (k = g ∨ k = m) → M k := fun k e => by rcases e with e | e; rw [e]; exact h.mg; rw [e]; exact h.mm
theorem IsDisk.made {M : Nat → Prop} {w W : World} {g m r n : Nat} {sec byt : Nat} {all : Int → List Int} {down dn' : Bool} {left keep wr left' : Int} {f : Int → Option Value} {k : Int} {b p : List Int} {j : Nat} (h : IsDisk M w g m ⟨sec, byt, all, down, left, keep, wr⟩)
    (hs : Sect M w byt all f) (hn : (n : Int) ≤ wr) (hX : Ext (fun k => k = g ∨ k = m) w W) (hMb : ∀ k, M k → k < w.heap.size) (hr : w.heap.size ≤ r)
    (hb : W.heap[g]? = some (.cells (dcells m ⟨sec, byt, all, dn', left', keep, wr + 1⟩) 52 (0, 0))) (hm : IsMap W m (fun j => if j = k then some (.slice (some ⟨r, 0, none⟩) byt byt) else f j) (n + 1))
    (hrow : W.heap[r]? = some (.cells ((p.take (all k).length ++ (all k).drop p.length).map (Value.int .u8)).toArray 5 (0, 0))) (hp : p = b.take j) (hlen : p.length = j) (hl : b.length = byt) : IsDisk M W g m ⟨sec, byt, put all k b j, dn', left', keep, wr + 1⟩ := by
  have ha : (all k).length = byt := (hs k).1
  have hj : j ≤ byt := by rw [hp, List.length_take] at hlen; omega
  have he : p.take (all k).length ++ (all k).drop p.length = b.take j ++ (all k).drop j := by rw [List.take_of_length_le (by omega), hlen, hp]
  rw [he] at hrow
  have hl2 : (b.take j ++ (all k).drop j).length = byt := by rw [List.length_append, List.length_take, List.length_drop]; omega
  refine ⟨hb, ⟨_, _, hm, by simp only [Int.natCast_add]; omega, ?_⟩, h.ne, h.mg, h.mm, h.bd⟩
  exact (hs.step (hX.sub h.sub)).put hl2 (Ever.ofRow (n := 0) hrow (by have := h.bd.2; simp only at this; omega) (fun e => by have := hMb r e; omega))
set_option maxHeartbeats 4000000 in
set_option maxRecDepth 100000 in
theorem write_no {M : Nat → Prop} {w : World} {g m : Nat} {s : DS} (h : IsDisk M w g m s) (k e0 : Int) (A : Option Addr) (n c : Nat) (he : s.ready k = e0) (hne : e0 ≠ 0) : Calls Try.prog 11 #[.pointer (some ⟨g, 0, none⟩), .int .i64 k, .slice A n c] w fun e w' => e = .returned (.int .i64 e0) ∧ w = w' := by
  have q1 : (e0 != 0) = true := bne_iff_ne.2 hne
  have H := Aside0.mk h
  have HE := Aside0.mk he
  have HN := Aside0.mk hne
  clear h he hne
  go_enter Try.func11, Try.ntmps11
  go_wp2_with (go_at_call 13; refine (read_no H.out k e0 HE.out HN.out).mono ?_; rintro e w' ⟨rfl, rfl⟩)
  go_ret
  exact ⟨rfl, rfl⟩
set_option maxHeartbeats 4000000 in
set_option maxRecDepth 100000 in
theorem write_nil (k : Int) (A : Option Addr) (n c : Nat) (w : World) : Calls Try.prog 11 #[.pointer none, .int .i64 k, .slice A n c] w fun e w' => e = .returned (.int .i64 3) ∧ w = w' := by
  go_enter Try.func11, Try.ntmps11
  go_wp2_with (go_at_call 13; refine (read_nil k _).mono ?_; rintro e w' ⟨rfl, rfl⟩)
  go_ret
  exact ⟨rfl, rfl⟩
set_option maxHeartbeats 4000000 in
set_option maxRecDepth 100000 in
theorem write_len {M : Nat → Prop} {w : World} {g m : Nat} {sec byt : Nat} {all : Int → List Int} {left keep wr : Int} (h : IsDisk M w g m ⟨sec, byt, all, false, left, keep, wr⟩) (k : Int) (h0 : 0 ≤ k) (h1 : k < sec) (hMb : ∀ k, M k → k < w.heap.size) (A : Option Addr) (c : Nat) (b : List Int) (hc : b.length ≤ c) (hV : Ever (fun k => k = g ∨ k = m) w (fun W => Kd.C (Kd.int .u8) W A b.length b)) (hl : b.length ≠ byt) :
    Calls Try.prog 11 #[.pointer (some ⟨g, 0, none⟩), .int .i64 k, .slice A b.length c] w fun e w' => e = .returned (.int .i64 1) ∧ Below w.heap.size w w' := by
  obtain ⟨f, n, hmp, hn, hsect⟩ := h.mp
  have H := Aside0.mk h; have HSE := Aside0.mk hsect; have HNW := Aside0.mk hn; have MP_m := Aside0.mk hmp; have NE_g_m := Aside0.mk h.ne; have NE_m_g := Aside0.mk h.ne.symm; have K0 := Aside0.mk h0; have K1 := Aside0.mk h1; have HMB := Aside0.mk hMb; have HV := Aside0.mk hV; have HC := Aside0.mk hc
  have t1 : ((b.length : Int) != (byt : Int)) = true := bne_iff_ne.2 (by omega)
  have BK_g : Aside0 (w.heap[g]? = some (.cells #[.int .i64 (sec : Int), .int .i64 (byt : Int), .map (some m), .bool false, .int .i64 (left), .int .i64 (keep), .int .i64 (wr)] 52 (0, 0))) := ⟨h.blk⟩
  clear h hmp hn hsect h0 h1 hMb hV hc hl
  have XT : Aside0 (Ext (fun _ => False) w w) := ⟨Ext.refl _ _⟩
  have lc1_0 : w.cell? ⟨g, 0, none⟩ = some (.int .i64 (sec : Int)) := (blk_cell BK_g.out 0).trans rfl
  have lf1_0 := blk_frozen BK_g.out 0
  have lc1_1 : w.cell? ⟨g, 1, none⟩ = some (.int .i64 (byt : Int)) := (blk_cell BK_g.out 1).trans rfl
  have lf1_1 := blk_frozen BK_g.out 1
  have lc1_2 : w.cell? ⟨g, 2, none⟩ = some (.map (some m)) := (blk_cell BK_g.out 2).trans rfl
  have lf1_2 := blk_frozen BK_g.out 2
  have lc1_3 : w.cell? ⟨g, 3, none⟩ = some (.bool false) := (blk_cell BK_g.out 3).trans rfl
  have lf1_3 := blk_frozen BK_g.out 3
  have lc1_4 : w.cell? ⟨g, 4, none⟩ = some (.int .i64 (left)) := (blk_cell BK_g.out 4).trans rfl
  have lf1_4 := blk_frozen BK_g.out 4
  have lc1_5 : w.cell? ⟨g, 5, none⟩ = some (.int .i64 (keep)) := (blk_cell BK_g.out 5).trans rfl
  have lf1_5 := blk_frozen BK_g.out 5
  have lc1_6 : w.cell? ⟨g, 6, none⟩ = some (.int .i64 (wr)) := (blk_cell BK_g.out 6).trans rfl
  have lf1_6 := blk_frozen BK_g.out 6
  go_enter Try.func11, Try.ntmps11
  go_wp2_with (first | (go_at_call 13; refine (read_ok H.out k K0.out K1.out).mono ?_; rintro e w1 ⟨r, rfl, hr, hrow, HBc⟩; have NE_g_r : Aside0 (g ≠ r) := ⟨fun e => by have := H.out.lts.1; omega⟩; have NE_r_g : Aside0 (r ≠ g) := ⟨fun e => NE_g_r.out e.symm⟩; have NE_m_r : Aside0 (m ≠ r) := ⟨fun e => by have := H.out.lts.2; omega⟩; have NE_r_m : Aside0 (r ≠ m) := ⟨fun e => NE_m_r.out e.symm⟩; have RG_r := Aside0.mk hr; have F_r : Aside0 (∀ k, k = r → (fun _ => False) k ∨ w.heap.size ≤ k) := ⟨fun k e => .inr (by rw [e]; exact hr)⟩; clear hr; clear lc1_0 lf1_0 lc1_1 lf1_1 lc1_2 lf1_2 lc1_3 lf1_3 lc1_4 lf1_4 lc1_5 lf1_5 lc1_6 lf1_6; have BKn_g : Aside0 (w1.heap[g]? = some (.cells #[.int .i64 (sec : Int), .int .i64 (byt : Int), .map (some m), .bool false, .int .i64 (left), .int .i64 (keep), .int .i64 (wr)] 52 (0, 0))) := ⟨Ext.blk (Ext.none_ HBc) BK_g.out (fun e => e)⟩; have MPn_m : Aside0 (IsMap w1 m (f) (n)) := ⟨IsMap.ext MP_m.out (Ext.none_ HBc) (fun e => e)⟩; have XTn : Aside0 (Ext (fun _ => False) w w1) := ⟨XT.out.stepB HBc⟩; clear BK_g MP_m XT; have BK_g := BKn_g; have MP_m := MPn_m; have XT := XTn; clear BKn_g MPn_m XTn; have BK_r : Aside0 (w1.heap[r]? = some (.cells ((all k).map (Value.int .u8)).toArray 5 (0, 0))) := ⟨hrow⟩; clear hrow HBc; have lc2_0 : w1.cell? ⟨g, 0, none⟩ = some (.int .i64 (sec : Int)) := (blk_cell BK_g.out 0).trans rfl; have lf2_0 := blk_frozen BK_g.out 0; have lc2_1 : w1.cell? ⟨g, 1, none⟩ = some (.int .i64 (byt : Int)) := (blk_cell BK_g.out 1).trans rfl; have lf2_1 := blk_frozen BK_g.out 1; have lc2_2 : w1.cell? ⟨g, 2, none⟩ = some (.map (some m)) := (blk_cell BK_g.out 2).trans rfl; have lf2_2 := blk_frozen BK_g.out 2; have lc2_3 : w1.cell? ⟨g, 3, none⟩ = some (.bool false) := (blk_cell BK_g.out 3).trans rfl; have lf2_3 := blk_frozen BK_g.out 3; have lc2_4 : w1.cell? ⟨g, 4, none⟩ = some (.int .i64 (left)) := (blk_cell BK_g.out 4).trans rfl; have lf2_4 := blk_frozen BK_g.out 4; have lc2_5 : w1.cell? ⟨g, 5, none⟩ = some (.int .i64 (keep)) := (blk_cell BK_g.out 5).trans rfl; have lf2_5 := blk_frozen BK_g.out 5; have lc2_6 : w1.cell? ⟨g, 6, none⟩ = some (.int .i64 (wr)) := (blk_cell BK_g.out 6).trans rfl; have lf2_6 := blk_frozen BK_g.out 6))
  go_ret
  exact ⟨rfl, XT.out.below (fun _ e => e.elim)⟩
set_option maxHeartbeats 4000000 in
set_option maxRecDepth 100000 in
theorem write_2 {M : Nat → Prop} {w : World} {g m : Nat} {sec byt : Nat} {all : Int → List Int} {left keep wr : Int} (h : IsDisk M w g m ⟨sec, byt, all, false, left, keep, wr⟩) (k : Int) (h0 : 0 ≤ k) (h1 : k < sec) (hMb : ∀ k, M k → k < w.heap.size) (A : Option Addr) (c : Nat) (b : List Int) (hc : b.length ≤ c) (hV : Ever (fun k => k = g ∨ k = m) w (fun W => Kd.C (Kd.int .u8) W A b.length b)) (hl : b.length = byt) (hw : wr ≤ 1000000000000) (hle : left ≤ 0) :
    Calls Try.prog 11 #[.pointer (some ⟨g, 0, none⟩), .int .i64 k, .slice A b.length c] w fun e w' => e = .returned (.int .i64 0) ∧ IsDisk M w' g m ⟨sec, byt, put all k b (b.length), false, left, keep, wr + 1⟩ ∧ Ext (fun k => k = g ∨ k = m) w w' := by
  obtain ⟨f, n, hmp, hn, hsect⟩ := h.mp
  have H := Aside0.mk h; have HSE := Aside0.mk hsect; have HNW := Aside0.mk hn; have MP_m := Aside0.mk hmp; have NE_g_m := Aside0.mk h.ne; have NE_m_g := Aside0.mk h.ne.symm; have K0 := Aside0.mk h0; have K1 := Aside0.mk h1; have HMB := Aside0.mk hMb; have HV := Aside0.mk hV; have HC := Aside0.mk hc
  have hw0 : 0 ≤ wr := Int.le_trans (Int.natCast_nonneg n) hn
  have HW1 := Aside0.mk hw
  have HL := Aside0.mk hl
  have BK_g : Aside0 (w.heap[g]? = some (.cells #[.int .i64 (sec : Int), .int .i64 (byt : Int), .map (some m), .bool false, .int .i64 (left), .int .i64 (keep), .int .i64 (wr)] 52 (0, 0))) := ⟨h.blk⟩
  have F_g : Aside0 (∀ k, k = g → (fun k => k = g ∨ k = m) k ∨ w.heap.size ≤ k) := ⟨fold (.inl rfl)⟩; have F_m : Aside0 (∀ k, k = m → (fun k => k = g ∨ k = m) k ∨ w.heap.size ≤ k) := ⟨fold (.inr rfl)⟩
  have t1 : ((b.length : Int) != (byt : Int)) = false := by rw [hl]; simp
  have t2 : decide (0 < left) = false := decide_eq_false (by omega)
  clear hle
  obtain ⟨i0, hi0, hz0_, hz1_, hz2_⟩ := info_parts info5
  obtain ⟨hsl, hslr, _⟩ := print_take_of (P := Try.prog) (Value.int .u8) 0 27 5 .i64 Try.underlying27 hi0 hz1_ A c b ((b.length : Int)) (by omega) (by omega) HC.out
  obtain ⟨p, hp⟩ : ∃ p, p = b.take ((b.length : Int) : Int).toNat := ⟨_, rfl⟩
  rw [← hp] at hsl hslr
  have HPV : Aside0 (Ever (fun k => k = g ∨ k = m) w (fun W => Kd.C (Kd.int .u8) W A p.length p)) := ⟨HV.out.imp (fun W h => Kd.C_of_reads (hslr W (Kd.reads_of_C h)))⟩
  have HPJ : Aside0 (p = b.take (b.length)) := ⟨by rw [hp]; congr 1⟩
  have HPL : Aside0 (p.length = b.length) := ⟨by rw [HPJ.out, List.length_take]; omega⟩
  clear hslr hp hi0 hz0_ hz1_ hz2_ hl
  clear h hmp hn hsect h0 h1 hMb hV hc
  have XT : Aside0 (Ext (fun k => k = g ∨ k = m) w w) := ⟨Ext.refl _ _⟩
  have lc1_0 : w.cell? ⟨g, 0, none⟩ = some (.int .i64 (sec : Int)) := (blk_cell BK_g.out 0).trans rfl
  have lf1_0 := blk_frozen BK_g.out 0
  have lc1_1 : w.cell? ⟨g, 1, none⟩ = some (.int .i64 (byt : Int)) := (blk_cell BK_g.out 1).trans rfl
  have lf1_1 := blk_frozen BK_g.out 1
  have lc1_2 : w.cell? ⟨g, 2, none⟩ = some (.map (some m)) := (blk_cell BK_g.out 2).trans rfl
  have lf1_2 := blk_frozen BK_g.out 2
  have lc1_3 : w.cell? ⟨g, 3, none⟩ = some (.bool false) := (blk_cell BK_g.out 3).trans rfl
  have lf1_3 := blk_frozen BK_g.out 3
  have lc1_4 : w.cell? ⟨g, 4, none⟩ = some (.int .i64 (left)) := (blk_cell BK_g.out 4).trans rfl
  have lf1_4 := blk_frozen BK_g.out 4
  have lc1_5 : w.cell? ⟨g, 5, none⟩ = some (.int .i64 (keep)) := (blk_cell BK_g.out 5).trans rfl
  have lf1_5 := blk_frozen BK_g.out 5
  have lc1_6 : w.cell? ⟨g, 6, none⟩ = some (.int .i64 (wr)) := (blk_cell BK_g.out 6).trans rfl
  have lf1_6 := blk_frozen BK_g.out 6
  go_enter Try.func11, Try.ntmps11
  go_wp2_with (first | (go_at_call 13; refine (read_ok H.out k K0.out K1.out).mono ?_; rintro e w1 ⟨r, rfl, hr, hrow, HBc⟩; have NE_g_r : Aside0 (g ≠ r) := ⟨fun e => by have := H.out.lts.1; omega⟩; have NE_r_g : Aside0 (r ≠ g) := ⟨fun e => NE_g_r.out e.symm⟩; have NE_m_r : Aside0 (m ≠ r) := ⟨fun e => by have := H.out.lts.2; omega⟩; have NE_r_m : Aside0 (r ≠ m) := ⟨fun e => NE_m_r.out e.symm⟩; have RG_r := Aside0.mk hr; have F_r : Aside0 (∀ k, k = r → (fun k => k = g ∨ k = m) k ∨ w.heap.size ≤ k) := ⟨fun k e => .inr (by rw [e]; exact hr)⟩; clear hr; clear lc1_0 lf1_0 lc1_1 lf1_1 lc1_2 lf1_2 lc1_3 lf1_3 lc1_4 lf1_4 lc1_5 lf1_5 lc1_6 lf1_6; have BKn_g : Aside0 (w1.heap[g]? = some (.cells #[.int .i64 (sec : Int), .int .i64 (byt : Int), .map (some m), .bool false, .int .i64 (left), .int .i64 (keep), .int .i64 (wr)] 52 (0, 0))) := ⟨Ext.blk (Ext.none_ HBc) BK_g.out (fun e => e)⟩; have MPn_m : Aside0 (IsMap w1 m (f) (n)) := ⟨IsMap.ext MP_m.out (Ext.none_ HBc) (fun e => e)⟩; have XTn : Aside0 (Ext (fun k => k = g ∨ k = m) w w1) := ⟨XT.out.stepB HBc⟩; clear BK_g MP_m XT; have BK_g := BKn_g; have MP_m := MPn_m; have XT := XTn; clear BKn_g MPn_m XTn; have BK_r : Aside0 (w1.heap[r]? = some (.cells ((all k).map (Value.int .u8)).toArray 5 (0, 0))) := ⟨hrow⟩; clear hrow HBc; have lc2_0 : w1.cell? ⟨g, 0, none⟩ = some (.int .i64 (sec : Int)) := (blk_cell BK_g.out 0).trans rfl; have lf2_0 := blk_frozen BK_g.out 0; have lc2_1 : w1.cell? ⟨g, 1, none⟩ = some (.int .i64 (byt : Int)) := (blk_cell BK_g.out 1).trans rfl; have lf2_1 := blk_frozen BK_g.out 1; have lc2_2 : w1.cell? ⟨g, 2, none⟩ = some (.map (some m)) := (blk_cell BK_g.out 2).trans rfl; have lf2_2 := blk_frozen BK_g.out 2; have lc2_3 : w1.cell? ⟨g, 3, none⟩ = some (.bool false) := (blk_cell BK_g.out 3).trans rfl; have lf2_3 := blk_frozen BK_g.out 3; have lc2_4 : w1.cell? ⟨g, 4, none⟩ = some (.int .i64 (left)) := (blk_cell BK_g.out 4).trans rfl; have lf2_4 := blk_frozen BK_g.out 4; have lc2_5 : w1.cell? ⟨g, 5, none⟩ = some (.int .i64 (keep)) := (blk_cell BK_g.out 5).trans rfl; have lf2_5 := blk_frozen BK_g.out 5; have lc2_6 : w1.cell? ⟨g, 6, none⟩ = some (.int .i64 (wr)) := (blk_cell BK_g.out 6).trans rfl; have lf2_6 := blk_frozen BK_g.out 6) | ((with_reducible refine gate_store (p := 34) rfl ?_); refine store_event (w1 := ?_) rfl (p := 34) rfl rfl ?hr ?_; rotate_left; (case hr => go_simp; rfl); intro w2 hw_; obtain ⟨hput, HEc⟩ := put1 (cs' := #[.int .i64 (sec : Int), .int .i64 (byt : Int), .map (some m), .bool false, .int .i64 (left), .int .i64 (keep), .int .i64 (wr + 1)]) hw_ BK_g.out rfl; clear hw_; clear lc2_0 lf2_0 lc2_1 lf2_1 lc2_2 lf2_2 lc2_3 lf2_3 lc2_4 lf2_4 lc2_5 lf2_5 lc2_6 lf2_6; have BKn_r : Aside0 (w2.heap[r]? = some (.cells ((all k).map (Value.int .u8)).toArray 5 (0, 0))) := ⟨Ext.blk HEc BK_r.out NE_r_g.out⟩; have MPn_m : Aside0 (IsMap w2 m (f) (n)) := ⟨IsMap.ext MP_m.out HEc NE_m_g.out⟩; have XTn : Aside0 (Ext (fun k => k = g ∨ k = m) w w2) := ⟨XT.out.step HEc (F_g.out)⟩; clear BK_r MP_m XT; have BK_r := BKn_r; have MP_m := MPn_m; have XT := XTn; clear BKn_r MPn_m XTn; clear BK_g; have BK_g : Aside0 (w2.heap[g]? = some (.cells #[.int .i64 (sec : Int), .int .i64 (byt : Int), .map (some m), .bool false, .int .i64 (left), .int .i64 (keep), .int .i64 (wr + 1)] 52 (0, 0))) := ⟨hput⟩; clear hput HEc; have lc3_0 : w2.cell? ⟨g, 0, none⟩ = some (.int .i64 (sec : Int)) := (blk_cell BK_g.out 0).trans rfl; have lf3_0 := blk_frozen BK_g.out 0; have lc3_1 : w2.cell? ⟨g, 1, none⟩ = some (.int .i64 (byt : Int)) := (blk_cell BK_g.out 1).trans rfl; have lf3_1 := blk_frozen BK_g.out 1; have lc3_2 : w2.cell? ⟨g, 2, none⟩ = some (.map (some m)) := (blk_cell BK_g.out 2).trans rfl; have lf3_2 := blk_frozen BK_g.out 2; have lc3_3 : w2.cell? ⟨g, 3, none⟩ = some (.bool false) := (blk_cell BK_g.out 3).trans rfl; have lf3_3 := blk_frozen BK_g.out 3; have lc3_4 : w2.cell? ⟨g, 4, none⟩ = some (.int .i64 (left)) := (blk_cell BK_g.out 4).trans rfl; have lf3_4 := blk_frozen BK_g.out 4; have lc3_5 : w2.cell? ⟨g, 5, none⟩ = some (.int .i64 (keep)) := (blk_cell BK_g.out 5).trans rfl; have lf3_5 := blk_frozen BK_g.out 5; have lc3_6 : w2.cell? ⟨g, 6, none⟩ = some (.int .i64 (wr + 1)) := (blk_cell BK_g.out 6).trans rfl; have lf3_6 := blk_frozen BK_g.out 6) | ((with_reducible refine gate_builtin (b := .copy) (xs := #[.tmp 64, .tmp 67]) rfl ?_); refine copy_event rfl (.tmp 64) (.tmp 67) .u8 rfl Try.underlying27 one5 (all k) p byt c A (H.out.len k) ?cd ?cs BK_r.out ?cv ?_; (case cd => rfl); (case cs => rfl); (case cv => exact (HPV.out.at_ _ XT.out)); intro w3 hput HEc; clear lc3_0 lf3_0 lc3_1 lf3_1 lc3_2 lf3_2 lc3_3 lf3_3 lc3_4 lf3_4 lc3_5 lf3_5 lc3_6 lf3_6; have BKn_g : Aside0 (w3.heap[g]? = some (.cells #[.int .i64 (sec : Int), .int .i64 (byt : Int), .map (some m), .bool false, .int .i64 (left), .int .i64 (keep), .int .i64 (wr + 1)] 52 (0, 0))) := ⟨Ext.blk HEc BK_g.out NE_g_r.out⟩; have MPn_m : Aside0 (IsMap w3 m (f) (n)) := ⟨IsMap.ext MP_m.out HEc NE_m_r.out⟩; have XTn : Aside0 (Ext (fun k => k = g ∨ k = m) w w3) := ⟨XT.out.step HEc (F_r.out)⟩; clear BK_g MP_m XT; have BK_g := BKn_g; have MP_m := MPn_m; have XT := XTn; clear BKn_g MPn_m XTn; clear BK_r; have BK_r : Aside0 (w3.heap[r]? = some (.cells ((p.take (all k).length ++ (all k).drop p.length).map (Value.int .u8)).toArray 5 (0, 0))) := ⟨hput⟩; clear hput HEc; have lc4_0 : w3.cell? ⟨g, 0, none⟩ = some (.int .i64 (sec : Int)) := (blk_cell BK_g.out 0).trans rfl; have lf4_0 := blk_frozen BK_g.out 0; have lc4_1 : w3.cell? ⟨g, 1, none⟩ = some (.int .i64 (byt : Int)) := (blk_cell BK_g.out 1).trans rfl; have lf4_1 := blk_frozen BK_g.out 1; have lc4_2 : w3.cell? ⟨g, 2, none⟩ = some (.map (some m)) := (blk_cell BK_g.out 2).trans rfl; have lf4_2 := blk_frozen BK_g.out 2; have lc4_3 : w3.cell? ⟨g, 3, none⟩ = some (.bool false) := (blk_cell BK_g.out 3).trans rfl; have lf4_3 := blk_frozen BK_g.out 3; have lc4_4 : w3.cell? ⟨g, 4, none⟩ = some (.int .i64 (left)) := (blk_cell BK_g.out 4).trans rfl; have lf4_4 := blk_frozen BK_g.out 4; have lc4_5 : w3.cell? ⟨g, 5, none⟩ = some (.int .i64 (keep)) := (blk_cell BK_g.out 5).trans rfl; have lf4_5 := blk_frozen BK_g.out 5; have lc4_6 : w3.cell? ⟨g, 6, none⟩ = some (.int .i64 (wr + 1)) := (blk_cell BK_g.out 6).trans rfl; have lf4_6 := blk_frozen BK_g.out 6) | ((with_reducible refine gate_upd (x := 72) (y := 73) (z := 74) rfl ?_); refine upd_event (k := k) (v := .slice (some ⟨r, 0, none⟩) byt byt) rfl rfl rfl MP_m.out Try.underlying50 Try.underlying3 ?hx ?hy ?hz ?_; (case hx => rfl); (case hy => rfl); (case hz => rfl); intro w4 hup HEc; clear lc4_0 lf4_0 lc4_1 lf4_1 lc4_2 lf4_2 lc4_3 lf4_3 lc4_4 lf4_4 lc4_5 lf4_5 lc4_6 lf4_6; have BKn_g : Aside0 (w4.heap[g]? = some (.cells #[.int .i64 (sec : Int), .int .i64 (byt : Int), .map (some m), .bool false, .int .i64 (left), .int .i64 (keep), .int .i64 (wr + 1)] 52 (0, 0))) := ⟨Ext.blk HEc BK_g.out NE_g_m.out⟩; have BKn_r : Aside0 (w4.heap[r]? = some (.cells ((p.take (all k).length ++ (all k).drop p.length).map (Value.int .u8)).toArray 5 (0, 0))) := ⟨Ext.blk HEc BK_r.out NE_r_m.out⟩; have XTn : Aside0 (Ext (fun k => k = g ∨ k = m) w w4) := ⟨XT.out.step HEc (F_m.out)⟩; clear BK_g BK_r XT; have BK_g := BKn_g; have BK_r := BKn_r; have XT := XTn; clear BKn_g BKn_r XTn; clear MP_m; have MP_m : Aside0 (IsMap w4 m (fun j => if j = k then some (.slice (some ⟨r, 0, none⟩) byt byt) else (f) j) (n + 1)) := ⟨hup⟩; clear hup HEc; have lc5_0 : w4.cell? ⟨g, 0, none⟩ = some (.int .i64 (sec : Int)) := (blk_cell BK_g.out 0).trans rfl; have lf5_0 := blk_frozen BK_g.out 0; have lc5_1 : w4.cell? ⟨g, 1, none⟩ = some (.int .i64 (byt : Int)) := (blk_cell BK_g.out 1).trans rfl; have lf5_1 := blk_frozen BK_g.out 1; have lc5_2 : w4.cell? ⟨g, 2, none⟩ = some (.map (some m)) := (blk_cell BK_g.out 2).trans rfl; have lf5_2 := blk_frozen BK_g.out 2; have lc5_3 : w4.cell? ⟨g, 3, none⟩ = some (.bool false) := (blk_cell BK_g.out 3).trans rfl; have lf5_3 := blk_frozen BK_g.out 3; have lc5_4 : w4.cell? ⟨g, 4, none⟩ = some (.int .i64 (left)) := (blk_cell BK_g.out 4).trans rfl; have lf5_4 := blk_frozen BK_g.out 4; have lc5_5 : w4.cell? ⟨g, 5, none⟩ = some (.int .i64 (keep)) := (blk_cell BK_g.out 5).trans rfl; have lf5_5 := blk_frozen BK_g.out 5; have lc5_6 : w4.cell? ⟨g, 6, none⟩ = some (.int .i64 (wr + 1)) := (blk_cell BK_g.out 6).trans rfl; have lf5_6 := blk_frozen BK_g.out 6))
  go_ret
  exact ⟨rfl, H.out.made HSE.out HNW.out XT.out HMB.out RG_r.out BK_g.out MP_m.out BK_r.out HPJ.out HPL.out HL.out, XT.out⟩
set_option maxHeartbeats 4000000 in
set_option maxRecDepth 100000 in
theorem write_3 {M : Nat → Prop} {w : World} {g m : Nat} {sec byt : Nat} {all : Int → List Int} {left keep wr : Int} (h : IsDisk M w g m ⟨sec, byt, all, false, left, keep, wr⟩) (k : Int) (h0 : 0 ≤ k) (h1 : k < sec) (hMb : ∀ k, M k → k < w.heap.size) (A : Option Addr) (c : Nat) (b : List Int) (hc : b.length ≤ c) (hV : Ever (fun k => k = g ∨ k = m) w (fun W => Kd.C (Kd.int .u8) W A b.length b)) (hl : b.length = byt) (hw : wr ≤ 1000000000000) (hle : 2 ≤ left) (hlb : left ≤ 9223372036854775807) :
    Calls Try.prog 11 #[.pointer (some ⟨g, 0, none⟩), .int .i64 k, .slice A b.length c] w fun e w' => e = .returned (.int .i64 0) ∧ IsDisk M w' g m ⟨sec, byt, put all k b (b.length), false, left - 1, keep, wr + 1⟩ ∧ Ext (fun k => k = g ∨ k = m) w w' := by
  obtain ⟨f, n, hmp, hn, hsect⟩ := h.mp
  have H := Aside0.mk h; have HSE := Aside0.mk hsect; have HNW := Aside0.mk hn; have MP_m := Aside0.mk hmp; have NE_g_m := Aside0.mk h.ne; have NE_m_g := Aside0.mk h.ne.symm; have K0 := Aside0.mk h0; have K1 := Aside0.mk h1; have HMB := Aside0.mk hMb; have HV := Aside0.mk hV; have HC := Aside0.mk hc
  have hw0 : 0 ≤ wr := Int.le_trans (Int.natCast_nonneg n) hn
  have HW1 := Aside0.mk hw
  have HL := Aside0.mk hl
  have BK_g : Aside0 (w.heap[g]? = some (.cells #[.int .i64 (sec : Int), .int .i64 (byt : Int), .map (some m), .bool false, .int .i64 (left), .int .i64 (keep), .int .i64 (wr)] 52 (0, 0))) := ⟨h.blk⟩
  have F_g : Aside0 (∀ k, k = g → (fun k => k = g ∨ k = m) k ∨ w.heap.size ≤ k) := ⟨fold (.inl rfl)⟩; have F_m : Aside0 (∀ k, k = m → (fun k => k = g ∨ k = m) k ∨ w.heap.size ≤ k) := ⟨fold (.inr rfl)⟩
  have t1 : ((b.length : Int) != (byt : Int)) = false := by rw [hl]; simp
  have t2 : decide (0 < left) = true := decide_eq_true (by omega)
  have t3 : (left - 1 == 0) = false := beq_eq_false_iff_ne.2 (by omega)
  obtain ⟨i0, hi0, hz0_, hz1_, hz2_⟩ := info_parts info5
  obtain ⟨hsl, hslr, _⟩ := print_take_of (P := Try.prog) (Value.int .u8) 0 27 5 .i64 Try.underlying27 hi0 hz1_ A c b ((b.length : Int)) (by omega) (by omega) HC.out
  obtain ⟨p, hp⟩ : ∃ p, p = b.take ((b.length : Int) : Int).toNat := ⟨_, rfl⟩
  rw [← hp] at hsl hslr
  have HPV : Aside0 (Ever (fun k => k = g ∨ k = m) w (fun W => Kd.C (Kd.int .u8) W A p.length p)) := ⟨HV.out.imp (fun W h => Kd.C_of_reads (hslr W (Kd.reads_of_C h)))⟩
  have HPJ : Aside0 (p = b.take (b.length)) := ⟨by rw [hp]; congr 1⟩
  have HPL : Aside0 (p.length = b.length) := ⟨by rw [HPJ.out, List.length_take]; omega⟩
  clear hslr hp hi0 hz0_ hz1_ hz2_ hl
  clear h hmp hn hsect h0 h1 hMb hV hc
  have XT : Aside0 (Ext (fun k => k = g ∨ k = m) w w) := ⟨Ext.refl _ _⟩
  have lc1_0 : w.cell? ⟨g, 0, none⟩ = some (.int .i64 (sec : Int)) := (blk_cell BK_g.out 0).trans rfl
  have lf1_0 := blk_frozen BK_g.out 0
  have lc1_1 : w.cell? ⟨g, 1, none⟩ = some (.int .i64 (byt : Int)) := (blk_cell BK_g.out 1).trans rfl
  have lf1_1 := blk_frozen BK_g.out 1
  have lc1_2 : w.cell? ⟨g, 2, none⟩ = some (.map (some m)) := (blk_cell BK_g.out 2).trans rfl
  have lf1_2 := blk_frozen BK_g.out 2
  have lc1_3 : w.cell? ⟨g, 3, none⟩ = some (.bool false) := (blk_cell BK_g.out 3).trans rfl
  have lf1_3 := blk_frozen BK_g.out 3
  have lc1_4 : w.cell? ⟨g, 4, none⟩ = some (.int .i64 (left)) := (blk_cell BK_g.out 4).trans rfl
  have lf1_4 := blk_frozen BK_g.out 4
  have lc1_5 : w.cell? ⟨g, 5, none⟩ = some (.int .i64 (keep)) := (blk_cell BK_g.out 5).trans rfl
  have lf1_5 := blk_frozen BK_g.out 5
  have lc1_6 : w.cell? ⟨g, 6, none⟩ = some (.int .i64 (wr)) := (blk_cell BK_g.out 6).trans rfl
  have lf1_6 := blk_frozen BK_g.out 6
  go_enter Try.func11, Try.ntmps11
  go_wp2_with (first | (go_at_call 13; refine (read_ok H.out k K0.out K1.out).mono ?_; rintro e w1 ⟨r, rfl, hr, hrow, HBc⟩; have NE_g_r : Aside0 (g ≠ r) := ⟨fun e => by have := H.out.lts.1; omega⟩; have NE_r_g : Aside0 (r ≠ g) := ⟨fun e => NE_g_r.out e.symm⟩; have NE_m_r : Aside0 (m ≠ r) := ⟨fun e => by have := H.out.lts.2; omega⟩; have NE_r_m : Aside0 (r ≠ m) := ⟨fun e => NE_m_r.out e.symm⟩; have RG_r := Aside0.mk hr; have F_r : Aside0 (∀ k, k = r → (fun k => k = g ∨ k = m) k ∨ w.heap.size ≤ k) := ⟨fun k e => .inr (by rw [e]; exact hr)⟩; clear hr; clear lc1_0 lf1_0 lc1_1 lf1_1 lc1_2 lf1_2 lc1_3 lf1_3 lc1_4 lf1_4 lc1_5 lf1_5 lc1_6 lf1_6; have BKn_g : Aside0 (w1.heap[g]? = some (.cells #[.int .i64 (sec : Int), .int .i64 (byt : Int), .map (some m), .bool false, .int .i64 (left), .int .i64 (keep), .int .i64 (wr)] 52 (0, 0))) := ⟨Ext.blk (Ext.none_ HBc) BK_g.out (fun e => e)⟩; have MPn_m : Aside0 (IsMap w1 m (f) (n)) := ⟨IsMap.ext MP_m.out (Ext.none_ HBc) (fun e => e)⟩; have XTn : Aside0 (Ext (fun k => k = g ∨ k = m) w w1) := ⟨XT.out.stepB HBc⟩; clear BK_g MP_m XT; have BK_g := BKn_g; have MP_m := MPn_m; have XT := XTn; clear BKn_g MPn_m XTn; have BK_r : Aside0 (w1.heap[r]? = some (.cells ((all k).map (Value.int .u8)).toArray 5 (0, 0))) := ⟨hrow⟩; clear hrow HBc; have lc2_0 : w1.cell? ⟨g, 0, none⟩ = some (.int .i64 (sec : Int)) := (blk_cell BK_g.out 0).trans rfl; have lf2_0 := blk_frozen BK_g.out 0; have lc2_1 : w1.cell? ⟨g, 1, none⟩ = some (.int .i64 (byt : Int)) := (blk_cell BK_g.out 1).trans rfl; have lf2_1 := blk_frozen BK_g.out 1; have lc2_2 : w1.cell? ⟨g, 2, none⟩ = some (.map (some m)) := (blk_cell BK_g.out 2).trans rfl; have lf2_2 := blk_frozen BK_g.out 2; have lc2_3 : w1.cell? ⟨g, 3, none⟩ = some (.bool false) := (blk_cell BK_g.out 3).trans rfl; have lf2_3 := blk_frozen BK_g.out 3; have lc2_4 : w1.cell? ⟨g, 4, none⟩ = some (.int .i64 (left)) := (blk_cell BK_g.out 4).trans rfl; have lf2_4 := blk_frozen BK_g.out 4; have lc2_5 : w1.cell? ⟨g, 5, none⟩ = some (.int .i64 (keep)) := (blk_cell BK_g.out 5).trans rfl; have lf2_5 := blk_frozen BK_g.out 5; have lc2_6 : w1.cell? ⟨g, 6, none⟩ = some (.int .i64 (wr)) := (blk_cell BK_g.out 6).trans rfl; have lf2_6 := blk_frozen BK_g.out 6) | ((with_reducible refine gate_store (p := 34) rfl ?_); refine store_event (w1 := ?_) rfl (p := 34) rfl rfl ?hr ?_; rotate_left; (case hr => go_simp; rfl); intro w2 hw_; obtain ⟨hput, HEc⟩ := put1 (cs' := #[.int .i64 (sec : Int), .int .i64 (byt : Int), .map (some m), .bool false, .int .i64 (left), .int .i64 (keep), .int .i64 (wr + 1)]) hw_ BK_g.out rfl; clear hw_; clear lc2_0 lf2_0 lc2_1 lf2_1 lc2_2 lf2_2 lc2_3 lf2_3 lc2_4 lf2_4 lc2_5 lf2_5 lc2_6 lf2_6; have BKn_r : Aside0 (w2.heap[r]? = some (.cells ((all k).map (Value.int .u8)).toArray 5 (0, 0))) := ⟨Ext.blk HEc BK_r.out NE_r_g.out⟩; have MPn_m : Aside0 (IsMap w2 m (f) (n)) := ⟨IsMap.ext MP_m.out HEc NE_m_g.out⟩; have XTn : Aside0 (Ext (fun k => k = g ∨ k = m) w w2) := ⟨XT.out.step HEc (F_g.out)⟩; clear BK_r MP_m XT; have BK_r := BKn_r; have MP_m := MPn_m; have XT := XTn; clear BKn_r MPn_m XTn; clear BK_g; have BK_g : Aside0 (w2.heap[g]? = some (.cells #[.int .i64 (sec : Int), .int .i64 (byt : Int), .map (some m), .bool false, .int .i64 (left), .int .i64 (keep), .int .i64 (wr + 1)] 52 (0, 0))) := ⟨hput⟩; clear hput HEc; have lc3_0 : w2.cell? ⟨g, 0, none⟩ = some (.int .i64 (sec : Int)) := (blk_cell BK_g.out 0).trans rfl; have lf3_0 := blk_frozen BK_g.out 0; have lc3_1 : w2.cell? ⟨g, 1, none⟩ = some (.int .i64 (byt : Int)) := (blk_cell BK_g.out 1).trans rfl; have lf3_1 := blk_frozen BK_g.out 1; have lc3_2 : w2.cell? ⟨g, 2, none⟩ = some (.map (some m)) := (blk_cell BK_g.out 2).trans rfl; have lf3_2 := blk_frozen BK_g.out 2; have lc3_3 : w2.cell? ⟨g, 3, none⟩ = some (.bool false) := (blk_cell BK_g.out 3).trans rfl; have lf3_3 := blk_frozen BK_g.out 3; have lc3_4 : w2.cell? ⟨g, 4, none⟩ = some (.int .i64 (left)) := (blk_cell BK_g.out 4).trans rfl; have lf3_4 := blk_frozen BK_g.out 4; have lc3_5 : w2.cell? ⟨g, 5, none⟩ = some (.int .i64 (keep)) := (blk_cell BK_g.out 5).trans rfl; have lf3_5 := blk_frozen BK_g.out 5; have lc3_6 : w2.cell? ⟨g, 6, none⟩ = some (.int .i64 (wr + 1)) := (blk_cell BK_g.out 6).trans rfl; have lf3_6 := blk_frozen BK_g.out 6) | ((with_reducible refine gate_store (p := 48) rfl ?_); refine store_event (w1 := ?_) rfl (p := 48) rfl rfl ?hr ?_; rotate_left; (case hr => go_simp; rfl); intro w3 hw_; obtain ⟨hput, HEc⟩ := put1 (cs' := #[.int .i64 (sec : Int), .int .i64 (byt : Int), .map (some m), .bool false, .int .i64 (left - 1), .int .i64 (keep), .int .i64 (wr + 1)]) hw_ BK_g.out rfl; clear hw_; clear lc3_0 lf3_0 lc3_1 lf3_1 lc3_2 lf3_2 lc3_3 lf3_3 lc3_4 lf3_4 lc3_5 lf3_5 lc3_6 lf3_6; have BKn_r : Aside0 (w3.heap[r]? = some (.cells ((all k).map (Value.int .u8)).toArray 5 (0, 0))) := ⟨Ext.blk HEc BK_r.out NE_r_g.out⟩; have MPn_m : Aside0 (IsMap w3 m (f) (n)) := ⟨IsMap.ext MP_m.out HEc NE_m_g.out⟩; have XTn : Aside0 (Ext (fun k => k = g ∨ k = m) w w3) := ⟨XT.out.step HEc (F_g.out)⟩; clear BK_r MP_m XT; have BK_r := BKn_r; have MP_m := MPn_m; have XT := XTn; clear BKn_r MPn_m XTn; clear BK_g; have BK_g : Aside0 (w3.heap[g]? = some (.cells #[.int .i64 (sec : Int), .int .i64 (byt : Int), .map (some m), .bool false, .int .i64 (left - 1), .int .i64 (keep), .int .i64 (wr + 1)] 52 (0, 0))) := ⟨hput⟩; clear hput HEc; have lc4_0 : w3.cell? ⟨g, 0, none⟩ = some (.int .i64 (sec : Int)) := (blk_cell BK_g.out 0).trans rfl; have lf4_0 := blk_frozen BK_g.out 0; have lc4_1 : w3.cell? ⟨g, 1, none⟩ = some (.int .i64 (byt : Int)) := (blk_cell BK_g.out 1).trans rfl; have lf4_1 := blk_frozen BK_g.out 1; have lc4_2 : w3.cell? ⟨g, 2, none⟩ = some (.map (some m)) := (blk_cell BK_g.out 2).trans rfl; have lf4_2 := blk_frozen BK_g.out 2; have lc4_3 : w3.cell? ⟨g, 3, none⟩ = some (.bool false) := (blk_cell BK_g.out 3).trans rfl; have lf4_3 := blk_frozen BK_g.out 3; have lc4_4 : w3.cell? ⟨g, 4, none⟩ = some (.int .i64 (left - 1)) := (blk_cell BK_g.out 4).trans rfl; have lf4_4 := blk_frozen BK_g.out 4; have lc4_5 : w3.cell? ⟨g, 5, none⟩ = some (.int .i64 (keep)) := (blk_cell BK_g.out 5).trans rfl; have lf4_5 := blk_frozen BK_g.out 5; have lc4_6 : w3.cell? ⟨g, 6, none⟩ = some (.int .i64 (wr + 1)) := (blk_cell BK_g.out 6).trans rfl; have lf4_6 := blk_frozen BK_g.out 6) | ((with_reducible refine gate_builtin (b := .copy) (xs := #[.tmp 64, .tmp 67]) rfl ?_); refine copy_event rfl (.tmp 64) (.tmp 67) .u8 rfl Try.underlying27 one5 (all k) p byt c A (H.out.len k) ?cd ?cs BK_r.out ?cv ?_; (case cd => rfl); (case cs => rfl); (case cv => exact (HPV.out.at_ _ XT.out)); intro w4 hput HEc; clear lc4_0 lf4_0 lc4_1 lf4_1 lc4_2 lf4_2 lc4_3 lf4_3 lc4_4 lf4_4 lc4_5 lf4_5 lc4_6 lf4_6; have BKn_g : Aside0 (w4.heap[g]? = some (.cells #[.int .i64 (sec : Int), .int .i64 (byt : Int), .map (some m), .bool false, .int .i64 (left - 1), .int .i64 (keep), .int .i64 (wr + 1)] 52 (0, 0))) := ⟨Ext.blk HEc BK_g.out NE_g_r.out⟩; have MPn_m : Aside0 (IsMap w4 m (f) (n)) := ⟨IsMap.ext MP_m.out HEc NE_m_r.out⟩; have XTn : Aside0 (Ext (fun k => k = g ∨ k = m) w w4) := ⟨XT.out.step HEc (F_r.out)⟩; clear BK_g MP_m XT; have BK_g := BKn_g; have MP_m := MPn_m; have XT := XTn; clear BKn_g MPn_m XTn; clear BK_r; have BK_r : Aside0 (w4.heap[r]? = some (.cells ((p.take (all k).length ++ (all k).drop p.length).map (Value.int .u8)).toArray 5 (0, 0))) := ⟨hput⟩; clear hput HEc; have lc5_0 : w4.cell? ⟨g, 0, none⟩ = some (.int .i64 (sec : Int)) := (blk_cell BK_g.out 0).trans rfl; have lf5_0 := blk_frozen BK_g.out 0; have lc5_1 : w4.cell? ⟨g, 1, none⟩ = some (.int .i64 (byt : Int)) := (blk_cell BK_g.out 1).trans rfl; have lf5_1 := blk_frozen BK_g.out 1; have lc5_2 : w4.cell? ⟨g, 2, none⟩ = some (.map (some m)) := (blk_cell BK_g.out 2).trans rfl; have lf5_2 := blk_frozen BK_g.out 2; have lc5_3 : w4.cell? ⟨g, 3, none⟩ = some (.bool false) := (blk_cell BK_g.out 3).trans rfl; have lf5_3 := blk_frozen BK_g.out 3; have lc5_4 : w4.cell? ⟨g, 4, none⟩ = some (.int .i64 (left - 1)) := (blk_cell BK_g.out 4).trans rfl; have lf5_4 := blk_frozen BK_g.out 4; have lc5_5 : w4.cell? ⟨g, 5, none⟩ = some (.int .i64 (keep)) := (blk_cell BK_g.out 5).trans rfl; have lf5_5 := blk_frozen BK_g.out 5; have lc5_6 : w4.cell? ⟨g, 6, none⟩ = some (.int .i64 (wr + 1)) := (blk_cell BK_g.out 6).trans rfl; have lf5_6 := blk_frozen BK_g.out 6) | ((with_reducible refine gate_upd (x := 72) (y := 73) (z := 74) rfl ?_); refine upd_event (k := k) (v := .slice (some ⟨r, 0, none⟩) byt byt) rfl rfl rfl MP_m.out Try.underlying50 Try.underlying3 ?hx ?hy ?hz ?_; (case hx => rfl); (case hy => rfl); (case hz => rfl); intro w5 hup HEc; clear lc5_0 lf5_0 lc5_1 lf5_1 lc5_2 lf5_2 lc5_3 lf5_3 lc5_4 lf5_4 lc5_5 lf5_5 lc5_6 lf5_6; have BKn_g : Aside0 (w5.heap[g]? = some (.cells #[.int .i64 (sec : Int), .int .i64 (byt : Int), .map (some m), .bool false, .int .i64 (left - 1), .int .i64 (keep), .int .i64 (wr + 1)] 52 (0, 0))) := ⟨Ext.blk HEc BK_g.out NE_g_m.out⟩; have BKn_r : Aside0 (w5.heap[r]? = some (.cells ((p.take (all k).length ++ (all k).drop p.length).map (Value.int .u8)).toArray 5 (0, 0))) := ⟨Ext.blk HEc BK_r.out NE_r_m.out⟩; have XTn : Aside0 (Ext (fun k => k = g ∨ k = m) w w5) := ⟨XT.out.step HEc (F_m.out)⟩; clear BK_g BK_r XT; have BK_g := BKn_g; have BK_r := BKn_r; have XT := XTn; clear BKn_g BKn_r XTn; clear MP_m; have MP_m : Aside0 (IsMap w5 m (fun j => if j = k then some (.slice (some ⟨r, 0, none⟩) byt byt) else (f) j) (n + 1)) := ⟨hup⟩; clear hup HEc; have lc6_0 : w5.cell? ⟨g, 0, none⟩ = some (.int .i64 (sec : Int)) := (blk_cell BK_g.out 0).trans rfl; have lf6_0 := blk_frozen BK_g.out 0; have lc6_1 : w5.cell? ⟨g, 1, none⟩ = some (.int .i64 (byt : Int)) := (blk_cell BK_g.out 1).trans rfl; have lf6_1 := blk_frozen BK_g.out 1; have lc6_2 : w5.cell? ⟨g, 2, none⟩ = some (.map (some m)) := (blk_cell BK_g.out 2).trans rfl; have lf6_2 := blk_frozen BK_g.out 2; have lc6_3 : w5.cell? ⟨g, 3, none⟩ = some (.bool false) := (blk_cell BK_g.out 3).trans rfl; have lf6_3 := blk_frozen BK_g.out 3; have lc6_4 : w5.cell? ⟨g, 4, none⟩ = some (.int .i64 (left - 1)) := (blk_cell BK_g.out 4).trans rfl; have lf6_4 := blk_frozen BK_g.out 4; have lc6_5 : w5.cell? ⟨g, 5, none⟩ = some (.int .i64 (keep)) := (blk_cell BK_g.out 5).trans rfl; have lf6_5 := blk_frozen BK_g.out 5; have lc6_6 : w5.cell? ⟨g, 6, none⟩ = some (.int .i64 (wr + 1)) := (blk_cell BK_g.out 6).trans rfl; have lf6_6 := blk_frozen BK_g.out 6))
  go_ret
  exact ⟨rfl, H.out.made HSE.out HNW.out XT.out HMB.out RG_r.out BK_g.out MP_m.out BK_r.out HPJ.out HPL.out HL.out, XT.out⟩
set_option maxHeartbeats 4000000 in
set_option maxRecDepth 100000 in
theorem write_4a {M : Nat → Prop} {w : World} {g m : Nat} {sec byt : Nat} {all : Int → List Int} {keep wr : Int} (h : IsDisk M w g m ⟨sec, byt, all, false, 1, keep, wr⟩) (k : Int) (h0 : 0 ≤ k) (h1 : k < sec) (hMb : ∀ k, M k → k < w.heap.size) (A : Option Addr) (c : Nat) (b : List Int) (hc : b.length ≤ c) (hV : Ever (fun k => k = g ∨ k = m) w (fun W => Kd.C (Kd.int .u8) W A b.length b)) (hl : b.length = byt) (hw : wr ≤ 1000000000000) (hk : keep < 0) :
    Calls Try.prog 11 #[.pointer (some ⟨g, 0, none⟩), .int .i64 k, .slice A b.length c] w fun e w' => e = .returned (.int .i64 180) ∧ IsDisk M w' g m ⟨sec, byt, put all k b (0), true, 0, keep, wr + 1⟩ ∧ Ext (fun k => k = g ∨ k = m) w w' := by
  obtain ⟨f, n, hmp, hn, hsect⟩ := h.mp
  have H := Aside0.mk h; have HSE := Aside0.mk hsect; have HNW := Aside0.mk hn; have MP_m := Aside0.mk hmp; have NE_g_m := Aside0.mk h.ne; have NE_m_g := Aside0.mk h.ne.symm; have K0 := Aside0.mk h0; have K1 := Aside0.mk h1; have HMB := Aside0.mk hMb; have HV := Aside0.mk hV; have HC := Aside0.mk hc
  have hw0 : 0 ≤ wr := Int.le_trans (Int.natCast_nonneg n) hn
  have HW1 := Aside0.mk hw
  have HL := Aside0.mk hl
  have BK_g : Aside0 (w.heap[g]? = some (.cells #[.int .i64 (sec : Int), .int .i64 (byt : Int), .map (some m), .bool false, .int .i64 (1), .int .i64 (keep), .int .i64 (wr)] 52 (0, 0))) := ⟨h.blk⟩
  have F_g : Aside0 (∀ k, k = g → (fun k => k = g ∨ k = m) k ∨ w.heap.size ≤ k) := ⟨fold (.inl rfl)⟩; have F_m : Aside0 (∀ k, k = m → (fun k => k = g ∨ k = m) k ∨ w.heap.size ≤ k) := ⟨fold (.inr rfl)⟩
  have t1 : ((b.length : Int) != (byt : Int)) = false := by rw [hl]; simp
  obtain ⟨i0, hi0, hz0_, hz1_, hz2_⟩ := info_parts info5
  obtain ⟨hsl, hslr, _⟩ := print_take_of (P := Try.prog) (Value.int .u8) 0 27 5 .i64 Try.underlying27 hi0 hz1_ A c b (0) (by omega) (by omega) HC.out
  obtain ⟨p, hp⟩ : ∃ p, p = b.take (0 : Int).toNat := ⟨_, rfl⟩
  rw [← hp] at hsl hslr
  have HPV : Aside0 (Ever (fun k => k = g ∨ k = m) w (fun W => Kd.C (Kd.int .u8) W A p.length p)) := ⟨HV.out.imp (fun W h => Kd.C_of_reads (hslr W (Kd.reads_of_C h)))⟩
  have HPJ : Aside0 (p = b.take (0)) := ⟨by rw [hp]; congr 1⟩
  have HPL : Aside0 (p.length = 0) := ⟨by rw [HPJ.out, List.length_take]; omega⟩
  clear hslr hp hi0 hz0_ hz1_ hz2_ hl
  clear h hmp hn hsect h0 h1 hMb hV hc
  have XT : Aside0 (Ext (fun k => k = g ∨ k = m) w w) := ⟨Ext.refl _ _⟩
  have lc1_0 : w.cell? ⟨g, 0, none⟩ = some (.int .i64 (sec : Int)) := (blk_cell BK_g.out 0).trans rfl
  have lf1_0 := blk_frozen BK_g.out 0
  have lc1_1 : w.cell? ⟨g, 1, none⟩ = some (.int .i64 (byt : Int)) := (blk_cell BK_g.out 1).trans rfl
  have lf1_1 := blk_frozen BK_g.out 1
  have lc1_2 : w.cell? ⟨g, 2, none⟩ = some (.map (some m)) := (blk_cell BK_g.out 2).trans rfl
  have lf1_2 := blk_frozen BK_g.out 2
  have lc1_3 : w.cell? ⟨g, 3, none⟩ = some (.bool false) := (blk_cell BK_g.out 3).trans rfl
  have lf1_3 := blk_frozen BK_g.out 3
  have lc1_4 : w.cell? ⟨g, 4, none⟩ = some (.int .i64 (1)) := (blk_cell BK_g.out 4).trans rfl
  have lf1_4 := blk_frozen BK_g.out 4
  have lc1_5 : w.cell? ⟨g, 5, none⟩ = some (.int .i64 (keep)) := (blk_cell BK_g.out 5).trans rfl
  have lf1_5 := blk_frozen BK_g.out 5
  have lc1_6 : w.cell? ⟨g, 6, none⟩ = some (.int .i64 (wr)) := (blk_cell BK_g.out 6).trans rfl
  have lf1_6 := blk_frozen BK_g.out 6
  go_enter Try.func11, Try.ntmps11
  go_wp2_with (first | (go_at_call 13; refine (read_ok H.out k K0.out K1.out).mono ?_; rintro e w1 ⟨r, rfl, hr, hrow, HBc⟩; have NE_g_r : Aside0 (g ≠ r) := ⟨fun e => by have := H.out.lts.1; omega⟩; have NE_r_g : Aside0 (r ≠ g) := ⟨fun e => NE_g_r.out e.symm⟩; have NE_m_r : Aside0 (m ≠ r) := ⟨fun e => by have := H.out.lts.2; omega⟩; have NE_r_m : Aside0 (r ≠ m) := ⟨fun e => NE_m_r.out e.symm⟩; have RG_r := Aside0.mk hr; have F_r : Aside0 (∀ k, k = r → (fun k => k = g ∨ k = m) k ∨ w.heap.size ≤ k) := ⟨fun k e => .inr (by rw [e]; exact hr)⟩; clear hr; clear lc1_0 lf1_0 lc1_1 lf1_1 lc1_2 lf1_2 lc1_3 lf1_3 lc1_4 lf1_4 lc1_5 lf1_5 lc1_6 lf1_6; have BKn_g : Aside0 (w1.heap[g]? = some (.cells #[.int .i64 (sec : Int), .int .i64 (byt : Int), .map (some m), .bool false, .int .i64 (1), .int .i64 (keep), .int .i64 (wr)] 52 (0, 0))) := ⟨Ext.blk (Ext.none_ HBc) BK_g.out (fun e => e)⟩; have MPn_m : Aside0 (IsMap w1 m (f) (n)) := ⟨IsMap.ext MP_m.out (Ext.none_ HBc) (fun e => e)⟩; have XTn : Aside0 (Ext (fun k => k = g ∨ k = m) w w1) := ⟨XT.out.stepB HBc⟩; clear BK_g MP_m XT; have BK_g := BKn_g; have MP_m := MPn_m; have XT := XTn; clear BKn_g MPn_m XTn; have BK_r : Aside0 (w1.heap[r]? = some (.cells ((all k).map (Value.int .u8)).toArray 5 (0, 0))) := ⟨hrow⟩; clear hrow HBc; have lc2_0 : w1.cell? ⟨g, 0, none⟩ = some (.int .i64 (sec : Int)) := (blk_cell BK_g.out 0).trans rfl; have lf2_0 := blk_frozen BK_g.out 0; have lc2_1 : w1.cell? ⟨g, 1, none⟩ = some (.int .i64 (byt : Int)) := (blk_cell BK_g.out 1).trans rfl; have lf2_1 := blk_frozen BK_g.out 1; have lc2_2 : w1.cell? ⟨g, 2, none⟩ = some (.map (some m)) := (blk_cell BK_g.out 2).trans rfl; have lf2_2 := blk_frozen BK_g.out 2; have lc2_3 : w1.cell? ⟨g, 3, none⟩ = some (.bool false) := (blk_cell BK_g.out 3).trans rfl; have lf2_3 := blk_frozen BK_g.out 3; have lc2_4 : w1.cell? ⟨g, 4, none⟩ = some (.int .i64 (1)) := (blk_cell BK_g.out 4).trans rfl; have lf2_4 := blk_frozen BK_g.out 4; have lc2_5 : w1.cell? ⟨g, 5, none⟩ = some (.int .i64 (keep)) := (blk_cell BK_g.out 5).trans rfl; have lf2_5 := blk_frozen BK_g.out 5; have lc2_6 : w1.cell? ⟨g, 6, none⟩ = some (.int .i64 (wr)) := (blk_cell BK_g.out 6).trans rfl; have lf2_6 := blk_frozen BK_g.out 6) | ((with_reducible refine gate_store (p := 34) rfl ?_); refine store_event (w1 := ?_) rfl (p := 34) rfl rfl ?hr ?_; rotate_left; (case hr => go_simp; rfl); intro w2 hw_; obtain ⟨hput, HEc⟩ := put1 (cs' := #[.int .i64 (sec : Int), .int .i64 (byt : Int), .map (some m), .bool false, .int .i64 (1), .int .i64 (keep), .int .i64 (wr + 1)]) hw_ BK_g.out rfl; clear hw_; clear lc2_0 lf2_0 lc2_1 lf2_1 lc2_2 lf2_2 lc2_3 lf2_3 lc2_4 lf2_4 lc2_5 lf2_5 lc2_6 lf2_6; have BKn_r : Aside0 (w2.heap[r]? = some (.cells ((all k).map (Value.int .u8)).toArray 5 (0, 0))) := ⟨Ext.blk HEc BK_r.out NE_r_g.out⟩; have MPn_m : Aside0 (IsMap w2 m (f) (n)) := ⟨IsMap.ext MP_m.out HEc NE_m_g.out⟩; have XTn : Aside0 (Ext (fun k => k = g ∨ k = m) w w2) := ⟨XT.out.step HEc (F_g.out)⟩; clear BK_r MP_m XT; have BK_r := BKn_r; have MP_m := MPn_m; have XT := XTn; clear BKn_r MPn_m XTn; clear BK_g; have BK_g : Aside0 (w2.heap[g]? = some (.cells #[.int .i64 (sec : Int), .int .i64 (byt : Int), .map (some m), .bool false, .int .i64 (1), .int .i64 (keep), .int .i64 (wr + 1)] 52 (0, 0))) := ⟨hput⟩; clear hput HEc; have lc3_0 : w2.cell? ⟨g, 0, none⟩ = some (.int .i64 (sec : Int)) := (blk_cell BK_g.out 0).trans rfl; have lf3_0 := blk_frozen BK_g.out 0; have lc3_1 : w2.cell? ⟨g, 1, none⟩ = some (.int .i64 (byt : Int)) := (blk_cell BK_g.out 1).trans rfl; have lf3_1 := blk_frozen BK_g.out 1; have lc3_2 : w2.cell? ⟨g, 2, none⟩ = some (.map (some m)) := (blk_cell BK_g.out 2).trans rfl; have lf3_2 := blk_frozen BK_g.out 2; have lc3_3 : w2.cell? ⟨g, 3, none⟩ = some (.bool false) := (blk_cell BK_g.out 3).trans rfl; have lf3_3 := blk_frozen BK_g.out 3; have lc3_4 : w2.cell? ⟨g, 4, none⟩ = some (.int .i64 (1)) := (blk_cell BK_g.out 4).trans rfl; have lf3_4 := blk_frozen BK_g.out 4; have lc3_5 : w2.cell? ⟨g, 5, none⟩ = some (.int .i64 (keep)) := (blk_cell BK_g.out 5).trans rfl; have lf3_5 := blk_frozen BK_g.out 5; have lc3_6 : w2.cell? ⟨g, 6, none⟩ = some (.int .i64 (wr + 1)) := (blk_cell BK_g.out 6).trans rfl; have lf3_6 := blk_frozen BK_g.out 6) | ((with_reducible refine gate_store (p := 48) rfl ?_); refine store_event (w1 := ?_) rfl (p := 48) rfl rfl ?hr ?_; rotate_left; (case hr => go_simp; rfl); intro w3 hw_; obtain ⟨hput, HEc⟩ := put1 (cs' := #[.int .i64 (sec : Int), .int .i64 (byt : Int), .map (some m), .bool false, .int .i64 (0), .int .i64 (keep), .int .i64 (wr + 1)]) hw_ BK_g.out rfl; clear hw_; clear lc3_0 lf3_0 lc3_1 lf3_1 lc3_2 lf3_2 lc3_3 lf3_3 lc3_4 lf3_4 lc3_5 lf3_5 lc3_6 lf3_6; have BKn_r : Aside0 (w3.heap[r]? = some (.cells ((all k).map (Value.int .u8)).toArray 5 (0, 0))) := ⟨Ext.blk HEc BK_r.out NE_r_g.out⟩; have MPn_m : Aside0 (IsMap w3 m (f) (n)) := ⟨IsMap.ext MP_m.out HEc NE_m_g.out⟩; have XTn : Aside0 (Ext (fun k => k = g ∨ k = m) w w3) := ⟨XT.out.step HEc (F_g.out)⟩; clear BK_r MP_m XT; have BK_r := BKn_r; have MP_m := MPn_m; have XT := XTn; clear BKn_r MPn_m XTn; clear BK_g; have BK_g : Aside0 (w3.heap[g]? = some (.cells #[.int .i64 (sec : Int), .int .i64 (byt : Int), .map (some m), .bool false, .int .i64 (0), .int .i64 (keep), .int .i64 (wr + 1)] 52 (0, 0))) := ⟨hput⟩; clear hput HEc; have lc4_0 : w3.cell? ⟨g, 0, none⟩ = some (.int .i64 (sec : Int)) := (blk_cell BK_g.out 0).trans rfl; have lf4_0 := blk_frozen BK_g.out 0; have lc4_1 : w3.cell? ⟨g, 1, none⟩ = some (.int .i64 (byt : Int)) := (blk_cell BK_g.out 1).trans rfl; have lf4_1 := blk_frozen BK_g.out 1; have lc4_2 : w3.cell? ⟨g, 2, none⟩ = some (.map (some m)) := (blk_cell BK_g.out 2).trans rfl; have lf4_2 := blk_frozen BK_g.out 2; have lc4_3 : w3.cell? ⟨g, 3, none⟩ = some (.bool false) := (blk_cell BK_g.out 3).trans rfl; have lf4_3 := blk_frozen BK_g.out 3; have lc4_4 : w3.cell? ⟨g, 4, none⟩ = some (.int .i64 (0)) := (blk_cell BK_g.out 4).trans rfl; have lf4_4 := blk_frozen BK_g.out 4; have lc4_5 : w3.cell? ⟨g, 5, none⟩ = some (.int .i64 (keep)) := (blk_cell BK_g.out 5).trans rfl; have lf4_5 := blk_frozen BK_g.out 5; have lc4_6 : w3.cell? ⟨g, 6, none⟩ = some (.int .i64 (wr + 1)) := (blk_cell BK_g.out 6).trans rfl; have lf4_6 := blk_frozen BK_g.out 6) | ((with_reducible refine gate_store (p := 63) rfl ?_); refine store_event (w1 := ?_) rfl (p := 63) rfl rfl ?hr ?_; rotate_left; (case hr => go_simp; rfl); intro w4 hw_; obtain ⟨hput, HEc⟩ := put1 (cs' := #[.int .i64 (sec : Int), .int .i64 (byt : Int), .map (some m), .bool true, .int .i64 (0), .int .i64 (keep), .int .i64 (wr + 1)]) hw_ BK_g.out rfl; clear hw_; clear lc4_0 lf4_0 lc4_1 lf4_1 lc4_2 lf4_2 lc4_3 lf4_3 lc4_4 lf4_4 lc4_5 lf4_5 lc4_6 lf4_6; have BKn_r : Aside0 (w4.heap[r]? = some (.cells ((all k).map (Value.int .u8)).toArray 5 (0, 0))) := ⟨Ext.blk HEc BK_r.out NE_r_g.out⟩; have MPn_m : Aside0 (IsMap w4 m (f) (n)) := ⟨IsMap.ext MP_m.out HEc NE_m_g.out⟩; have XTn : Aside0 (Ext (fun k => k = g ∨ k = m) w w4) := ⟨XT.out.step HEc (F_g.out)⟩; clear BK_r MP_m XT; have BK_r := BKn_r; have MP_m := MPn_m; have XT := XTn; clear BKn_r MPn_m XTn; clear BK_g; have BK_g : Aside0 (w4.heap[g]? = some (.cells #[.int .i64 (sec : Int), .int .i64 (byt : Int), .map (some m), .bool true, .int .i64 (0), .int .i64 (keep), .int .i64 (wr + 1)] 52 (0, 0))) := ⟨hput⟩; clear hput HEc; have lc5_0 : w4.cell? ⟨g, 0, none⟩ = some (.int .i64 (sec : Int)) := (blk_cell BK_g.out 0).trans rfl; have lf5_0 := blk_frozen BK_g.out 0; have lc5_1 : w4.cell? ⟨g, 1, none⟩ = some (.int .i64 (byt : Int)) := (blk_cell BK_g.out 1).trans rfl; have lf5_1 := blk_frozen BK_g.out 1; have lc5_2 : w4.cell? ⟨g, 2, none⟩ = some (.map (some m)) := (blk_cell BK_g.out 2).trans rfl; have lf5_2 := blk_frozen BK_g.out 2; have lc5_3 : w4.cell? ⟨g, 3, none⟩ = some (.bool true) := (blk_cell BK_g.out 3).trans rfl; have lf5_3 := blk_frozen BK_g.out 3; have lc5_4 : w4.cell? ⟨g, 4, none⟩ = some (.int .i64 (0)) := (blk_cell BK_g.out 4).trans rfl; have lf5_4 := blk_frozen BK_g.out 4; have lc5_5 : w4.cell? ⟨g, 5, none⟩ = some (.int .i64 (keep)) := (blk_cell BK_g.out 5).trans rfl; have lf5_5 := blk_frozen BK_g.out 5; have lc5_6 : w4.cell? ⟨g, 6, none⟩ = some (.int .i64 (wr + 1)) := (blk_cell BK_g.out 6).trans rfl; have lf5_6 := blk_frozen BK_g.out 6) | ((with_reducible refine gate_builtin (b := .copy) (xs := #[.tmp 64, .tmp 67]) rfl ?_); refine copy_event rfl (.tmp 64) (.tmp 67) .u8 rfl Try.underlying27 one5 (all k) p byt c A (H.out.len k) ?cd ?cs BK_r.out ?cv ?_; (case cd => rfl); (case cs => rfl); (case cv => exact (HPV.out.at_ _ XT.out)); intro w5 hput HEc; clear lc5_0 lf5_0 lc5_1 lf5_1 lc5_2 lf5_2 lc5_3 lf5_3 lc5_4 lf5_4 lc5_5 lf5_5 lc5_6 lf5_6; have BKn_g : Aside0 (w5.heap[g]? = some (.cells #[.int .i64 (sec : Int), .int .i64 (byt : Int), .map (some m), .bool true, .int .i64 (0), .int .i64 (keep), .int .i64 (wr + 1)] 52 (0, 0))) := ⟨Ext.blk HEc BK_g.out NE_g_r.out⟩; have MPn_m : Aside0 (IsMap w5 m (f) (n)) := ⟨IsMap.ext MP_m.out HEc NE_m_r.out⟩; have XTn : Aside0 (Ext (fun k => k = g ∨ k = m) w w5) := ⟨XT.out.step HEc (F_r.out)⟩; clear BK_g MP_m XT; have BK_g := BKn_g; have MP_m := MPn_m; have XT := XTn; clear BKn_g MPn_m XTn; clear BK_r; have BK_r : Aside0 (w5.heap[r]? = some (.cells ((p.take (all k).length ++ (all k).drop p.length).map (Value.int .u8)).toArray 5 (0, 0))) := ⟨hput⟩; clear hput HEc; have lc6_0 : w5.cell? ⟨g, 0, none⟩ = some (.int .i64 (sec : Int)) := (blk_cell BK_g.out 0).trans rfl; have lf6_0 := blk_frozen BK_g.out 0; have lc6_1 : w5.cell? ⟨g, 1, none⟩ = some (.int .i64 (byt : Int)) := (blk_cell BK_g.out 1).trans rfl; have lf6_1 := blk_frozen BK_g.out 1; have lc6_2 : w5.cell? ⟨g, 2, none⟩ = some (.map (some m)) := (blk_cell BK_g.out 2).trans rfl; have lf6_2 := blk_frozen BK_g.out 2; have lc6_3 : w5.cell? ⟨g, 3, none⟩ = some (.bool true) := (blk_cell BK_g.out 3).trans rfl; have lf6_3 := blk_frozen BK_g.out 3; have lc6_4 : w5.cell? ⟨g, 4, none⟩ = some (.int .i64 (0)) := (blk_cell BK_g.out 4).trans rfl; have lf6_4 := blk_frozen BK_g.out 4; have lc6_5 : w5.cell? ⟨g, 5, none⟩ = some (.int .i64 (keep)) := (blk_cell BK_g.out 5).trans rfl; have lf6_5 := blk_frozen BK_g.out 5; have lc6_6 : w5.cell? ⟨g, 6, none⟩ = some (.int .i64 (wr + 1)) := (blk_cell BK_g.out 6).trans rfl; have lf6_6 := blk_frozen BK_g.out 6) | ((with_reducible refine gate_upd (x := 72) (y := 73) (z := 74) rfl ?_); refine upd_event (k := k) (v := .slice (some ⟨r, 0, none⟩) byt byt) rfl rfl rfl MP_m.out Try.underlying50 Try.underlying3 ?hx ?hy ?hz ?_; (case hx => rfl); (case hy => rfl); (case hz => rfl); intro w6 hup HEc; clear lc6_0 lf6_0 lc6_1 lf6_1 lc6_2 lf6_2 lc6_3 lf6_3 lc6_4 lf6_4 lc6_5 lf6_5 lc6_6 lf6_6; have BKn_g : Aside0 (w6.heap[g]? = some (.cells #[.int .i64 (sec : Int), .int .i64 (byt : Int), .map (some m), .bool true, .int .i64 (0), .int .i64 (keep), .int .i64 (wr + 1)] 52 (0, 0))) := ⟨Ext.blk HEc BK_g.out NE_g_m.out⟩; have BKn_r : Aside0 (w6.heap[r]? = some (.cells ((p.take (all k).length ++ (all k).drop p.length).map (Value.int .u8)).toArray 5 (0, 0))) := ⟨Ext.blk HEc BK_r.out NE_r_m.out⟩; have XTn : Aside0 (Ext (fun k => k = g ∨ k = m) w w6) := ⟨XT.out.step HEc (F_m.out)⟩; clear BK_g BK_r XT; have BK_g := BKn_g; have BK_r := BKn_r; have XT := XTn; clear BKn_g BKn_r XTn; clear MP_m; have MP_m : Aside0 (IsMap w6 m (fun j => if j = k then some (.slice (some ⟨r, 0, none⟩) byt byt) else (f) j) (n + 1)) := ⟨hup⟩; clear hup HEc; have lc7_0 : w6.cell? ⟨g, 0, none⟩ = some (.int .i64 (sec : Int)) := (blk_cell BK_g.out 0).trans rfl; have lf7_0 := blk_frozen BK_g.out 0; have lc7_1 : w6.cell? ⟨g, 1, none⟩ = some (.int .i64 (byt : Int)) := (blk_cell BK_g.out 1).trans rfl; have lf7_1 := blk_frozen BK_g.out 1; have lc7_2 : w6.cell? ⟨g, 2, none⟩ = some (.map (some m)) := (blk_cell BK_g.out 2).trans rfl; have lf7_2 := blk_frozen BK_g.out 2; have lc7_3 : w6.cell? ⟨g, 3, none⟩ = some (.bool true) := (blk_cell BK_g.out 3).trans rfl; have lf7_3 := blk_frozen BK_g.out 3; have lc7_4 : w6.cell? ⟨g, 4, none⟩ = some (.int .i64 (0)) := (blk_cell BK_g.out 4).trans rfl; have lf7_4 := blk_frozen BK_g.out 4; have lc7_5 : w6.cell? ⟨g, 5, none⟩ = some (.int .i64 (keep)) := (blk_cell BK_g.out 5).trans rfl; have lf7_5 := blk_frozen BK_g.out 5; have lc7_6 : w6.cell? ⟨g, 6, none⟩ = some (.int .i64 (wr + 1)) := (blk_cell BK_g.out 6).trans rfl; have lf7_6 := blk_frozen BK_g.out 6))
  go_ret
  exact ⟨rfl, H.out.made HSE.out HNW.out XT.out HMB.out RG_r.out BK_g.out MP_m.out BK_r.out HPJ.out HPL.out HL.out, XT.out⟩
set_option maxHeartbeats 4000000 in
set_option maxRecDepth 100000 in
theorem write_4b {M : Nat → Prop} {w : World} {g m : Nat} {sec byt : Nat} {all : Int → List Int} {wr : Int} {kn : Nat} (h : IsDisk M w g m ⟨sec, byt, all, false, 1, (kn : Int), wr⟩) (k : Int) (h0 : 0 ≤ k) (h1 : k < sec) (hMb : ∀ k, M k → k < w.heap.size) (A : Option Addr) (c : Nat) (b : List Int) (hc : b.length ≤ c) (hV : Ever (fun k => k = g ∨ k = m) w (fun W => Kd.C (Kd.int .u8) W A b.length b)) (hl : b.length = byt) (hw : wr ≤ 1000000000000) (hk : kn ≤ b.length) :
    Calls Try.prog 11 #[.pointer (some ⟨g, 0, none⟩), .int .i64 k, .slice A b.length c] w fun e w' => e = .returned (.int .i64 180) ∧ IsDisk M w' g m ⟨sec, byt, put all k b (kn), true, 0, (kn : Int), wr + 1⟩ ∧ Ext (fun k => k = g ∨ k = m) w w' := by
  obtain ⟨f, n, hmp, hn, hsect⟩ := h.mp
  have H := Aside0.mk h; have HSE := Aside0.mk hsect; have HNW := Aside0.mk hn; have MP_m := Aside0.mk hmp; have NE_g_m := Aside0.mk h.ne; have NE_m_g := Aside0.mk h.ne.symm; have K0 := Aside0.mk h0; have K1 := Aside0.mk h1; have HMB := Aside0.mk hMb; have HV := Aside0.mk hV; have HC := Aside0.mk hc
  have hw0 : 0 ≤ wr := Int.le_trans (Int.natCast_nonneg n) hn
  have HW1 := Aside0.mk hw
  have HL := Aside0.mk hl
  have BK_g : Aside0 (w.heap[g]? = some (.cells #[.int .i64 (sec : Int), .int .i64 (byt : Int), .map (some m), .bool false, .int .i64 (1), .int .i64 ((kn : Int)), .int .i64 (wr)] 52 (0, 0))) := ⟨h.blk⟩
  have F_g : Aside0 (∀ k, k = g → (fun k => k = g ∨ k = m) k ∨ w.heap.size ≤ k) := ⟨fold (.inl rfl)⟩; have F_m : Aside0 (∀ k, k = m → (fun k => k = g ∨ k = m) k ∨ w.heap.size ≤ k) := ⟨fold (.inr rfl)⟩
  have t1 : ((b.length : Int) != (byt : Int)) = false := by rw [hl]; simp
  have t5 : decide (b.length < kn) = false := decide_eq_false (by omega)
  obtain ⟨i0, hi0, hz0_, hz1_, hz2_⟩ := info_parts info5
  obtain ⟨hsl, hslr, _⟩ := print_take_of (P := Try.prog) (Value.int .u8) 0 27 5 .i64 Try.underlying27 hi0 hz1_ A c b ((kn : Int)) (by omega) (by omega) HC.out
  obtain ⟨p, hp⟩ : ∃ p, p = b.take ((kn : Int) : Int).toNat := ⟨_, rfl⟩
  rw [← hp] at hsl hslr
  have HPV : Aside0 (Ever (fun k => k = g ∨ k = m) w (fun W => Kd.C (Kd.int .u8) W A p.length p)) := ⟨HV.out.imp (fun W h => Kd.C_of_reads (hslr W (Kd.reads_of_C h)))⟩
  have HPJ : Aside0 (p = b.take (kn)) := ⟨by rw [hp]; congr 1⟩
  have HPL : Aside0 (p.length = kn) := ⟨by rw [HPJ.out, List.length_take]; omega⟩
  clear hslr hp hi0 hz0_ hz1_ hz2_ hl
  clear h hmp hn hsect h0 h1 hMb hV hc
  have XT : Aside0 (Ext (fun k => k = g ∨ k = m) w w) := ⟨Ext.refl _ _⟩
  have lc1_0 : w.cell? ⟨g, 0, none⟩ = some (.int .i64 (sec : Int)) := (blk_cell BK_g.out 0).trans rfl
  have lf1_0 := blk_frozen BK_g.out 0
  have lc1_1 : w.cell? ⟨g, 1, none⟩ = some (.int .i64 (byt : Int)) := (blk_cell BK_g.out 1).trans rfl
  have lf1_1 := blk_frozen BK_g.out 1
  have lc1_2 : w.cell? ⟨g, 2, none⟩ = some (.map (some m)) := (blk_cell BK_g.out 2).trans rfl
  have lf1_2 := blk_frozen BK_g.out 2
  have lc1_3 : w.cell? ⟨g, 3, none⟩ = some (.bool false) := (blk_cell BK_g.out 3).trans rfl
  have lf1_3 := blk_frozen BK_g.out 3
  have lc1_4 : w.cell? ⟨g, 4, none⟩ = some (.int .i64 (1)) := (blk_cell BK_g.out 4).trans rfl
  have lf1_4 := blk_frozen BK_g.out 4
  have lc1_5 : w.cell? ⟨g, 5, none⟩ = some (.int .i64 ((kn : Int))) := (blk_cell BK_g.out 5).trans rfl
  have lf1_5 := blk_frozen BK_g.out 5
  have lc1_6 : w.cell? ⟨g, 6, none⟩ = some (.int .i64 (wr)) := (blk_cell BK_g.out 6).trans rfl
  have lf1_6 := blk_frozen BK_g.out 6
  go_enter Try.func11, Try.ntmps11
  go_wp2_with (first | (go_at_call 13; refine (read_ok H.out k K0.out K1.out).mono ?_; rintro e w1 ⟨r, rfl, hr, hrow, HBc⟩; have NE_g_r : Aside0 (g ≠ r) := ⟨fun e => by have := H.out.lts.1; omega⟩; have NE_r_g : Aside0 (r ≠ g) := ⟨fun e => NE_g_r.out e.symm⟩; have NE_m_r : Aside0 (m ≠ r) := ⟨fun e => by have := H.out.lts.2; omega⟩; have NE_r_m : Aside0 (r ≠ m) := ⟨fun e => NE_m_r.out e.symm⟩; have RG_r := Aside0.mk hr; have F_r : Aside0 (∀ k, k = r → (fun k => k = g ∨ k = m) k ∨ w.heap.size ≤ k) := ⟨fun k e => .inr (by rw [e]; exact hr)⟩; clear hr; clear lc1_0 lf1_0 lc1_1 lf1_1 lc1_2 lf1_2 lc1_3 lf1_3 lc1_4 lf1_4 lc1_5 lf1_5 lc1_6 lf1_6; have BKn_g : Aside0 (w1.heap[g]? = some (.cells #[.int .i64 (sec : Int), .int .i64 (byt : Int), .map (some m), .bool false, .int .i64 (1), .int .i64 ((kn : Int)), .int .i64 (wr)] 52 (0, 0))) := ⟨Ext.blk (Ext.none_ HBc) BK_g.out (fun e => e)⟩; have MPn_m : Aside0 (IsMap w1 m (f) (n)) := ⟨IsMap.ext MP_m.out (Ext.none_ HBc) (fun e => e)⟩; have XTn : Aside0 (Ext (fun k => k = g ∨ k = m) w w1) := ⟨XT.out.stepB HBc⟩; clear BK_g MP_m XT; have BK_g := BKn_g; have MP_m := MPn_m; have XT := XTn; clear BKn_g MPn_m XTn; have BK_r : Aside0 (w1.heap[r]? = some (.cells ((all k).map (Value.int .u8)).toArray 5 (0, 0))) := ⟨hrow⟩; clear hrow HBc; have lc2_0 : w1.cell? ⟨g, 0, none⟩ = some (.int .i64 (sec : Int)) := (blk_cell BK_g.out 0).trans rfl; have lf2_0 := blk_frozen BK_g.out 0; have lc2_1 : w1.cell? ⟨g, 1, none⟩ = some (.int .i64 (byt : Int)) := (blk_cell BK_g.out 1).trans rfl; have lf2_1 := blk_frozen BK_g.out 1; have lc2_2 : w1.cell? ⟨g, 2, none⟩ = some (.map (some m)) := (blk_cell BK_g.out 2).trans rfl; have lf2_2 := blk_frozen BK_g.out 2; have lc2_3 : w1.cell? ⟨g, 3, none⟩ = some (.bool false) := (blk_cell BK_g.out 3).trans rfl; have lf2_3 := blk_frozen BK_g.out 3; have lc2_4 : w1.cell? ⟨g, 4, none⟩ = some (.int .i64 (1)) := (blk_cell BK_g.out 4).trans rfl; have lf2_4 := blk_frozen BK_g.out 4; have lc2_5 : w1.cell? ⟨g, 5, none⟩ = some (.int .i64 ((kn : Int))) := (blk_cell BK_g.out 5).trans rfl; have lf2_5 := blk_frozen BK_g.out 5; have lc2_6 : w1.cell? ⟨g, 6, none⟩ = some (.int .i64 (wr)) := (blk_cell BK_g.out 6).trans rfl; have lf2_6 := blk_frozen BK_g.out 6) | ((with_reducible refine gate_store (p := 34) rfl ?_); refine store_event (w1 := ?_) rfl (p := 34) rfl rfl ?hr ?_; rotate_left; (case hr => go_simp; rfl); intro w2 hw_; obtain ⟨hput, HEc⟩ := put1 (cs' := #[.int .i64 (sec : Int), .int .i64 (byt : Int), .map (some m), .bool false, .int .i64 (1), .int .i64 ((kn : Int)), .int .i64 (wr + 1)]) hw_ BK_g.out rfl; clear hw_; clear lc2_0 lf2_0 lc2_1 lf2_1 lc2_2 lf2_2 lc2_3 lf2_3 lc2_4 lf2_4 lc2_5 lf2_5 lc2_6 lf2_6; have BKn_r : Aside0 (w2.heap[r]? = some (.cells ((all k).map (Value.int .u8)).toArray 5 (0, 0))) := ⟨Ext.blk HEc BK_r.out NE_r_g.out⟩; have MPn_m : Aside0 (IsMap w2 m (f) (n)) := ⟨IsMap.ext MP_m.out HEc NE_m_g.out⟩; have XTn : Aside0 (Ext (fun k => k = g ∨ k = m) w w2) := ⟨XT.out.step HEc (F_g.out)⟩; clear BK_r MP_m XT; have BK_r := BKn_r; have MP_m := MPn_m; have XT := XTn; clear BKn_r MPn_m XTn; clear BK_g; have BK_g : Aside0 (w2.heap[g]? = some (.cells #[.int .i64 (sec : Int), .int .i64 (byt : Int), .map (some m), .bool false, .int .i64 (1), .int .i64 ((kn : Int)), .int .i64 (wr + 1)] 52 (0, 0))) := ⟨hput⟩; clear hput HEc; have lc3_0 : w2.cell? ⟨g, 0, none⟩ = some (.int .i64 (sec : Int)) := (blk_cell BK_g.out 0).trans rfl; have lf3_0 := blk_frozen BK_g.out 0; have lc3_1 : w2.cell? ⟨g, 1, none⟩ = some (.int .i64 (byt : Int)) := (blk_cell BK_g.out 1).trans rfl; have lf3_1 := blk_frozen BK_g.out 1; have lc3_2 : w2.cell? ⟨g, 2, none⟩ = some (.map (some m)) := (blk_cell BK_g.out 2).trans rfl; have lf3_2 := blk_frozen BK_g.out 2; have lc3_3 : w2.cell? ⟨g, 3, none⟩ = some (.bool false) := (blk_cell BK_g.out 3).trans rfl; have lf3_3 := blk_frozen BK_g.out 3; have lc3_4 : w2.cell? ⟨g, 4, none⟩ = some (.int .i64 (1)) := (blk_cell BK_g.out 4).trans rfl; have lf3_4 := blk_frozen BK_g.out 4; have lc3_5 : w2.cell? ⟨g, 5, none⟩ = some (.int .i64 ((kn : Int))) := (blk_cell BK_g.out 5).trans rfl; have lf3_5 := blk_frozen BK_g.out 5; have lc3_6 : w2.cell? ⟨g, 6, none⟩ = some (.int .i64 (wr + 1)) := (blk_cell BK_g.out 6).trans rfl; have lf3_6 := blk_frozen BK_g.out 6) | ((with_reducible refine gate_store (p := 48) rfl ?_); refine store_event (w1 := ?_) rfl (p := 48) rfl rfl ?hr ?_; rotate_left; (case hr => go_simp; rfl); intro w3 hw_; obtain ⟨hput, HEc⟩ := put1 (cs' := #[.int .i64 (sec : Int), .int .i64 (byt : Int), .map (some m), .bool false, .int .i64 (0), .int .i64 ((kn : Int)), .int .i64 (wr + 1)]) hw_ BK_g.out rfl; clear hw_; clear lc3_0 lf3_0 lc3_1 lf3_1 lc3_2 lf3_2 lc3_3 lf3_3 lc3_4 lf3_4 lc3_5 lf3_5 lc3_6 lf3_6; have BKn_r : Aside0 (w3.heap[r]? = some (.cells ((all k).map (Value.int .u8)).toArray 5 (0, 0))) := ⟨Ext.blk HEc BK_r.out NE_r_g.out⟩; have MPn_m : Aside0 (IsMap w3 m (f) (n)) := ⟨IsMap.ext MP_m.out HEc NE_m_g.out⟩; have XTn : Aside0 (Ext (fun k => k = g ∨ k = m) w w3) := ⟨XT.out.step HEc (F_g.out)⟩; clear BK_r MP_m XT; have BK_r := BKn_r; have MP_m := MPn_m; have XT := XTn; clear BKn_r MPn_m XTn; clear BK_g; have BK_g : Aside0 (w3.heap[g]? = some (.cells #[.int .i64 (sec : Int), .int .i64 (byt : Int), .map (some m), .bool false, .int .i64 (0), .int .i64 ((kn : Int)), .int .i64 (wr + 1)] 52 (0, 0))) := ⟨hput⟩; clear hput HEc; have lc4_0 : w3.cell? ⟨g, 0, none⟩ = some (.int .i64 (sec : Int)) := (blk_cell BK_g.out 0).trans rfl; have lf4_0 := blk_frozen BK_g.out 0; have lc4_1 : w3.cell? ⟨g, 1, none⟩ = some (.int .i64 (byt : Int)) := (blk_cell BK_g.out 1).trans rfl; have lf4_1 := blk_frozen BK_g.out 1; have lc4_2 : w3.cell? ⟨g, 2, none⟩ = some (.map (some m)) := (blk_cell BK_g.out 2).trans rfl; have lf4_2 := blk_frozen BK_g.out 2; have lc4_3 : w3.cell? ⟨g, 3, none⟩ = some (.bool false) := (blk_cell BK_g.out 3).trans rfl; have lf4_3 := blk_frozen BK_g.out 3; have lc4_4 : w3.cell? ⟨g, 4, none⟩ = some (.int .i64 (0)) := (blk_cell BK_g.out 4).trans rfl; have lf4_4 := blk_frozen BK_g.out 4; have lc4_5 : w3.cell? ⟨g, 5, none⟩ = some (.int .i64 ((kn : Int))) := (blk_cell BK_g.out 5).trans rfl; have lf4_5 := blk_frozen BK_g.out 5; have lc4_6 : w3.cell? ⟨g, 6, none⟩ = some (.int .i64 (wr + 1)) := (blk_cell BK_g.out 6).trans rfl; have lf4_6 := blk_frozen BK_g.out 6) | ((with_reducible refine gate_store (p := 63) rfl ?_); refine store_event (w1 := ?_) rfl (p := 63) rfl rfl ?hr ?_; rotate_left; (case hr => go_simp; rfl); intro w4 hw_; obtain ⟨hput, HEc⟩ := put1 (cs' := #[.int .i64 (sec : Int), .int .i64 (byt : Int), .map (some m), .bool true, .int .i64 (0), .int .i64 ((kn : Int)), .int .i64 (wr + 1)]) hw_ BK_g.out rfl; clear hw_; clear lc4_0 lf4_0 lc4_1 lf4_1 lc4_2 lf4_2 lc4_3 lf4_3 lc4_4 lf4_4 lc4_5 lf4_5 lc4_6 lf4_6; have BKn_r : Aside0 (w4.heap[r]? = some (.cells ((all k).map (Value.int .u8)).toArray 5 (0, 0))) := ⟨Ext.blk HEc BK_r.out NE_r_g.out⟩; have MPn_m : Aside0 (IsMap w4 m (f) (n)) := ⟨IsMap.ext MP_m.out HEc NE_m_g.out⟩; have XTn : Aside0 (Ext (fun k => k = g ∨ k = m) w w4) := ⟨XT.out.step HEc (F_g.out)⟩; clear BK_r MP_m XT; have BK_r := BKn_r; have MP_m := MPn_m; have XT := XTn; clear BKn_r MPn_m XTn; clear BK_g; have BK_g : Aside0 (w4.heap[g]? = some (.cells #[.int .i64 (sec : Int), .int .i64 (byt : Int), .map (some m), .bool true, .int .i64 (0), .int .i64 ((kn : Int)), .int .i64 (wr + 1)] 52 (0, 0))) := ⟨hput⟩; clear hput HEc; have lc5_0 : w4.cell? ⟨g, 0, none⟩ = some (.int .i64 (sec : Int)) := (blk_cell BK_g.out 0).trans rfl; have lf5_0 := blk_frozen BK_g.out 0; have lc5_1 : w4.cell? ⟨g, 1, none⟩ = some (.int .i64 (byt : Int)) := (blk_cell BK_g.out 1).trans rfl; have lf5_1 := blk_frozen BK_g.out 1; have lc5_2 : w4.cell? ⟨g, 2, none⟩ = some (.map (some m)) := (blk_cell BK_g.out 2).trans rfl; have lf5_2 := blk_frozen BK_g.out 2; have lc5_3 : w4.cell? ⟨g, 3, none⟩ = some (.bool true) := (blk_cell BK_g.out 3).trans rfl; have lf5_3 := blk_frozen BK_g.out 3; have lc5_4 : w4.cell? ⟨g, 4, none⟩ = some (.int .i64 (0)) := (blk_cell BK_g.out 4).trans rfl; have lf5_4 := blk_frozen BK_g.out 4; have lc5_5 : w4.cell? ⟨g, 5, none⟩ = some (.int .i64 ((kn : Int))) := (blk_cell BK_g.out 5).trans rfl; have lf5_5 := blk_frozen BK_g.out 5; have lc5_6 : w4.cell? ⟨g, 6, none⟩ = some (.int .i64 (wr + 1)) := (blk_cell BK_g.out 6).trans rfl; have lf5_6 := blk_frozen BK_g.out 6) | ((with_reducible refine gate_builtin (b := .copy) (xs := #[.tmp 64, .tmp 67]) rfl ?_); refine copy_event rfl (.tmp 64) (.tmp 67) .u8 rfl Try.underlying27 one5 (all k) p byt c A (H.out.len k) ?cd ?cs BK_r.out ?cv ?_; (case cd => rfl); (case cs => rfl); (case cv => exact (HPV.out.at_ _ XT.out)); intro w5 hput HEc; clear lc5_0 lf5_0 lc5_1 lf5_1 lc5_2 lf5_2 lc5_3 lf5_3 lc5_4 lf5_4 lc5_5 lf5_5 lc5_6 lf5_6; have BKn_g : Aside0 (w5.heap[g]? = some (.cells #[.int .i64 (sec : Int), .int .i64 (byt : Int), .map (some m), .bool true, .int .i64 (0), .int .i64 ((kn : Int)), .int .i64 (wr + 1)] 52 (0, 0))) := ⟨Ext.blk HEc BK_g.out NE_g_r.out⟩; have MPn_m : Aside0 (IsMap w5 m (f) (n)) := ⟨IsMap.ext MP_m.out HEc NE_m_r.out⟩; have XTn : Aside0 (Ext (fun k => k = g ∨ k = m) w w5) := ⟨XT.out.step HEc (F_r.out)⟩; clear BK_g MP_m XT; have BK_g := BKn_g; have MP_m := MPn_m; have XT := XTn; clear BKn_g MPn_m XTn; clear BK_r; have BK_r : Aside0 (w5.heap[r]? = some (.cells ((p.take (all k).length ++ (all k).drop p.length).map (Value.int .u8)).toArray 5 (0, 0))) := ⟨hput⟩; clear hput HEc; have lc6_0 : w5.cell? ⟨g, 0, none⟩ = some (.int .i64 (sec : Int)) := (blk_cell BK_g.out 0).trans rfl; have lf6_0 := blk_frozen BK_g.out 0; have lc6_1 : w5.cell? ⟨g, 1, none⟩ = some (.int .i64 (byt : Int)) := (blk_cell BK_g.out 1).trans rfl; have lf6_1 := blk_frozen BK_g.out 1; have lc6_2 : w5.cell? ⟨g, 2, none⟩ = some (.map (some m)) := (blk_cell BK_g.out 2).trans rfl; have lf6_2 := blk_frozen BK_g.out 2; have lc6_3 : w5.cell? ⟨g, 3, none⟩ = some (.bool true) := (blk_cell BK_g.out 3).trans rfl; have lf6_3 := blk_frozen BK_g.out 3; have lc6_4 : w5.cell? ⟨g, 4, none⟩ = some (.int .i64 (0)) := (blk_cell BK_g.out 4).trans rfl; have lf6_4 := blk_frozen BK_g.out 4; have lc6_5 : w5.cell? ⟨g, 5, none⟩ = some (.int .i64 ((kn : Int))) := (blk_cell BK_g.out 5).trans rfl; have lf6_5 := blk_frozen BK_g.out 5; have lc6_6 : w5.cell? ⟨g, 6, none⟩ = some (.int .i64 (wr + 1)) := (blk_cell BK_g.out 6).trans rfl; have lf6_6 := blk_frozen BK_g.out 6) | ((with_reducible refine gate_upd (x := 72) (y := 73) (z := 74) rfl ?_); refine upd_event (k := k) (v := .slice (some ⟨r, 0, none⟩) byt byt) rfl rfl rfl MP_m.out Try.underlying50 Try.underlying3 ?hx ?hy ?hz ?_; (case hx => rfl); (case hy => rfl); (case hz => rfl); intro w6 hup HEc; clear lc6_0 lf6_0 lc6_1 lf6_1 lc6_2 lf6_2 lc6_3 lf6_3 lc6_4 lf6_4 lc6_5 lf6_5 lc6_6 lf6_6; have BKn_g : Aside0 (w6.heap[g]? = some (.cells #[.int .i64 (sec : Int), .int .i64 (byt : Int), .map (some m), .bool true, .int .i64 (0), .int .i64 ((kn : Int)), .int .i64 (wr + 1)] 52 (0, 0))) := ⟨Ext.blk HEc BK_g.out NE_g_m.out⟩; have BKn_r : Aside0 (w6.heap[r]? = some (.cells ((p.take (all k).length ++ (all k).drop p.length).map (Value.int .u8)).toArray 5 (0, 0))) := ⟨Ext.blk HEc BK_r.out NE_r_m.out⟩; have XTn : Aside0 (Ext (fun k => k = g ∨ k = m) w w6) := ⟨XT.out.step HEc (F_m.out)⟩; clear BK_g BK_r XT; have BK_g := BKn_g; have BK_r := BKn_r; have XT := XTn; clear BKn_g BKn_r XTn; clear MP_m; have MP_m : Aside0 (IsMap w6 m (fun j => if j = k then some (.slice (some ⟨r, 0, none⟩) byt byt) else (f) j) (n + 1)) := ⟨hup⟩; clear hup HEc; have lc7_0 : w6.cell? ⟨g, 0, none⟩ = some (.int .i64 (sec : Int)) := (blk_cell BK_g.out 0).trans rfl; have lf7_0 := blk_frozen BK_g.out 0; have lc7_1 : w6.cell? ⟨g, 1, none⟩ = some (.int .i64 (byt : Int)) := (blk_cell BK_g.out 1).trans rfl; have lf7_1 := blk_frozen BK_g.out 1; have lc7_2 : w6.cell? ⟨g, 2, none⟩ = some (.map (some m)) := (blk_cell BK_g.out 2).trans rfl; have lf7_2 := blk_frozen BK_g.out 2; have lc7_3 : w6.cell? ⟨g, 3, none⟩ = some (.bool true) := (blk_cell BK_g.out 3).trans rfl; have lf7_3 := blk_frozen BK_g.out 3; have lc7_4 : w6.cell? ⟨g, 4, none⟩ = some (.int .i64 (0)) := (blk_cell BK_g.out 4).trans rfl; have lf7_4 := blk_frozen BK_g.out 4; have lc7_5 : w6.cell? ⟨g, 5, none⟩ = some (.int .i64 ((kn : Int))) := (blk_cell BK_g.out 5).trans rfl; have lf7_5 := blk_frozen BK_g.out 5; have lc7_6 : w6.cell? ⟨g, 6, none⟩ = some (.int .i64 (wr + 1)) := (blk_cell BK_g.out 6).trans rfl; have lf7_6 := blk_frozen BK_g.out 6))
  go_ret
  exact ⟨rfl, H.out.made HSE.out HNW.out XT.out HMB.out RG_r.out BK_g.out MP_m.out BK_r.out HPJ.out HPL.out HL.out, XT.out⟩
set_option maxHeartbeats 4000000 in
set_option maxRecDepth 100000 in
theorem write_4c {M : Nat → Prop} {w : World} {g m : Nat} {sec byt : Nat} {all : Int → List Int} {wr : Int} {kn : Nat} (h : IsDisk M w g m ⟨sec, byt, all, false, 1, (kn : Int), wr⟩) (k : Int) (h0 : 0 ≤ k) (h1 : k < sec) (hMb : ∀ k, M k → k < w.heap.size) (A : Option Addr) (c : Nat) (b : List Int) (hc : b.length ≤ c) (hV : Ever (fun k => k = g ∨ k = m) w (fun W => Kd.C (Kd.int .u8) W A b.length b)) (hl : b.length = byt) (hw : wr ≤ 1000000000000) (hk : b.length < kn) :
    Calls Try.prog 11 #[.pointer (some ⟨g, 0, none⟩), .int .i64 k, .slice A b.length c] w fun e w' => e = .returned (.int .i64 180) ∧ IsDisk M w' g m ⟨sec, byt, put all k b (b.length), true, 0, (kn : Int), wr + 1⟩ ∧ Ext (fun k => k = g ∨ k = m) w w' := by
  obtain ⟨f, n, hmp, hn, hsect⟩ := h.mp
  have H := Aside0.mk h; have HSE := Aside0.mk hsect; have HNW := Aside0.mk hn; have MP_m := Aside0.mk hmp; have NE_g_m := Aside0.mk h.ne; have NE_m_g := Aside0.mk h.ne.symm; have K0 := Aside0.mk h0; have K1 := Aside0.mk h1; have HMB := Aside0.mk hMb; have HV := Aside0.mk hV; have HC := Aside0.mk hc
  have hw0 : 0 ≤ wr := Int.le_trans (Int.natCast_nonneg n) hn
  have HW1 := Aside0.mk hw
  have HL := Aside0.mk hl
  have BK_g : Aside0 (w.heap[g]? = some (.cells #[.int .i64 (sec : Int), .int .i64 (byt : Int), .map (some m), .bool false, .int .i64 (1), .int .i64 ((kn : Int)), .int .i64 (wr)] 52 (0, 0))) := ⟨h.blk⟩
  have F_g : Aside0 (∀ k, k = g → (fun k => k = g ∨ k = m) k ∨ w.heap.size ≤ k) := ⟨fold (.inl rfl)⟩; have F_m : Aside0 (∀ k, k = m → (fun k => k = g ∨ k = m) k ∨ w.heap.size ≤ k) := ⟨fold (.inr rfl)⟩
  have t1 : ((b.length : Int) != (byt : Int)) = false := by rw [hl]; simp
  have t5 : decide (b.length < kn) = true := decide_eq_true hk
  obtain ⟨i0, hi0, hz0_, hz1_, hz2_⟩ := info_parts info5
  obtain ⟨hsl, hslr, _⟩ := print_take_of (P := Try.prog) (Value.int .u8) 0 27 5 .i64 Try.underlying27 hi0 hz1_ A c b ((b.length : Int)) (by omega) (by omega) HC.out
  obtain ⟨p, hp⟩ : ∃ p, p = b.take ((b.length : Int) : Int).toNat := ⟨_, rfl⟩
  rw [← hp] at hsl hslr
  have HPV : Aside0 (Ever (fun k => k = g ∨ k = m) w (fun W => Kd.C (Kd.int .u8) W A p.length p)) := ⟨HV.out.imp (fun W h => Kd.C_of_reads (hslr W (Kd.reads_of_C h)))⟩
  have HPJ : Aside0 (p = b.take (b.length)) := ⟨by rw [hp]; congr 1⟩
  have HPL : Aside0 (p.length = b.length) := ⟨by rw [HPJ.out, List.length_take]; omega⟩
  clear hslr hp hi0 hz0_ hz1_ hz2_ hl
  clear h hmp hn hsect h0 h1 hMb hV hc
  have XT : Aside0 (Ext (fun k => k = g ∨ k = m) w w) := ⟨Ext.refl _ _⟩
  have lc1_0 : w.cell? ⟨g, 0, none⟩ = some (.int .i64 (sec : Int)) := (blk_cell BK_g.out 0).trans rfl
  have lf1_0 := blk_frozen BK_g.out 0
  have lc1_1 : w.cell? ⟨g, 1, none⟩ = some (.int .i64 (byt : Int)) := (blk_cell BK_g.out 1).trans rfl
  have lf1_1 := blk_frozen BK_g.out 1
  have lc1_2 : w.cell? ⟨g, 2, none⟩ = some (.map (some m)) := (blk_cell BK_g.out 2).trans rfl
  have lf1_2 := blk_frozen BK_g.out 2
  have lc1_3 : w.cell? ⟨g, 3, none⟩ = some (.bool false) := (blk_cell BK_g.out 3).trans rfl
  have lf1_3 := blk_frozen BK_g.out 3
  have lc1_4 : w.cell? ⟨g, 4, none⟩ = some (.int .i64 (1)) := (blk_cell BK_g.out 4).trans rfl
  have lf1_4 := blk_frozen BK_g.out 4
  have lc1_5 : w.cell? ⟨g, 5, none⟩ = some (.int .i64 ((kn : Int))) := (blk_cell BK_g.out 5).trans rfl
  have lf1_5 := blk_frozen BK_g.out 5
  have lc1_6 : w.cell? ⟨g, 6, none⟩ = some (.int .i64 (wr)) := (blk_cell BK_g.out 6).trans rfl
  have lf1_6 := blk_frozen BK_g.out 6
  go_enter Try.func11, Try.ntmps11
  go_wp2_with (first | (go_at_call 13; refine (read_ok H.out k K0.out K1.out).mono ?_; rintro e w1 ⟨r, rfl, hr, hrow, HBc⟩; have NE_g_r : Aside0 (g ≠ r) := ⟨fun e => by have := H.out.lts.1; omega⟩; have NE_r_g : Aside0 (r ≠ g) := ⟨fun e => NE_g_r.out e.symm⟩; have NE_m_r : Aside0 (m ≠ r) := ⟨fun e => by have := H.out.lts.2; omega⟩; have NE_r_m : Aside0 (r ≠ m) := ⟨fun e => NE_m_r.out e.symm⟩; have RG_r := Aside0.mk hr; have F_r : Aside0 (∀ k, k = r → (fun k => k = g ∨ k = m) k ∨ w.heap.size ≤ k) := ⟨fun k e => .inr (by rw [e]; exact hr)⟩; clear hr; clear lc1_0 lf1_0 lc1_1 lf1_1 lc1_2 lf1_2 lc1_3 lf1_3 lc1_4 lf1_4 lc1_5 lf1_5 lc1_6 lf1_6; have BKn_g : Aside0 (w1.heap[g]? = some (.cells #[.int .i64 (sec : Int), .int .i64 (byt : Int), .map (some m), .bool false, .int .i64 (1), .int .i64 ((kn : Int)), .int .i64 (wr)] 52 (0, 0))) := ⟨Ext.blk (Ext.none_ HBc) BK_g.out (fun e => e)⟩; have MPn_m : Aside0 (IsMap w1 m (f) (n)) := ⟨IsMap.ext MP_m.out (Ext.none_ HBc) (fun e => e)⟩; have XTn : Aside0 (Ext (fun k => k = g ∨ k = m) w w1) := ⟨XT.out.stepB HBc⟩; clear BK_g MP_m XT; have BK_g := BKn_g; have MP_m := MPn_m; have XT := XTn; clear BKn_g MPn_m XTn; have BK_r : Aside0 (w1.heap[r]? = some (.cells ((all k).map (Value.int .u8)).toArray 5 (0, 0))) := ⟨hrow⟩; clear hrow HBc; have lc2_0 : w1.cell? ⟨g, 0, none⟩ = some (.int .i64 (sec : Int)) := (blk_cell BK_g.out 0).trans rfl; have lf2_0 := blk_frozen BK_g.out 0; have lc2_1 : w1.cell? ⟨g, 1, none⟩ = some (.int .i64 (byt : Int)) := (blk_cell BK_g.out 1).trans rfl; have lf2_1 := blk_frozen BK_g.out 1; have lc2_2 : w1.cell? ⟨g, 2, none⟩ = some (.map (some m)) := (blk_cell BK_g.out 2).trans rfl; have lf2_2 := blk_frozen BK_g.out 2; have lc2_3 : w1.cell? ⟨g, 3, none⟩ = some (.bool false) := (blk_cell BK_g.out 3).trans rfl; have lf2_3 := blk_frozen BK_g.out 3; have lc2_4 : w1.cell? ⟨g, 4, none⟩ = some (.int .i64 (1)) := (blk_cell BK_g.out 4).trans rfl; have lf2_4 := blk_frozen BK_g.out 4; have lc2_5 : w1.cell? ⟨g, 5, none⟩ = some (.int .i64 ((kn : Int))) := (blk_cell BK_g.out 5).trans rfl; have lf2_5 := blk_frozen BK_g.out 5; have lc2_6 : w1.cell? ⟨g, 6, none⟩ = some (.int .i64 (wr)) := (blk_cell BK_g.out 6).trans rfl; have lf2_6 := blk_frozen BK_g.out 6) | ((with_reducible refine gate_store (p := 34) rfl ?_); refine store_event (w1 := ?_) rfl (p := 34) rfl rfl ?hr ?_; rotate_left; (case hr => go_simp; rfl); intro w2 hw_; obtain ⟨hput, HEc⟩ := put1 (cs' := #[.int .i64 (sec : Int), .int .i64 (byt : Int), .map (some m), .bool false, .int .i64 (1), .int .i64 ((kn : Int)), .int .i64 (wr + 1)]) hw_ BK_g.out rfl; clear hw_; clear lc2_0 lf2_0 lc2_1 lf2_1 lc2_2 lf2_2 lc2_3 lf2_3 lc2_4 lf2_4 lc2_5 lf2_5 lc2_6 lf2_6; have BKn_r : Aside0 (w2.heap[r]? = some (.cells ((all k).map (Value.int .u8)).toArray 5 (0, 0))) := ⟨Ext.blk HEc BK_r.out NE_r_g.out⟩; have MPn_m : Aside0 (IsMap w2 m (f) (n)) := ⟨IsMap.ext MP_m.out HEc NE_m_g.out⟩; have XTn : Aside0 (Ext (fun k => k = g ∨ k = m) w w2) := ⟨XT.out.step HEc (F_g.out)⟩; clear BK_r MP_m XT; have BK_r := BKn_r; have MP_m := MPn_m; have XT := XTn; clear BKn_r MPn_m XTn; clear BK_g; have BK_g : Aside0 (w2.heap[g]? = some (.cells #[.int .i64 (sec : Int), .int .i64 (byt : Int), .map (some m), .bool false, .int .i64 (1), .int .i64 ((kn : Int)), .int .i64 (wr + 1)] 52 (0, 0))) := ⟨hput⟩; clear hput HEc; have lc3_0 : w2.cell? ⟨g, 0, none⟩ = some (.int .i64 (sec : Int)) := (blk_cell BK_g.out 0).trans rfl; have lf3_0 := blk_frozen BK_g.out 0; have lc3_1 : w2.cell? ⟨g, 1, none⟩ = some (.int .i64 (byt : Int)) := (blk_cell BK_g.out 1).trans rfl; have lf3_1 := blk_frozen BK_g.out 1; have lc3_2 : w2.cell? ⟨g, 2, none⟩ = some (.map (some m)) := (blk_cell BK_g.out 2).trans rfl; have lf3_2 := blk_frozen BK_g.out 2; have lc3_3 : w2.cell? ⟨g, 3, none⟩ = some (.bool false) := (blk_cell BK_g.out 3).trans rfl; have lf3_3 := blk_frozen BK_g.out 3; have lc3_4 : w2.cell? ⟨g, 4, none⟩ = some (.int .i64 (1)) := (blk_cell BK_g.out 4).trans rfl; have lf3_4 := blk_frozen BK_g.out 4; have lc3_5 : w2.cell? ⟨g, 5, none⟩ = some (.int .i64 ((kn : Int))) := (blk_cell BK_g.out 5).trans rfl; have lf3_5 := blk_frozen BK_g.out 5; have lc3_6 : w2.cell? ⟨g, 6, none⟩ = some (.int .i64 (wr + 1)) := (blk_cell BK_g.out 6).trans rfl; have lf3_6 := blk_frozen BK_g.out 6) | ((with_reducible refine gate_store (p := 48) rfl ?_); refine store_event (w1 := ?_) rfl (p := 48) rfl rfl ?hr ?_; rotate_left; (case hr => go_simp; rfl); intro w3 hw_; obtain ⟨hput, HEc⟩ := put1 (cs' := #[.int .i64 (sec : Int), .int .i64 (byt : Int), .map (some m), .bool false, .int .i64 (0), .int .i64 ((kn : Int)), .int .i64 (wr + 1)]) hw_ BK_g.out rfl; clear hw_; clear lc3_0 lf3_0 lc3_1 lf3_1 lc3_2 lf3_2 lc3_3 lf3_3 lc3_4 lf3_4 lc3_5 lf3_5 lc3_6 lf3_6; have BKn_r : Aside0 (w3.heap[r]? = some (.cells ((all k).map (Value.int .u8)).toArray 5 (0, 0))) := ⟨Ext.blk HEc BK_r.out NE_r_g.out⟩; have MPn_m : Aside0 (IsMap w3 m (f) (n)) := ⟨IsMap.ext MP_m.out HEc NE_m_g.out⟩; have XTn : Aside0 (Ext (fun k => k = g ∨ k = m) w w3) := ⟨XT.out.step HEc (F_g.out)⟩; clear BK_r MP_m XT; have BK_r := BKn_r; have MP_m := MPn_m; have XT := XTn; clear BKn_r MPn_m XTn; clear BK_g; have BK_g : Aside0 (w3.heap[g]? = some (.cells #[.int .i64 (sec : Int), .int .i64 (byt : Int), .map (some m), .bool false, .int .i64 (0), .int .i64 ((kn : Int)), .int .i64 (wr + 1)] 52 (0, 0))) := ⟨hput⟩; clear hput HEc; have lc4_0 : w3.cell? ⟨g, 0, none⟩ = some (.int .i64 (sec : Int)) := (blk_cell BK_g.out 0).trans rfl; have lf4_0 := blk_frozen BK_g.out 0; have lc4_1 : w3.cell? ⟨g, 1, none⟩ = some (.int .i64 (byt : Int)) := (blk_cell BK_g.out 1).trans rfl; have lf4_1 := blk_frozen BK_g.out 1; have lc4_2 : w3.cell? ⟨g, 2, none⟩ = some (.map (some m)) := (blk_cell BK_g.out 2).trans rfl; have lf4_2 := blk_frozen BK_g.out 2; have lc4_3 : w3.cell? ⟨g, 3, none⟩ = some (.bool false) := (blk_cell BK_g.out 3).trans rfl; have lf4_3 := blk_frozen BK_g.out 3; have lc4_4 : w3.cell? ⟨g, 4, none⟩ = some (.int .i64 (0)) := (blk_cell BK_g.out 4).trans rfl; have lf4_4 := blk_frozen BK_g.out 4; have lc4_5 : w3.cell? ⟨g, 5, none⟩ = some (.int .i64 ((kn : Int))) := (blk_cell BK_g.out 5).trans rfl; have lf4_5 := blk_frozen BK_g.out 5; have lc4_6 : w3.cell? ⟨g, 6, none⟩ = some (.int .i64 (wr + 1)) := (blk_cell BK_g.out 6).trans rfl; have lf4_6 := blk_frozen BK_g.out 6) | ((with_reducible refine gate_store (p := 63) rfl ?_); refine store_event (w1 := ?_) rfl (p := 63) rfl rfl ?hr ?_; rotate_left; (case hr => go_simp; rfl); intro w4 hw_; obtain ⟨hput, HEc⟩ := put1 (cs' := #[.int .i64 (sec : Int), .int .i64 (byt : Int), .map (some m), .bool true, .int .i64 (0), .int .i64 ((kn : Int)), .int .i64 (wr + 1)]) hw_ BK_g.out rfl; clear hw_; clear lc4_0 lf4_0 lc4_1 lf4_1 lc4_2 lf4_2 lc4_3 lf4_3 lc4_4 lf4_4 lc4_5 lf4_5 lc4_6 lf4_6; have BKn_r : Aside0 (w4.heap[r]? = some (.cells ((all k).map (Value.int .u8)).toArray 5 (0, 0))) := ⟨Ext.blk HEc BK_r.out NE_r_g.out⟩; have MPn_m : Aside0 (IsMap w4 m (f) (n)) := ⟨IsMap.ext MP_m.out HEc NE_m_g.out⟩; have XTn : Aside0 (Ext (fun k => k = g ∨ k = m) w w4) := ⟨XT.out.step HEc (F_g.out)⟩; clear BK_r MP_m XT; have BK_r := BKn_r; have MP_m := MPn_m; have XT := XTn; clear BKn_r MPn_m XTn; clear BK_g; have BK_g : Aside0 (w4.heap[g]? = some (.cells #[.int .i64 (sec : Int), .int .i64 (byt : Int), .map (some m), .bool true, .int .i64 (0), .int .i64 ((kn : Int)), .int .i64 (wr + 1)] 52 (0, 0))) := ⟨hput⟩; clear hput HEc; have lc5_0 : w4.cell? ⟨g, 0, none⟩ = some (.int .i64 (sec : Int)) := (blk_cell BK_g.out 0).trans rfl; have lf5_0 := blk_frozen BK_g.out 0; have lc5_1 : w4.cell? ⟨g, 1, none⟩ = some (.int .i64 (byt : Int)) := (blk_cell BK_g.out 1).trans rfl; have lf5_1 := blk_frozen BK_g.out 1; have lc5_2 : w4.cell? ⟨g, 2, none⟩ = some (.map (some m)) := (blk_cell BK_g.out 2).trans rfl; have lf5_2 := blk_frozen BK_g.out 2; have lc5_3 : w4.cell? ⟨g, 3, none⟩ = some (.bool true) := (blk_cell BK_g.out 3).trans rfl; have lf5_3 := blk_frozen BK_g.out 3; have lc5_4 : w4.cell? ⟨g, 4, none⟩ = some (.int .i64 (0)) := (blk_cell BK_g.out 4).trans rfl; have lf5_4 := blk_frozen BK_g.out 4; have lc5_5 : w4.cell? ⟨g, 5, none⟩ = some (.int .i64 ((kn : Int))) := (blk_cell BK_g.out 5).trans rfl; have lf5_5 := blk_frozen BK_g.out 5; have lc5_6 : w4.cell? ⟨g, 6, none⟩ = some (.int .i64 (wr + 1)) := (blk_cell BK_g.out 6).trans rfl; have lf5_6 := blk_frozen BK_g.out 6) | ((with_reducible refine gate_builtin (b := .copy) (xs := #[.tmp 64, .tmp 67]) rfl ?_); refine copy_event rfl (.tmp 64) (.tmp 67) .u8 rfl Try.underlying27 one5 (all k) p byt c A (H.out.len k) ?cd ?cs BK_r.out ?cv ?_; (case cd => rfl); (case cs => rfl); (case cv => exact (HPV.out.at_ _ XT.out)); intro w5 hput HEc; clear lc5_0 lf5_0 lc5_1 lf5_1 lc5_2 lf5_2 lc5_3 lf5_3 lc5_4 lf5_4 lc5_5 lf5_5 lc5_6 lf5_6; have BKn_g : Aside0 (w5.heap[g]? = some (.cells #[.int .i64 (sec : Int), .int .i64 (byt : Int), .map (some m), .bool true, .int .i64 (0), .int .i64 ((kn : Int)), .int .i64 (wr + 1)] 52 (0, 0))) := ⟨Ext.blk HEc BK_g.out NE_g_r.out⟩; have MPn_m : Aside0 (IsMap w5 m (f) (n)) := ⟨IsMap.ext MP_m.out HEc NE_m_r.out⟩; have XTn : Aside0 (Ext (fun k => k = g ∨ k = m) w w5) := ⟨XT.out.step HEc (F_r.out)⟩; clear BK_g MP_m XT; have BK_g := BKn_g; have MP_m := MPn_m; have XT := XTn; clear BKn_g MPn_m XTn; clear BK_r; have BK_r : Aside0 (w5.heap[r]? = some (.cells ((p.take (all k).length ++ (all k).drop p.length).map (Value.int .u8)).toArray 5 (0, 0))) := ⟨hput⟩; clear hput HEc; have lc6_0 : w5.cell? ⟨g, 0, none⟩ = some (.int .i64 (sec : Int)) := (blk_cell BK_g.out 0).trans rfl; have lf6_0 := blk_frozen BK_g.out 0; have lc6_1 : w5.cell? ⟨g, 1, none⟩ = some (.int .i64 (byt : Int)) := (blk_cell BK_g.out 1).trans rfl; have lf6_1 := blk_frozen BK_g.out 1; have lc6_2 : w5.cell? ⟨g, 2, none⟩ = some (.map (some m)) := (blk_cell BK_g.out 2).trans rfl; have lf6_2 := blk_frozen BK_g.out 2; have lc6_3 : w5.cell? ⟨g, 3, none⟩ = some (.bool true) := (blk_cell BK_g.out 3).trans rfl; have lf6_3 := blk_frozen BK_g.out 3; have lc6_4 : w5.cell? ⟨g, 4, none⟩ = some (.int .i64 (0)) := (blk_cell BK_g.out 4).trans rfl; have lf6_4 := blk_frozen BK_g.out 4; have lc6_5 : w5.cell? ⟨g, 5, none⟩ = some (.int .i64 ((kn : Int))) := (blk_cell BK_g.out 5).trans rfl; have lf6_5 := blk_frozen BK_g.out 5; have lc6_6 : w5.cell? ⟨g, 6, none⟩ = some (.int .i64 (wr + 1)) := (blk_cell BK_g.out 6).trans rfl; have lf6_6 := blk_frozen BK_g.out 6) | ((with_reducible refine gate_upd (x := 72) (y := 73) (z := 74) rfl ?_); refine upd_event (k := k) (v := .slice (some ⟨r, 0, none⟩) byt byt) rfl rfl rfl MP_m.out Try.underlying50 Try.underlying3 ?hx ?hy ?hz ?_; (case hx => rfl); (case hy => rfl); (case hz => rfl); intro w6 hup HEc; clear lc6_0 lf6_0 lc6_1 lf6_1 lc6_2 lf6_2 lc6_3 lf6_3 lc6_4 lf6_4 lc6_5 lf6_5 lc6_6 lf6_6; have BKn_g : Aside0 (w6.heap[g]? = some (.cells #[.int .i64 (sec : Int), .int .i64 (byt : Int), .map (some m), .bool true, .int .i64 (0), .int .i64 ((kn : Int)), .int .i64 (wr + 1)] 52 (0, 0))) := ⟨Ext.blk HEc BK_g.out NE_g_m.out⟩; have BKn_r : Aside0 (w6.heap[r]? = some (.cells ((p.take (all k).length ++ (all k).drop p.length).map (Value.int .u8)).toArray 5 (0, 0))) := ⟨Ext.blk HEc BK_r.out NE_r_m.out⟩; have XTn : Aside0 (Ext (fun k => k = g ∨ k = m) w w6) := ⟨XT.out.step HEc (F_m.out)⟩; clear BK_g BK_r XT; have BK_g := BKn_g; have BK_r := BKn_r; have XT := XTn; clear BKn_g BKn_r XTn; clear MP_m; have MP_m : Aside0 (IsMap w6 m (fun j => if j = k then some (.slice (some ⟨r, 0, none⟩) byt byt) else (f) j) (n + 1)) := ⟨hup⟩; clear hup HEc; have lc7_0 : w6.cell? ⟨g, 0, none⟩ = some (.int .i64 (sec : Int)) := (blk_cell BK_g.out 0).trans rfl; have lf7_0 := blk_frozen BK_g.out 0; have lc7_1 : w6.cell? ⟨g, 1, none⟩ = some (.int .i64 (byt : Int)) := (blk_cell BK_g.out 1).trans rfl; have lf7_1 := blk_frozen BK_g.out 1; have lc7_2 : w6.cell? ⟨g, 2, none⟩ = some (.map (some m)) := (blk_cell BK_g.out 2).trans rfl; have lf7_2 := blk_frozen BK_g.out 2; have lc7_3 : w6.cell? ⟨g, 3, none⟩ = some (.bool true) := (blk_cell BK_g.out 3).trans rfl; have lf7_3 := blk_frozen BK_g.out 3; have lc7_4 : w6.cell? ⟨g, 4, none⟩ = some (.int .i64 (0)) := (blk_cell BK_g.out 4).trans rfl; have lf7_4 := blk_frozen BK_g.out 4; have lc7_5 : w6.cell? ⟨g, 5, none⟩ = some (.int .i64 ((kn : Int))) := (blk_cell BK_g.out 5).trans rfl; have lf7_5 := blk_frozen BK_g.out 5; have lc7_6 : w6.cell? ⟨g, 6, none⟩ = some (.int .i64 (wr + 1)) := (blk_cell BK_g.out 6).trans rfl; have lf7_6 := blk_frozen BK_g.out 6))
  go_ret
  exact ⟨rfl, H.out.made HSE.out HNW.out XT.out HMB.out RG_r.out BK_g.out MP_m.out BK_r.out HPJ.out HPL.out HL.out, XT.out⟩
def cutn (keep : Int) (n : Nat) : Nat := if keep < 0 then 0 else if n < keep.toNat then n else keep.toNat
def DS.write (s : DS) (k : Int) (b : List Int) : DS × Int :=
  if s.ready k ≠ 0 then (s, s.ready k) else if b.length ≠ s.byt then (s, 1)
  else if s.left ≤ 0 then (⟨s.sec, s.byt, put s.all k b b.length, s.down, s.left, s.keep, s.wr + 1⟩, 0)
  else if s.left = 1 then (⟨s.sec, s.byt, put s.all k b (cutn s.keep b.length), true, 0, s.keep, s.wr + 1⟩, 180)
  else (⟨s.sec, s.byt, put s.all k b b.length, s.down, s.left - 1, s.keep, s.wr + 1⟩, 0)
theorem ready_zero {s : DS} {k : Int} (h : s.ready k = 0) : s.down = false ∧ 0 ≤ k ∧ k < s.sec := by
  unfold DS.ready at h
  cases hd : s.down with
  | true => rw [hd] at h; simp at h
  | false =>
    rw [hd, if_neg (by simp)] at h
    by_cases hk : k < 0 ∨ (s.sec : Int) ≤ k
    · rw [if_pos hk] at h; cases h
    · exact ⟨rfl, by omega, by omega⟩
theorem write_c {M : Nat → Prop} {w : World} {g m : Nat} {s : DS} (h : IsDisk M w g m s) (k : Int) (hMb : ∀ k, M k → k < w.heap.size) (A : Option Addr) (c : Nat) (b : List Int) (hc : b.length ≤ c) (hV : Ever (fun k => k = g ∨ k = m) w (fun W => Kd.C (Kd.int .u8) W A b.length b)) (hw : s.wr ≤ 1000000000000) (hlb : s.left ≤ 9223372036854775807) :
    Calls Try.prog 11 #[.pointer (some ⟨g, 0, none⟩), .int .i64 k, .slice A b.length c] w fun e w' => e = .returned (.int .i64 (s.write k b).2) ∧ IsDisk M w' g m (s.write k b).1 ∧ Ext (fun k => k = g ∨ k = m) w w' := by
  unfold DS.write
  by_cases hr : s.ready k ≠ 0
  · rw [if_pos hr]
    exact (write_no h k _ A b.length c rfl hr).mono (fun e w' hh => by obtain ⟨h1, rfl⟩ := hh; exact ⟨h1, h, Ext.refl _ _⟩)
  rw [if_neg hr]
  obtain ⟨hd, h0, h1⟩ := ready_zero (Classical.byContradiction (fun a => hr a))
  obtain ⟨sec, byt, all, down, left, keep, wr⟩ := s
  simp only at hd hw hlb
  subst hd
  by_cases hl : b.length ≠ byt
  · rw [if_pos hl]
    exact (write_len h k h0 h1 hMb A c b hc hV hl).mono (fun e w' hh => by obtain ⟨h1, h2⟩ := hh; exact ⟨h1, h.below h2, Ext.of_below h2⟩)
  rw [if_neg hl]
  have hl' : b.length = byt := by omega
  by_cases h2 : left ≤ 0
  · rw [if_pos h2]; exact write_2 h k h0 h1 hMb A c b hc hV hl' hw h2
  rw [if_neg h2]
  by_cases h3 : left = 1
  · rw [if_pos h3]
    subst h3
    unfold cutn
    by_cases h4 : keep < 0
    · rw [if_pos h4]; exact write_4a h k h0 h1 hMb A c b hc hV hl' hw h4
    · rw [if_neg h4]
      obtain ⟨kn, rfl⟩ := Int.eq_ofNat_of_zero_le (show 0 ≤ keep by omega)
      rw [Int.toNat_natCast]
      by_cases h5 : b.length < kn
      · rw [if_pos h5]; exact write_4c h k h0 h1 hMb A c b hc hV hl' hw h5
      · rw [if_neg h5]; exact write_4b h k h0 h1 hMb A c b hc hV hl' hw (by omega)
  · rw [if_neg h3]; exact write_3 h k h0 h1 hMb A c b hc hV hl' hw (by omega) hlb
theorem IsDisk.set {M : Nat → Prop} {w W : World} {g m : Nat} {s s' : DS} (h : IsDisk M w g m s) (hX : Ext (fun k => k = g) w W) (hb : W.heap[g]? = some (.cells (dcells m s') 52 (0, 0))) (e1 : s'.sec = s.sec) (e2 : s'.byt = s.byt) (e3 : s'.all = s.all) (e4 : s'.wr = s.wr) : IsDisk M W g m s' := by
  obtain ⟨f, n, h1, h2, h3⟩ := h.mp
  refine ⟨hb, ⟨f, n, h1.ext hX (fun e => h.ne e.symm), by rw [e4]; exact h2, ?_⟩, h.ne, h.mg, h.mm, by rw [e1, e2]; exact h.bd⟩
  rw [e2, e3]
  exact h3.step (hX.sub (fun k e => by rw [show k = g from e]; exact h.mg))
def DS.arm (s : DS) (n keep : Int) : DS := ⟨s.sec, s.byt, s.all, s.down, if n < 0 then 0 else n, keep, s.wr⟩
def DS.on (s : DS) : DS := ⟨s.sec, s.byt, s.all, false, 0, s.keep, s.wr⟩
set_option maxHeartbeats 4000000 in
set_option maxRecDepth 100000 in
theorem on_c {M : Nat → Prop} {w : World} {g m : Nat} {sec byt : Nat} {all : Int → List Int} {left keep wr : Int} {down : Bool} (h : IsDisk M w g m ⟨sec, byt, all, down, left, keep, wr⟩)  :
    Calls Try.prog 15 #[.pointer (some ⟨g, 0, none⟩)] w fun e w' => e = .returned (.tuple #[]) ∧ IsDisk M w' g m ⟨sec, byt, all, false, 0, keep, wr⟩ ∧ Ext (fun k => k = g) w w' := by
  have BK_g : Aside0 (w.heap[g]? = some (.cells #[.int .i64 (sec : Int), .int .i64 (byt : Int), .map (some m), .bool down, .int .i64 (left), .int .i64 (keep), .int .i64 (wr)] 52 (0, 0))) := ⟨h.blk⟩
  have H := Aside0.mk h
  have F_g : Aside0 (∀ k, k = g → (fun k => k = g) k ∨ w.heap.size ≤ k) := ⟨fold rfl⟩
  clear h
  have XT : Aside0 (Ext (fun k => k = g) w w) := ⟨Ext.refl _ _⟩
  have lc1_0 : w.cell? ⟨g, 0, none⟩ = some (.int .i64 (sec : Int)) := (blk_cell BK_g.out 0).trans rfl
  have lf1_0 := blk_frozen BK_g.out 0
  have lc1_1 : w.cell? ⟨g, 1, none⟩ = some (.int .i64 (byt : Int)) := (blk_cell BK_g.out 1).trans rfl
  have lf1_1 := blk_frozen BK_g.out 1
  have lc1_2 : w.cell? ⟨g, 2, none⟩ = some (.map (some m)) := (blk_cell BK_g.out 2).trans rfl
  have lf1_2 := blk_frozen BK_g.out 2
  have lc1_3 : w.cell? ⟨g, 3, none⟩ = some (.bool down) := (blk_cell BK_g.out 3).trans rfl
  have lf1_3 := blk_frozen BK_g.out 3
  have lc1_4 : w.cell? ⟨g, 4, none⟩ = some (.int .i64 (left)) := (blk_cell BK_g.out 4).trans rfl
  have lf1_4 := blk_frozen BK_g.out 4
  have lc1_5 : w.cell? ⟨g, 5, none⟩ = some (.int .i64 (keep)) := (blk_cell BK_g.out 5).trans rfl
  have lf1_5 := blk_frozen BK_g.out 5
  have lc1_6 : w.cell? ⟨g, 6, none⟩ = some (.int .i64 (wr)) := (blk_cell BK_g.out 6).trans rfl
  have lf1_6 := blk_frozen BK_g.out 6
  go_enter Try.func15, Try.ntmps15
  go_wp2_with (first | ((with_reducible refine gate_store (p := 7) rfl ?_); refine store_event (w1 := ?_) rfl (p := 7) rfl rfl ?hr ?_; rotate_left; (case hr => go_simp; rfl); intro w1 hw_; obtain ⟨hput, HEc⟩ := put1 (cs' := #[.int .i64 (sec : Int), .int .i64 (byt : Int), .map (some m), .bool false, .int .i64 (left), .int .i64 (keep), .int .i64 (wr)]) hw_ BK_g.out rfl; clear hw_; clear lc1_0 lf1_0 lc1_1 lf1_1 lc1_2 lf1_2 lc1_3 lf1_3 lc1_4 lf1_4 lc1_5 lf1_5 lc1_6 lf1_6; have XTn : Aside0 (Ext (fun k => k = g) w w1) := ⟨XT.out.step HEc (F_g.out)⟩; clear XT; have XT := XTn; clear XTn; clear BK_g; have BK_g : Aside0 (w1.heap[g]? = some (.cells #[.int .i64 (sec : Int), .int .i64 (byt : Int), .map (some m), .bool false, .int .i64 (left), .int .i64 (keep), .int .i64 (wr)] 52 (0, 0))) := ⟨hput⟩; clear hput HEc; have lc2_0 : w1.cell? ⟨g, 0, none⟩ = some (.int .i64 (sec : Int)) := (blk_cell BK_g.out 0).trans rfl; have lf2_0 := blk_frozen BK_g.out 0; have lc2_1 : w1.cell? ⟨g, 1, none⟩ = some (.int .i64 (byt : Int)) := (blk_cell BK_g.out 1).trans rfl; have lf2_1 := blk_frozen BK_g.out 1; have lc2_2 : w1.cell? ⟨g, 2, none⟩ = some (.map (some m)) := (blk_cell BK_g.out 2).trans rfl; have lf2_2 := blk_frozen BK_g.out 2; have lc2_3 : w1.cell? ⟨g, 3, none⟩ = some (.bool false) := (blk_cell BK_g.out 3).trans rfl; have lf2_3 := blk_frozen BK_g.out 3; have lc2_4 : w1.cell? ⟨g, 4, none⟩ = some (.int .i64 (left)) := (blk_cell BK_g.out 4).trans rfl; have lf2_4 := blk_frozen BK_g.out 4; have lc2_5 : w1.cell? ⟨g, 5, none⟩ = some (.int .i64 (keep)) := (blk_cell BK_g.out 5).trans rfl; have lf2_5 := blk_frozen BK_g.out 5; have lc2_6 : w1.cell? ⟨g, 6, none⟩ = some (.int .i64 (wr)) := (blk_cell BK_g.out 6).trans rfl; have lf2_6 := blk_frozen BK_g.out 6) | ((with_reducible refine gate_store (p := 9) rfl ?_); refine store_event (w1 := ?_) rfl (p := 9) rfl rfl ?hr ?_; rotate_left; (case hr => go_simp; rfl); intro w2 hw_; obtain ⟨hput, HEc⟩ := put1 (cs' := #[.int .i64 (sec : Int), .int .i64 (byt : Int), .map (some m), .bool false, .int .i64 0, .int .i64 (keep), .int .i64 (wr)]) hw_ BK_g.out rfl; clear hw_; clear lc2_0 lf2_0 lc2_1 lf2_1 lc2_2 lf2_2 lc2_3 lf2_3 lc2_4 lf2_4 lc2_5 lf2_5 lc2_6 lf2_6; have XTn : Aside0 (Ext (fun k => k = g) w w2) := ⟨XT.out.step HEc (F_g.out)⟩; clear XT; have XT := XTn; clear XTn; clear BK_g; have BK_g : Aside0 (w2.heap[g]? = some (.cells #[.int .i64 (sec : Int), .int .i64 (byt : Int), .map (some m), .bool false, .int .i64 0, .int .i64 (keep), .int .i64 (wr)] 52 (0, 0))) := ⟨hput⟩; clear hput HEc; have lc3_0 : w2.cell? ⟨g, 0, none⟩ = some (.int .i64 (sec : Int)) := (blk_cell BK_g.out 0).trans rfl; have lf3_0 := blk_frozen BK_g.out 0; have lc3_1 : w2.cell? ⟨g, 1, none⟩ = some (.int .i64 (byt : Int)) := (blk_cell BK_g.out 1).trans rfl; have lf3_1 := blk_frozen BK_g.out 1; have lc3_2 : w2.cell? ⟨g, 2, none⟩ = some (.map (some m)) := (blk_cell BK_g.out 2).trans rfl; have lf3_2 := blk_frozen BK_g.out 2; have lc3_3 : w2.cell? ⟨g, 3, none⟩ = some (.bool false) := (blk_cell BK_g.out 3).trans rfl; have lf3_3 := blk_frozen BK_g.out 3; have lc3_4 : w2.cell? ⟨g, 4, none⟩ = some (.int .i64 0) := (blk_cell BK_g.out 4).trans rfl; have lf3_4 := blk_frozen BK_g.out 4; have lc3_5 : w2.cell? ⟨g, 5, none⟩ = some (.int .i64 (keep)) := (blk_cell BK_g.out 5).trans rfl; have lf3_5 := blk_frozen BK_g.out 5; have lc3_6 : w2.cell? ⟨g, 6, none⟩ = some (.int .i64 (wr)) := (blk_cell BK_g.out 6).trans rfl; have lf3_6 := blk_frozen BK_g.out 6))
  go_end0
  exact ⟨rfl, H.out.set XT.out BK_g.out rfl rfl rfl rfl, XT.out⟩
set_option maxHeartbeats 4000000 in
set_option maxRecDepth 100000 in
theorem arm_1 {M : Nat → Prop} {w : World} {g m : Nat} {sec byt : Nat} {all : Int → List Int} {left keep wr : Int} {down : Bool} (h : IsDisk M w g m ⟨sec, byt, all, down, left, keep, wr⟩) (n kp : Int) (hn : n < 0) :
    Calls Try.prog 12 #[.pointer (some ⟨g, 0, none⟩), .int .i64 n, .int .i64 kp] w fun e w' => e = .returned (.tuple #[]) ∧ IsDisk M w' g m ⟨sec, byt, all, down, 0, kp, wr⟩ ∧ Ext (fun k => k = g) w w' := by
  have BK_g : Aside0 (w.heap[g]? = some (.cells #[.int .i64 (sec : Int), .int .i64 (byt : Int), .map (some m), .bool down, .int .i64 (left), .int .i64 (keep), .int .i64 (wr)] 52 (0, 0))) := ⟨h.blk⟩
  have H := Aside0.mk h
  have F_g : Aside0 (∀ k, k = g → (fun k => k = g) k ∨ w.heap.size ≤ k) := ⟨fold rfl⟩
  have t1 : decide (n < 0) = true := decide_eq_true hn
  clear h
  have XT : Aside0 (Ext (fun k => k = g) w w) := ⟨Ext.refl _ _⟩
  have lc1_0 : w.cell? ⟨g, 0, none⟩ = some (.int .i64 (sec : Int)) := (blk_cell BK_g.out 0).trans rfl
  have lf1_0 := blk_frozen BK_g.out 0
  have lc1_1 : w.cell? ⟨g, 1, none⟩ = some (.int .i64 (byt : Int)) := (blk_cell BK_g.out 1).trans rfl
  have lf1_1 := blk_frozen BK_g.out 1
  have lc1_2 : w.cell? ⟨g, 2, none⟩ = some (.map (some m)) := (blk_cell BK_g.out 2).trans rfl
  have lf1_2 := blk_frozen BK_g.out 2
  have lc1_3 : w.cell? ⟨g, 3, none⟩ = some (.bool down) := (blk_cell BK_g.out 3).trans rfl
  have lf1_3 := blk_frozen BK_g.out 3
  have lc1_4 : w.cell? ⟨g, 4, none⟩ = some (.int .i64 (left)) := (blk_cell BK_g.out 4).trans rfl
  have lf1_4 := blk_frozen BK_g.out 4
  have lc1_5 : w.cell? ⟨g, 5, none⟩ = some (.int .i64 (keep)) := (blk_cell BK_g.out 5).trans rfl
  have lf1_5 := blk_frozen BK_g.out 5
  have lc1_6 : w.cell? ⟨g, 6, none⟩ = some (.int .i64 (wr)) := (blk_cell BK_g.out 6).trans rfl
  have lf1_6 := blk_frozen BK_g.out 6
  go_enter Try.func12, Try.ntmps12
  go_wp2_with (first | ((with_reducible refine gate_store (p := 14) rfl ?_); refine store_event (w1 := ?_) rfl (p := 14) rfl rfl ?hr ?_; rotate_left; (case hr => go_simp; rfl); intro w1 hw_; obtain ⟨hput, HEc⟩ := put1 (cs' := #[.int .i64 (sec : Int), .int .i64 (byt : Int), .map (some m), .bool down, .int .i64 0, .int .i64 (keep), .int .i64 (wr)]) hw_ BK_g.out rfl; clear hw_; clear lc1_0 lf1_0 lc1_1 lf1_1 lc1_2 lf1_2 lc1_3 lf1_3 lc1_4 lf1_4 lc1_5 lf1_5 lc1_6 lf1_6; have XTn : Aside0 (Ext (fun k => k = g) w w1) := ⟨XT.out.step HEc (F_g.out)⟩; clear XT; have XT := XTn; clear XTn; clear BK_g; have BK_g : Aside0 (w1.heap[g]? = some (.cells #[.int .i64 (sec : Int), .int .i64 (byt : Int), .map (some m), .bool down, .int .i64 0, .int .i64 (keep), .int .i64 (wr)] 52 (0, 0))) := ⟨hput⟩; clear hput HEc; have lc2_0 : w1.cell? ⟨g, 0, none⟩ = some (.int .i64 (sec : Int)) := (blk_cell BK_g.out 0).trans rfl; have lf2_0 := blk_frozen BK_g.out 0; have lc2_1 : w1.cell? ⟨g, 1, none⟩ = some (.int .i64 (byt : Int)) := (blk_cell BK_g.out 1).trans rfl; have lf2_1 := blk_frozen BK_g.out 1; have lc2_2 : w1.cell? ⟨g, 2, none⟩ = some (.map (some m)) := (blk_cell BK_g.out 2).trans rfl; have lf2_2 := blk_frozen BK_g.out 2; have lc2_3 : w1.cell? ⟨g, 3, none⟩ = some (.bool down) := (blk_cell BK_g.out 3).trans rfl; have lf2_3 := blk_frozen BK_g.out 3; have lc2_4 : w1.cell? ⟨g, 4, none⟩ = some (.int .i64 0) := (blk_cell BK_g.out 4).trans rfl; have lf2_4 := blk_frozen BK_g.out 4; have lc2_5 : w1.cell? ⟨g, 5, none⟩ = some (.int .i64 (keep)) := (blk_cell BK_g.out 5).trans rfl; have lf2_5 := blk_frozen BK_g.out 5; have lc2_6 : w1.cell? ⟨g, 6, none⟩ = some (.int .i64 (wr)) := (blk_cell BK_g.out 6).trans rfl; have lf2_6 := blk_frozen BK_g.out 6) | ((with_reducible refine gate_store (p := 16) rfl ?_); refine store_event (w1 := ?_) rfl (p := 16) rfl rfl ?hr ?_; rotate_left; (case hr => go_simp; rfl); intro w2 hw_; obtain ⟨hput, HEc⟩ := put1 (cs' := #[.int .i64 (sec : Int), .int .i64 (byt : Int), .map (some m), .bool down, .int .i64 0, .int .i64 kp, .int .i64 (wr)]) hw_ BK_g.out rfl; clear hw_; clear lc2_0 lf2_0 lc2_1 lf2_1 lc2_2 lf2_2 lc2_3 lf2_3 lc2_4 lf2_4 lc2_5 lf2_5 lc2_6 lf2_6; have XTn : Aside0 (Ext (fun k => k = g) w w2) := ⟨XT.out.step HEc (F_g.out)⟩; clear XT; have XT := XTn; clear XTn; clear BK_g; have BK_g : Aside0 (w2.heap[g]? = some (.cells #[.int .i64 (sec : Int), .int .i64 (byt : Int), .map (some m), .bool down, .int .i64 0, .int .i64 kp, .int .i64 (wr)] 52 (0, 0))) := ⟨hput⟩; clear hput HEc; have lc3_0 : w2.cell? ⟨g, 0, none⟩ = some (.int .i64 (sec : Int)) := (blk_cell BK_g.out 0).trans rfl; have lf3_0 := blk_frozen BK_g.out 0; have lc3_1 : w2.cell? ⟨g, 1, none⟩ = some (.int .i64 (byt : Int)) := (blk_cell BK_g.out 1).trans rfl; have lf3_1 := blk_frozen BK_g.out 1; have lc3_2 : w2.cell? ⟨g, 2, none⟩ = some (.map (some m)) := (blk_cell BK_g.out 2).trans rfl; have lf3_2 := blk_frozen BK_g.out 2; have lc3_3 : w2.cell? ⟨g, 3, none⟩ = some (.bool down) := (blk_cell BK_g.out 3).trans rfl; have lf3_3 := blk_frozen BK_g.out 3; have lc3_4 : w2.cell? ⟨g, 4, none⟩ = some (.int .i64 0) := (blk_cell BK_g.out 4).trans rfl; have lf3_4 := blk_frozen BK_g.out 4; have lc3_5 : w2.cell? ⟨g, 5, none⟩ = some (.int .i64 kp) := (blk_cell BK_g.out 5).trans rfl; have lf3_5 := blk_frozen BK_g.out 5; have lc3_6 : w2.cell? ⟨g, 6, none⟩ = some (.int .i64 (wr)) := (blk_cell BK_g.out 6).trans rfl; have lf3_6 := blk_frozen BK_g.out 6))
  go_end0
  exact ⟨rfl, H.out.set XT.out BK_g.out rfl rfl rfl rfl, XT.out⟩
set_option maxHeartbeats 4000000 in
set_option maxRecDepth 100000 in
theorem arm_2 {M : Nat → Prop} {w : World} {g m : Nat} {sec byt : Nat} {all : Int → List Int} {left keep wr : Int} {down : Bool} (h : IsDisk M w g m ⟨sec, byt, all, down, left, keep, wr⟩) (n kp : Int) (hn : ¬ n < 0) :
    Calls Try.prog 12 #[.pointer (some ⟨g, 0, none⟩), .int .i64 n, .int .i64 kp] w fun e w' => e = .returned (.tuple #[]) ∧ IsDisk M w' g m ⟨sec, byt, all, down, n, kp, wr⟩ ∧ Ext (fun k => k = g) w w' := by
  have BK_g : Aside0 (w.heap[g]? = some (.cells #[.int .i64 (sec : Int), .int .i64 (byt : Int), .map (some m), .bool down, .int .i64 (left), .int .i64 (keep), .int .i64 (wr)] 52 (0, 0))) := ⟨h.blk⟩
  have H := Aside0.mk h
  have F_g : Aside0 (∀ k, k = g → (fun k => k = g) k ∨ w.heap.size ≤ k) := ⟨fold rfl⟩
  have t1 : decide (n < 0) = false := decide_eq_false hn
  clear h
  have XT : Aside0 (Ext (fun k => k = g) w w) := ⟨Ext.refl _ _⟩
  have lc1_0 : w.cell? ⟨g, 0, none⟩ = some (.int .i64 (sec : Int)) := (blk_cell BK_g.out 0).trans rfl
  have lf1_0 := blk_frozen BK_g.out 0
  have lc1_1 : w.cell? ⟨g, 1, none⟩ = some (.int .i64 (byt : Int)) := (blk_cell BK_g.out 1).trans rfl
  have lf1_1 := blk_frozen BK_g.out 1
  have lc1_2 : w.cell? ⟨g, 2, none⟩ = some (.map (some m)) := (blk_cell BK_g.out 2).trans rfl
  have lf1_2 := blk_frozen BK_g.out 2
  have lc1_3 : w.cell? ⟨g, 3, none⟩ = some (.bool down) := (blk_cell BK_g.out 3).trans rfl
  have lf1_3 := blk_frozen BK_g.out 3
  have lc1_4 : w.cell? ⟨g, 4, none⟩ = some (.int .i64 (left)) := (blk_cell BK_g.out 4).trans rfl
  have lf1_4 := blk_frozen BK_g.out 4
  have lc1_5 : w.cell? ⟨g, 5, none⟩ = some (.int .i64 (keep)) := (blk_cell BK_g.out 5).trans rfl
  have lf1_5 := blk_frozen BK_g.out 5
  have lc1_6 : w.cell? ⟨g, 6, none⟩ = some (.int .i64 (wr)) := (blk_cell BK_g.out 6).trans rfl
  have lf1_6 := blk_frozen BK_g.out 6
  go_enter Try.func12, Try.ntmps12
  go_wp2_with (first | ((with_reducible refine gate_store (p := 14) rfl ?_); refine store_event (w1 := ?_) rfl (p := 14) rfl rfl ?hr ?_; rotate_left; (case hr => go_simp; rfl); intro w1 hw_; obtain ⟨hput, HEc⟩ := put1 (cs' := #[.int .i64 (sec : Int), .int .i64 (byt : Int), .map (some m), .bool down, .int .i64 n, .int .i64 (keep), .int .i64 (wr)]) hw_ BK_g.out rfl; clear hw_; clear lc1_0 lf1_0 lc1_1 lf1_1 lc1_2 lf1_2 lc1_3 lf1_3 lc1_4 lf1_4 lc1_5 lf1_5 lc1_6 lf1_6; have XTn : Aside0 (Ext (fun k => k = g) w w1) := ⟨XT.out.step HEc (F_g.out)⟩; clear XT; have XT := XTn; clear XTn; clear BK_g; have BK_g : Aside0 (w1.heap[g]? = some (.cells #[.int .i64 (sec : Int), .int .i64 (byt : Int), .map (some m), .bool down, .int .i64 n, .int .i64 (keep), .int .i64 (wr)] 52 (0, 0))) := ⟨hput⟩; clear hput HEc; have lc2_0 : w1.cell? ⟨g, 0, none⟩ = some (.int .i64 (sec : Int)) := (blk_cell BK_g.out 0).trans rfl; have lf2_0 := blk_frozen BK_g.out 0; have lc2_1 : w1.cell? ⟨g, 1, none⟩ = some (.int .i64 (byt : Int)) := (blk_cell BK_g.out 1).trans rfl; have lf2_1 := blk_frozen BK_g.out 1; have lc2_2 : w1.cell? ⟨g, 2, none⟩ = some (.map (some m)) := (blk_cell BK_g.out 2).trans rfl; have lf2_2 := blk_frozen BK_g.out 2; have lc2_3 : w1.cell? ⟨g, 3, none⟩ = some (.bool down) := (blk_cell BK_g.out 3).trans rfl; have lf2_3 := blk_frozen BK_g.out 3; have lc2_4 : w1.cell? ⟨g, 4, none⟩ = some (.int .i64 n) := (blk_cell BK_g.out 4).trans rfl; have lf2_4 := blk_frozen BK_g.out 4; have lc2_5 : w1.cell? ⟨g, 5, none⟩ = some (.int .i64 (keep)) := (blk_cell BK_g.out 5).trans rfl; have lf2_5 := blk_frozen BK_g.out 5; have lc2_6 : w1.cell? ⟨g, 6, none⟩ = some (.int .i64 (wr)) := (blk_cell BK_g.out 6).trans rfl; have lf2_6 := blk_frozen BK_g.out 6) | ((with_reducible refine gate_store (p := 16) rfl ?_); refine store_event (w1 := ?_) rfl (p := 16) rfl rfl ?hr ?_; rotate_left; (case hr => go_simp; rfl); intro w2 hw_; obtain ⟨hput, HEc⟩ := put1 (cs' := #[.int .i64 (sec : Int), .int .i64 (byt : Int), .map (some m), .bool down, .int .i64 n, .int .i64 kp, .int .i64 (wr)]) hw_ BK_g.out rfl; clear hw_; clear lc2_0 lf2_0 lc2_1 lf2_1 lc2_2 lf2_2 lc2_3 lf2_3 lc2_4 lf2_4 lc2_5 lf2_5 lc2_6 lf2_6; have XTn : Aside0 (Ext (fun k => k = g) w w2) := ⟨XT.out.step HEc (F_g.out)⟩; clear XT; have XT := XTn; clear XTn; clear BK_g; have BK_g : Aside0 (w2.heap[g]? = some (.cells #[.int .i64 (sec : Int), .int .i64 (byt : Int), .map (some m), .bool down, .int .i64 n, .int .i64 kp, .int .i64 (wr)] 52 (0, 0))) := ⟨hput⟩; clear hput HEc; have lc3_0 : w2.cell? ⟨g, 0, none⟩ = some (.int .i64 (sec : Int)) := (blk_cell BK_g.out 0).trans rfl; have lf3_0 := blk_frozen BK_g.out 0; have lc3_1 : w2.cell? ⟨g, 1, none⟩ = some (.int .i64 (byt : Int)) := (blk_cell BK_g.out 1).trans rfl; have lf3_1 := blk_frozen BK_g.out 1; have lc3_2 : w2.cell? ⟨g, 2, none⟩ = some (.map (some m)) := (blk_cell BK_g.out 2).trans rfl; have lf3_2 := blk_frozen BK_g.out 2; have lc3_3 : w2.cell? ⟨g, 3, none⟩ = some (.bool down) := (blk_cell BK_g.out 3).trans rfl; have lf3_3 := blk_frozen BK_g.out 3; have lc3_4 : w2.cell? ⟨g, 4, none⟩ = some (.int .i64 n) := (blk_cell BK_g.out 4).trans rfl; have lf3_4 := blk_frozen BK_g.out 4; have lc3_5 : w2.cell? ⟨g, 5, none⟩ = some (.int .i64 kp) := (blk_cell BK_g.out 5).trans rfl; have lf3_5 := blk_frozen BK_g.out 5; have lc3_6 : w2.cell? ⟨g, 6, none⟩ = some (.int .i64 (wr)) := (blk_cell BK_g.out 6).trans rfl; have lf3_6 := blk_frozen BK_g.out 6))
  go_end0
  exact ⟨rfl, H.out.set XT.out BK_g.out rfl rfl rfl rfl, XT.out⟩
theorem on_s {M : Nat → Prop} {w : World} {g m : Nat} {s : DS} (h : IsDisk M w g m s) : Calls Try.prog 15 #[.pointer (some ⟨g, 0, none⟩)] w fun e w' => e = .returned (.tuple #[]) ∧ IsDisk M w' g m s.on ∧ Ext (fun k => k = g) w w' := by
  obtain ⟨sec, byt, all, down, left, keep, wr⟩ := s
  exact on_c h
theorem arm_s {M : Nat → Prop} {w : World} {g m : Nat} {s : DS} (h : IsDisk M w g m s) (n kp : Int) : Calls Try.prog 12 #[.pointer (some ⟨g, 0, none⟩), .int .i64 n, .int .i64 kp] w fun e w' => e = .returned (.tuple #[]) ∧ IsDisk M w' g m (s.arm n kp) ∧ Ext (fun k => k = g) w w' := by
  obtain ⟨sec, byt, all, down, left, keep, wr⟩ := s
  unfold DS.arm
  by_cases hn : n < 0
  · rw [if_pos hn]; exact arm_1 h n kp hn
  · rw [if_neg hn]; exact arm_2 h n kp hn
set_option maxHeartbeats 4000000 in
set_option maxRecDepth 100000 in
theorem on_nil (w : World) : Calls Try.prog 15 #[.pointer none] w fun e w' => e = .returned (.tuple #[]) ∧ w = w' := by
  go_enter Try.func15, Try.ntmps15
  go_wp2
  go_end0
  exact ⟨rfl, rfl⟩
set_option maxHeartbeats 4000000 in
set_option maxRecDepth 100000 in
theorem arm_nil (n kp : Int) (w : World) : Calls Try.prog 12 #[.pointer none, .int .i64 n, .int .i64 kp] w fun e w' => e = .returned (.tuple #[]) ∧ w = w' := by
  go_enter Try.func12, Try.ntmps12
  go_wp2
  go_end0
  exact ⟨rfl, rfl⟩
set_option maxHeartbeats 4000000 in
set_option maxRecDepth 100000 in
theorem up_c {M : Nat → Prop} {w : World} {g m : Nat} {sec byt : Nat} {all : Int → List Int} {left keep wr : Int} {down : Bool} (h : IsDisk M w g m ⟨sec, byt, all, down, left, keep, wr⟩)  :
    Calls Try.prog 14 #[.pointer (some ⟨g, 0, none⟩)] w fun e w' => e = .returned (.bool (!down)) ∧ w = w' := by
  have BK_g : Aside0 (w.heap[g]? = some (.cells #[.int .i64 (sec : Int), .int .i64 (byt : Int), .map (some m), .bool down, .int .i64 (left), .int .i64 (keep), .int .i64 (wr)] 52 (0, 0))) := ⟨h.blk⟩
  clear h
  have lc1_0 : w.cell? ⟨g, 0, none⟩ = some (.int .i64 (sec : Int)) := (blk_cell BK_g.out 0).trans rfl
  have lf1_0 := blk_frozen BK_g.out 0
  have lc1_1 : w.cell? ⟨g, 1, none⟩ = some (.int .i64 (byt : Int)) := (blk_cell BK_g.out 1).trans rfl
  have lf1_1 := blk_frozen BK_g.out 1
  have lc1_2 : w.cell? ⟨g, 2, none⟩ = some (.map (some m)) := (blk_cell BK_g.out 2).trans rfl
  have lf1_2 := blk_frozen BK_g.out 2
  have lc1_3 : w.cell? ⟨g, 3, none⟩ = some (.bool down) := (blk_cell BK_g.out 3).trans rfl
  have lf1_3 := blk_frozen BK_g.out 3
  have lc1_4 : w.cell? ⟨g, 4, none⟩ = some (.int .i64 (left)) := (blk_cell BK_g.out 4).trans rfl
  have lf1_4 := blk_frozen BK_g.out 4
  have lc1_5 : w.cell? ⟨g, 5, none⟩ = some (.int .i64 (keep)) := (blk_cell BK_g.out 5).trans rfl
  have lf1_5 := blk_frozen BK_g.out 5
  have lc1_6 : w.cell? ⟨g, 6, none⟩ = some (.int .i64 (wr)) := (blk_cell BK_g.out 6).trans rfl
  have lf1_6 := blk_frozen BK_g.out 6
  go_enter Try.func14, Try.ntmps14
  go_wp2
  go_ret
  exact ⟨rfl, rfl⟩
set_option maxHeartbeats 4000000 in
set_option maxRecDepth 100000 in
theorem writes_c {M : Nat → Prop} {w : World} {g m : Nat} {sec byt : Nat} {all : Int → List Int} {left keep wr : Int} {down : Bool} (h : IsDisk M w g m ⟨sec, byt, all, down, left, keep, wr⟩)  :
    Calls Try.prog 17 #[.pointer (some ⟨g, 0, none⟩)] w fun e w' => e = .returned (.int .i64 wr) ∧ w = w' := by
  have BK_g : Aside0 (w.heap[g]? = some (.cells #[.int .i64 (sec : Int), .int .i64 (byt : Int), .map (some m), .bool down, .int .i64 (left), .int .i64 (keep), .int .i64 (wr)] 52 (0, 0))) := ⟨h.blk⟩
  clear h
  have lc1_0 : w.cell? ⟨g, 0, none⟩ = some (.int .i64 (sec : Int)) := (blk_cell BK_g.out 0).trans rfl
  have lf1_0 := blk_frozen BK_g.out 0
  have lc1_1 : w.cell? ⟨g, 1, none⟩ = some (.int .i64 (byt : Int)) := (blk_cell BK_g.out 1).trans rfl
  have lf1_1 := blk_frozen BK_g.out 1
  have lc1_2 : w.cell? ⟨g, 2, none⟩ = some (.map (some m)) := (blk_cell BK_g.out 2).trans rfl
  have lf1_2 := blk_frozen BK_g.out 2
  have lc1_3 : w.cell? ⟨g, 3, none⟩ = some (.bool down) := (blk_cell BK_g.out 3).trans rfl
  have lf1_3 := blk_frozen BK_g.out 3
  have lc1_4 : w.cell? ⟨g, 4, none⟩ = some (.int .i64 (left)) := (blk_cell BK_g.out 4).trans rfl
  have lf1_4 := blk_frozen BK_g.out 4
  have lc1_5 : w.cell? ⟨g, 5, none⟩ = some (.int .i64 (keep)) := (blk_cell BK_g.out 5).trans rfl
  have lf1_5 := blk_frozen BK_g.out 5
  have lc1_6 : w.cell? ⟨g, 6, none⟩ = some (.int .i64 (wr)) := (blk_cell BK_g.out 6).trans rfl
  have lf1_6 := blk_frozen BK_g.out 6
  go_enter Try.func17, Try.ntmps17
  go_wp2
  go_ret
  exact ⟨rfl, rfl⟩
set_option maxHeartbeats 4000000 in
set_option maxRecDepth 100000 in
theorem up_nil (w : World) : Calls Try.prog 14 #[.pointer none] w fun e w' => e = .returned (.bool false) ∧ w = w' := by
  go_enter Try.func14, Try.ntmps14
  go_wp2
  go_ret
  exact ⟨rfl, rfl⟩
set_option maxHeartbeats 4000000 in
set_option maxRecDepth 100000 in
theorem writes_nil (w : World) : Calls Try.prog 17 #[.pointer none] w fun e w' => e = .returned (.int .i64 0) ∧ w = w' := by
  go_enter Try.func17, Try.ntmps17
  go_wp2
  go_ret
  exact ⟨rfl, rfl⟩
set_option maxHeartbeats 4000000 in
set_option maxRecDepth 100000 in
theorem size_nil (w : World) : Calls Try.prog 18 #[.pointer none] w fun e w' => e = .returned (.tuple #[.int .i64 0, .int .i64 0]) ∧ w = w' := by
  go_enter Try.func18, Try.ntmps18
  go_wp2
  go_ret2
  exact ⟨rfl, rfl⟩
set_option maxHeartbeats 4000000 in
set_option maxRecDepth 100000 in
theorem size_c {M : Nat → Prop} {w : World} {g m : Nat} {sec byt : Nat} {all : Int → List Int} {left keep wr : Int} {down : Bool} (h : IsDisk M w g m ⟨sec, byt, all, down, left, keep, wr⟩)  :
    Calls Try.prog 18 #[.pointer (some ⟨g, 0, none⟩)] w fun e w' => e = .returned (.tuple #[.int .i64 sec, .int .i64 byt]) ∧ Drawn0 w w' := by
  have BK_g : Aside0 (w.heap[g]? = some (.cells #[.int .i64 (sec : Int), .int .i64 (byt : Int), .map (some m), .bool down, .int .i64 (left), .int .i64 (keep), .int .i64 (wr)] 52 (0, 0))) := ⟨h.blk⟩
  clear h
  have lc1_0 : w.cell? ⟨g, 0, none⟩ = some (.int .i64 (sec : Int)) := (blk_cell BK_g.out 0).trans rfl
  have lf1_0 := blk_frozen BK_g.out 0
  have lc1_1 : w.cell? ⟨g, 1, none⟩ = some (.int .i64 (byt : Int)) := (blk_cell BK_g.out 1).trans rfl
  have lf1_1 := blk_frozen BK_g.out 1
  have lc1_2 : w.cell? ⟨g, 2, none⟩ = some (.map (some m)) := (blk_cell BK_g.out 2).trans rfl
  have lf1_2 := blk_frozen BK_g.out 2
  have lc1_3 : w.cell? ⟨g, 3, none⟩ = some (.bool down) := (blk_cell BK_g.out 3).trans rfl
  have lf1_3 := blk_frozen BK_g.out 3
  have lc1_4 : w.cell? ⟨g, 4, none⟩ = some (.int .i64 (left)) := (blk_cell BK_g.out 4).trans rfl
  have lf1_4 := blk_frozen BK_g.out 4
  have lc1_5 : w.cell? ⟨g, 5, none⟩ = some (.int .i64 (keep)) := (blk_cell BK_g.out 5).trans rfl
  have lf1_5 := blk_frozen BK_g.out 5
  have lc1_6 : w.cell? ⟨g, 6, none⟩ = some (.int .i64 (wr)) := (blk_cell BK_g.out 6).trans rfl
  have lf1_6 := blk_frozen BK_g.out 6
  go_enter Try.func18, Try.ntmps18
  go_wp2
  go_quiet (fail)
  go_wp2
  go_ret2
  exact ⟨rfl, ⟨_, rfl⟩⟩
set_option maxHeartbeats 4000000 in
set_option maxRecDepth 100000 in
theorem new_no (a b : Int) (w : World) (h : a < 1 ∨ 4096 < a ∨ b < 16 ∨ 4096 < b) : Calls Try.prog 10 #[.int .i64 a, .int .i64 b] w fun e w' => e = .returned (.tuple #[.pointer none, .int .i64 1]) ∧ w = w' := by
  by_cases h1 : a < 1
  · have t1 : decide (a < 1) = true := decide_eq_true h1
    clear h h1
    go_enter Try.func10, Try.ntmps10
    go_wp2
    go_ret2
    exact ⟨rfl, rfl⟩
  · have t1 : decide (a < 1) = false := decide_eq_false h1
    by_cases h2 : 4096 < a
    · have t2 : decide (4096 < a) = true := decide_eq_true h2
      clear h h1 h2
      go_enter Try.func10, Try.ntmps10
      go_wp2
      go_ret2
      exact ⟨rfl, rfl⟩
    · have t2 : decide (4096 < a) = false := decide_eq_false h2
      by_cases h3 : b < 16
      · have t3 : decide (b < 16) = true := decide_eq_true h3
        clear h h1 h2 h3
        go_enter Try.func10, Try.ntmps10
        go_wp2
        go_ret2
        exact ⟨rfl, rfl⟩
      · have t3 : decide (b < 16) = false := decide_eq_false h3
        have t4 : decide (4096 < b) = true := decide_eq_true (by omega)
        clear h h1 h2 h3
        go_enter Try.func10, Try.ntmps10
        go_wp2
        go_ret2
        exact ⟨rfl, rfl⟩
set_option maxHeartbeats 4000000 in
set_option maxRecDepth 100000 in
theorem new_c (a b : Nat) (w : World) (h1 : 1 ≤ a) (h2 : a ≤ 4096) (h3 : 16 ≤ b) (h4 : b ≤ 4096) : Calls Try.prog 10 #[.int .i64 a, .int .i64 b] w fun e w' => ∃ g m, e = .returned (.tuple #[.pointer (some ⟨g, 0, none⟩), .int .i64 0]) ∧ w.heap.size ≤ g ∧ w.heap.size ≤ m ∧ Below w.heap.size w w' ∧ ∀ M : Nat → Prop, M g → M m → IsDisk M w' g m ⟨a, b, fun _ => zeros b, false, 0, 0, 0⟩ := by
  have t1 : decide ((a : Int) < 1) = false := decide_eq_false (by omega)
  have t2 : decide (4096 < (a : Int)) = false := decide_eq_false (by omega)
  have t3 : decide ((b : Int) < 16) = false := decide_eq_false (by omega)
  have t4 : decide (4096 < (b : Int)) = false := decide_eq_false (by omega)
  have s1 : decide (a < 1) = false := decide_eq_false (by omega)
  have s2 : decide (4096 < a) = false := decide_eq_false (by omega)
  have s3 : decide (b < 16) = false := decide_eq_false (by omega)
  have s4 : decide (4096 < b) = false := decide_eq_false (by omega)
  have hmm := @run_makeMap Try.prog
  have A2 := Aside0.mk h2
  have A4 := Aside0.mk h4
  clear h1 h2 h3 h4
  go_enter Try.func10, Try.ntmps10
  go_wp2
  go_ret2
  refine ⟨w.heap.size + 1, w.heap.size, rfl, by omega, Nat.le_refl _, below_alloc (below_alloc (Below.refl _ _) _) _, fun M hg hm => ⟨?_, ⟨fun _ => none, 0, ?_, Int.le_refl 0, fun k => ⟨by simp [zeros], .inl ⟨rfl, rfl⟩⟩⟩, by omega, hg, hm, A2.out, A4.out⟩⟩
  · exact new_blk (by simp)
  · exact (IsMap.new w).ext (Ext.none_ (below_alloc (Below.refl _ _) _)) (fun e => e)
theorem write_e {M : Nat → Prop} {w : World} {g m : Nat} {s s' : DS} (h : IsDisk M w g m s) (k : Int) (hMb : ∀ k, M k → k < w.heap.size) (A : Option Addr) (c : Nat) (b : List Int) {n : Nat} (hbn : b.length = n) (hc : b.length ≤ c) (hV : Ever (fun k => k = g ∨ k = m) w (fun W => Kd.C (Kd.int .u8) W A b.length b)) (hw : s.wr ≤ 1000000000000) (hlb : s.left ≤ 9223372036854775807) {v : Int} (hs : s.write k b = (s', v)) :
    Calls Try.prog 11 #[.pointer (some ⟨g, 0, none⟩), .int .i64 k, .slice A n c] w fun e w' => e = .returned (.int .i64 v) ∧ IsDisk M w' g m s' ∧ Ext (fun k => k = g ∨ k = m) w w' := by
  subst hbn
  have h1 := write_c h k hMb A c b hc hV hw hlb
  rw [hs] at h1
  exact h1
theorem IsDisk.more {gs : List Nat} {W W' : World} {g m r : Nat} {s : DS} (h : IsDisk (Ms gs) W g m s) (k : Below W.heap.size W W') (hr : W.heap.size ≤ r) : IsDisk (Ms (r :: gs)) W' g m s :=
  h.grow (M := Ms gs) (.of_below k) (Ms.new hr) Ms.old (k.block g h.lts.1) (k.block m h.lts.2)
/-- A row of the walk's own, as a Write reads it. -/
theorem rowV {W : World} {g m r n : Nat} {xs : List Int} (h : W.heap[r]? = some (.cells (xs.map (Value.int .u8)).toArray 5 (0, 0))) (hl : xs.length = n) (hn : n ≤ 4096) (h1 : r ≠ g) (h2 : r ≠ m) : Ever (fun k => k = g ∨ k = m) W (fun W => Kd.C (Kd.int .u8) W (some ⟨r, 0, none⟩) xs.length xs) :=
  Ever.ofRow (n := 0) h (by omega) (fun e => e.elim h1 h2)
theorem read_e {M : Nat → Prop} {w : World} {g m : Nat} {s : DS} (h : IsDisk M w g m s) (k : Int) (hr : s.ready k = 0) {n : Nat} (hn : s.byt = n) {xs : List Int} (hx : s.all k = xs) : Calls Try.prog 13 #[.pointer (some ⟨g, 0, none⟩), .int .i64 k] w fun e w' => ∃ r, e = .returned (.tuple #[.slice (some ⟨r, 0, none⟩) n n, .int .i64 0]) ∧ w.heap.size ≤ r ∧ w'.heap[r]? = some (.cells (xs.map (Value.int .u8)).toArray 5 (0, 0)) ∧ Below w.heap.size w w' := by
  subst hn; subst hx
  obtain ⟨h1, h2, h3⟩ := ready_zero hr
  obtain ⟨sec, byt, all, down, left, keep, wr⟩ := s
  simp only at h1
  subst h1
  exact read_ok h k h2 h3
theorem up_s {M : Nat → Prop} {w : World} {g m : Nat} {s : DS} (h : IsDisk M w g m s) {v : Bool} (hv : (!s.down) = v) : Calls Try.prog 14 #[.pointer (some ⟨g, 0, none⟩)] w fun e w' => e = .returned (.bool v) ∧ w = w' := by
  subst hv
  obtain ⟨sec, byt, all, down, left, keep, wr⟩ := s
  exact up_c h
theorem writes_s {M : Nat → Prop} {w : World} {g m : Nat} {s : DS} (h : IsDisk M w g m s) {v : Int} (hv : s.wr = v) : Calls Try.prog 17 #[.pointer (some ⟨g, 0, none⟩)] w fun e w' => e = .returned (.int .i64 v) ∧ w = w' := by
  subst hv
  obtain ⟨sec, byt, all, down, left, keep, wr⟩ := s
  exact writes_c h
theorem write_v {M : Nat → Prop} {w : World} {g m : Nat} {s : DS} (h : IsDisk M w g m s) (k : Int) (hMb : ∀ k, M k → k < w.heap.size) (A : Option Addr) (c : Nat) (b : List Int) {n : Nat} (hbn : b.length = n) (hc : b.length ≤ c) (hV : Ever (fun k => k = g ∨ k = m) w (fun W => Kd.C (Kd.int .u8) W A b.length b)) (hw : s.wr ≤ 1000000000000) (hlb : s.left ≤ 9223372036854775807) {v : Int} (hs : (s.write k b).2 = v) :
    Calls Try.prog 11 #[.pointer (some ⟨g, 0, none⟩), .int .i64 k, .slice A n c] w fun e w' => e = .returned (.int .i64 v) ∧ IsDisk M w' g m (s.write k b).1 ∧ Ext (fun k => k = g ∨ k = m) w w' :=
  write_e h k hMb A c b hbn hc hV hw hlb (Prod.ext rfl hs)
end Go.Proofs.Ytfkhffffokkheaa.Dsk

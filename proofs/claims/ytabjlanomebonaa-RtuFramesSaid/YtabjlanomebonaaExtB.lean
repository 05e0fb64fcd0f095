/- Contracts of functions that the laws of layer 1 reach: behind. -/
import Derived.Test.YtabjlanomebonaaExt
import Derived.Laws.CopyOwn
namespace Go.Proofs.Ytabjlanomebonaa.Ext
open Go.RowKit Go.Proofs.YtabjlanomebonaaW.PrintWords Go.Proofs.YtabjlanomebonaaW.PrintLast Go.Proofs.YtabjlanomebonaaW.PrintMore
set_option linter.unusedVariables false
set_option linter.unusedSimpArgs false
theorem info5 : (Try.prog.info? 5).map (fun i => (i.zero, i.size, i.bytes)) = some (some (.int .u8 0), 1, 1) := by kernel_rfl

/-- A row just made, its first cells what was copied. -/
theorem own_copied {W : World} {base g n cap : Nat} {e : TypeId} {k : IntKind} {xs : List Int} {cur : List Value} (hg : W.heap[g]? = some (.cells cur.toArray e (0, 0))) (hb : base ≤ g) (hl : xs.length = n) (hc : cur.length = cap) (hn : n ≤ cap) (hm : cap ≤ 9223372036854775807)
    (ht : cur.take n = nums k xs) : W.ownsRow base e 1 (.slice (some ⟨g, 0, none⟩) n cap) n (nums k xs) :=
  ⟨by simp [nums, hl], .inr ⟨g, cap, cur.toArray, rfl, hb, hg, hn, by simpa [maxLen] using hm, by simpa using hc, by simpa using ht⟩⟩

/-- copy of as many bytes as the source has, to the begin of a row that is known whole. -/
theorem wp_copy_row {P : Program} {w : World} {ops : Array Oper} {rest : List Oper} {o : Oper} {a : Act} {Q : Exit → Act → World → Prop} (hgd : o.guard = none) (d s : Operand) (dT sT : TypeId)
    (ho : o.op = .call { callee := .builtin .copy, args := #[d, s], argTypes := #[dT, sT] }) (e : TypeId) (hu : P.underlying dT = some (.slice e)) (hsz : (P.info? e).map (·.size) = some 1) (k : IntKind)
    (g : Nat) (A : Option Addr) (dCap sCap : Nat) (xs : List Int) (cur : List Value) (hd : a.eval d = .slice (some ⟨g, 0, none⟩) xs.length dCap) (hs : a.eval s = .slice A xs.length sCap)
    (hg : w.heap[g]? = some (.cells cur.toArray e (0, 0))) (hr : ReadsInt w k A xs.length xs) (hfit : xs.length ≤ cur.length)
    (w0 : World) (hb : Below w0.heap.size w0 w) (hBg : w0.heap.size ≤ g)
    (h : ∀ w', Aside0 (w'.heap[g]? = some (.cells (nums k xs ++ cur.drop xs.length).toArray e (0, 0))) → Aside0 (Below w0.heap.size w0 w') → wpList P ops Q rest (a.put o.dst (goInt xs.length)) w') :
    wpList P ops Q (o :: rest) a w := by
  refine wpList_copy_splice hgd d s dT sT ho e hu hsz (some ⟨g, 0, none⟩) A xs.length dCap xs.length sCap hd hs g 0 cur e hg (nums k xs) (by simp [nums]) (fun hp => ⟨rfl, ?_⟩) (by simpa [nums] using hfit)
    (by intro v hv; simp [nums] at hv; obtain ⟨x, _, rfl⟩ := hv; rfl) w0.heap.size w0 hb hBg (fun w' h1 h2 => ?_)
  · have hp' : 0 < xs.length := by simpa [nums] using hp
    obtain ⟨ad, rfl, _⟩ := ReadsInt.at_ hr 0 (by omega) (by omega)
    refine ⟨ad, rfl, fun j v hj => ?_⟩
    have hlt : j < xs.length := by have := (List.getElem?_eq_some_iff.1 hj).1; simpa [nums] using this
    obtain ⟨ad', e', hc⟩ := ReadsInt.at_ hr (j : Int) (by omega) (by omega)
    cases e'
    rw [Int.toNat_natCast] at hc
    rw [hc]
    simp [nums, List.getElem?_map, List.getElem?_eq_getElem hlt] at hj
    rw [← hj]
    simp [rd, List.getElem?_eq_getElem hlt]
  · have h1' : w'.heap[g]? = some (.cells (splice cur 0 (nums k xs)).toArray e (0, 0)) := h1
    have e1 : splice cur 0 (nums k xs) = nums k xs ++ cur.drop xs.length := by simp [splice, nums]
    rw [e1] at h1'
    have hl : (nums k xs).length = xs.length := by simp [nums]
    rw [hl]
    exact h w' ⟨h1'⟩ ⟨h2⟩

def wire_behind.f (l0 : List Int) (a1 : Int) : Option (List Int) := if 0 ≤ a1 ∧ (l0.length : Int) + a1 ≤ 140737488355328 then some l0 else none

set_option maxHeartbeats 8000000 in
set_option maxRecDepth 1000000 in
theorem wire_behind.calls (A0 : Option Addr) (c0 : Nat) (l0 : List Int) (a1 : Int) (r : List Int) (w : World) (hr0 : Kd.C (Kd.int .u8) w A0 l0.length l0) (hc0 : l0.length ≤ c0) (h : wire_behind.f l0 a1 = some r) :
    Calls Try.prog 45 #[.slice A0 l0.length c0, .int .i64 a1] w fun e w' => ∃ v0_ : Value, e = .returned (v0_) ∧ Kd.R (Kd.int .u8) 5 w' w.heap.size (fun _ => True) v0_ r ∧ Below w.heap.size w w' := by
  unfold wire_behind.f at h
  by_cases hc : 0 ≤ a1 ∧ (l0.length : Int) + a1 ≤ 140737488355328
  · rw [if_pos hc] at h
    obtain ⟨h0, h1⟩ := hc
    obtain rfl := Option.some.inj h
    obtain ⟨m, rfl⟩ := Int.eq_ofNat_of_zero_le h0
    obtain ⟨i0, hi, hz0, hz1, hz2⟩ := info_parts info5
    have hmk := fun W : World => run_make (P := Try.prog) W 22 5 i0 (.int .u8 0) Try.underlying22 hi hz0 .i64 .i64 (l0.length : Int) ((l0.length : Int) + (m : Int)) (by omega) (by omega) (by rw [hz2]; omega) (by omega)
    simp only [hz1, Nat.mul_one, Int.toNat_natCast] at hmk
    rw [show ((l0.length : Int) + (m : Int)).toNat = l0.length + m from by omega] at hmk
    go_enter Try.func45, Try.ntmps45
    have hR : Aside0 (ReadsInt w .u8 A0 l0.length l0) := ⟨Kd.reads_of_C hr0⟩
    clear hr0
    go_wp2_with ((with_reducible refine gate_builtin (b := .copy) (xs := #[.tmp 13, .tmp 14]) rfl ?_); (refine wp_copy_row rfl (.tmp 13) (.tmp 14) 22 22 rfl 5 Try.underlying22 (by kernel_rfl) .u8 w.heap.size A0 _ c0 l0 (madeCells #[Value.int IntKind.u8 0] (l0.length + m)).toList rfl rfl ?c1 ?c2 ?c3 w ?c4 (Nat.le_refl _) ?_; (case c1 => exact heap_alloc_new w _); (case c2 => exact hR.out.below (below_alloc (Below.refl _ _) _)); (case c3 => simp [size_madeCells]); (case c4 => exact below_alloc (Below.refl _ _) _); intro w2 HG2 HB2))
    go_ret
    refine ⟨_, rfl, Kd.R_of_own ?_ (fun _ _ => trivial), HB2.out⟩
    refine own_copied HG2.out (Nat.le_refl _) rfl ?_ (by omega) (by omega) (by simp [nums])
    simp [nums, size_madeCells]
  · rw [if_neg hc] at h
    cases h
end Go.Proofs.Ytabjlanomebonaa.Ext

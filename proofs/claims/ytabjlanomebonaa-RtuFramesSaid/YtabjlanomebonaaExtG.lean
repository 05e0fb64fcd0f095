/- Contracts of slices.Grow at nil and slices.Concat of two rows of bytes. -/
import Derived.Test.YtabjlanomebonaaCore
import Derived.Lib.AppendZerosOnto
namespace Go.Proofs.Ytabjlanomebonaa.ExtG
open Go.RowKit Go.Proofs.YtabjlanomebonaaW.PrintWords Go.Proofs.YtabjlanomebonaaW.PrintLast Go.Proofs.YtabjlanomebonaaW.PrintMore Go.Proofs.Ytabjlanomebonaa.Core Go.Proofs.Ytabjlanomebonaa.Ext
set_option linter.unusedVariables false
set_option linter.unusedSimpArgs false

theorem own_room {W : World} {base g cap : Nat} {e : TypeId} {cs : Array Value} (hg : W.heap[g]? = some (.cells cs e (0, 0))) (hb : base ≤ g) (hc : cs.size = cap) (hm : cap ≤ 9223372036854775807) : W.ownsRow base e 1 (.slice (some ⟨g, 0, none⟩) 0 cap) 0 (nums .u8 []) :=
  ⟨by simp [nums], .inr ⟨g, cap, cs, rfl, hb, hg, by omega, by simpa [maxLen] using hm, by simpa using hc, by simp [nums]⟩⟩

set_option maxHeartbeats 4000000 in
set_option maxRecDepth 100000 in
theorem grow_nil (n : Nat) (w : World) (hn : n ≤ 140737488355328) :
    Calls Try.prog 44 #[.slice none 0 0, .int .i64 n] w fun e w' => ∃ v, e = .returned v ∧ Kd.R (Kd.int .u8) 5 w' w.heap.size (fun _ => True) v [] ∧ Below w.heap.size w w' := by
  obtain ⟨i0, hi, hz0, hz1, hz2⟩ := info_parts info5
  have h3 : wrap64 (n : Int) = n := by unfold wrap64; omega
  rcases Nat.eq_zero_or_pos n with rfl | hp
  · go_enter Try.func44, Try.ntmps44
    go_wp2
    go_ret
    exact ⟨_, rfl, Kd.R_nil _ _ _ _ _, Below.refl _ _⟩
  · have hrz : ∀ ty, (Builtin.append_ #[22, 3] ty #[.slice none 0 0, .int .i64 (n : Int)]).run Try.prog w =
        .ok (.slice (some ⟨w.heap.size, 0, none⟩) n (grownCap w n 0 5)) (w.drew.alloc (.cells (#[] ++ Builtin.zeroCells (Value.int .u8 0).cells n ++ Builtin.zeroCells (Value.int .u8 0).cells (grownCap w n 0 5 - n)) 5)) := fun ty => by
      have h := Lib.run_append_grow_zeros (P := Try.prog) w 22 3 ty 5 i0 (.int .u8 0) .i64 .i64 Try.underlying22 Try.underlying3 hi hz0 none 0 0 [] (run_firstCells_none (P := Try.prog) (w := w.drew) i0.size 0 0 0) n hp (by omega) (by omega) (by omega) (by rw [hz2]; omega) (by rw [hz2]; have := growslice_fits (need := 0 + n) (old := 0) (bytes := 1) (by omega) (by omega); omega)
      simpa using h
    have hGn : n ≤ grownCap w n 0 5 := grownCap_ge w _ _ _
    have hG63 := grownCap_le_maxLen w n 0 5 (by unfold maxLen; omega)
    obtain ⟨G, hG⟩ : ∃ G, G = grownCap w n 0 5 := ⟨_, rfl⟩
    rw [← hG] at hrz hGn hG63
    unfold maxLen at hG63
    clear hG
    have hpos : (n : Int) > 0 := by omega
    go_enter Try.func44, Try.ntmps44
    go_wp2_with (at_builtin; refine Lib.wpList_append_run _ rfl _ _ _ _ rfl _ _ rfl rfl _ _ (hrz _) ?_)
    go_ret
    refine ⟨_, rfl, Kd.R_of_own (own_room (cs := Builtin.zeroCells #[Value.int .u8 0] n ++ Builtin.zeroCells #[Value.int .u8 0] (G - n)) ?_ (Nat.le_refl _) ?_ hG63) (fun _ _ => trivial), below_alloc (below_drew (Below.refl _ _)) _⟩
    · exact heap_alloc_new w _
    · simp [size_zeroCells]; omega


/-- The first loop over two rows: how long those that were seen are. -/
def Stage (a b : Nat) (s i : Value) : Prop := (i = .int .i64 0 ∧ s = .int .i64 0) ∨ (i = .int .i64 1 ∧ s = .int .i64 a) ∨ (i = .int .i64 2 ∧ s = .int .i64 ((a : Int) + b))
/-- The second: what was laid down. -/
def StageR (B : Nat) (l1 l2 : List Int) (v i : Value) (W : World) : Prop :=
  (i = .int .i64 0 ∧ W.ownsRow B 5 1 v 0 (nums .u8 [])) ∨ (i = .int .i64 1 ∧ W.ownsRow B 5 1 v l1.length (nums .u8 l1)) ∨ (i = .int .i64 2 ∧ W.ownsRow B 5 1 v (l1 ++ l2).length (nums .u8 (l1 ++ l2)))

set_option maxHeartbeats 8000000 in
set_option maxRecDepth 100000 in
/-- slices.Concat of two rows of bytes: a row of the call's own. -/
theorem concat2 (A1 A2 : Option Addr) (c1 c2 : Nat) (l1 l2 : List Int) (gb cb : Nat) (w : World) (hgb : w.heap[gb]? = some (.cells #[.slice A1 l1.length c1, .slice A2 l2.length c2] 22 (0, 0)))
    (HV1 : Aside0 (Kd.C (Kd.int .u8) w A1 l1.length l1)) (HV2 : Aside0 (Kd.C (Kd.int .u8) w A2 l2.length l2)) (hl1 : l1.length ≤ 17592186044416) (hl2 : l2.length ≤ 17592186044416) :
    Calls Try.prog 34 #[.slice (some ⟨gb, 0, none⟩) 2 cb] w fun e w' => ∃ v, e = .returned v ∧ Kd.R (Kd.int .u8) 5 w' w.heap.size (fun _ => True) v (l1 ++ l2) ∧ Below w.heap.size w w' := by
  have BK := Aside0.mk hgb
  clear hgb
  have HB := Aside0.mk (Below.refl w.heap.size w)
  have hcz0 : w.cell? ⟨gb, 0, none⟩ = some (.slice A1 l1.length c1) := (blk_cell BK.out 0).trans rfl
  have hcz1 : w.cell? ⟨gb, 1, none⟩ = some (.slice A2 l2.length c2) := (blk_cell BK.out 1).trans rfl
  go_enter Try.func34, Try.ntmps34
  go_wp2
  go_loop [3, 11] (fun s i => Stage l1.length l2.length s i) (fun _ i => 2 - (intOf i).toNat)
  case atStart => exact .inl ⟨rfl, rfl⟩
  case round =>
    rcases hrel with ⟨rfl, rfl⟩ | ⟨rfl, rfl⟩ | ⟨rfl, rfl⟩
    · go_wp2
      go_round
      case rel => exact .inr (.inl ⟨rfl, by simp⟩)
      case measure => simp [intOf]
    · go_wp2
      go_round
      case rel => exact .inr (.inr ⟨rfl, rfl⟩)
      case measure => simp [intOf]
    · clear hcz0 hcz1
      go_wp2_with (go_at_call 44; refine (show ((l1.length : Int) + l2.length) = ((l1.length + l2.length : Nat) : Int) from by omega) ▸ (grow_nil (l1.length + l2.length) _ (by omega)).mono ?_; rintro e w1 ⟨v, rfl, HR, HBc⟩; have HR1 := Aside0.mk (Kd.own_of_R HR); clear HR; have HB1 := Aside0.mk HBc; clear HBc)
      have hcz0 : w1.cell? ⟨gb, 0, none⟩ = some (.slice A1 l1.length c1) := (blk_cell (HB1.out.block _ (blk_lt BK.out) ▸ BK.out) 0).trans rfl
      have hcz1 : w1.cell? ⟨gb, 1, none⟩ = some (.slice A2 l2.length c2) := (blk_cell (HB1.out.block _ (blk_lt BK.out) ▸ BK.out) 1).trans rfl
      have hz1 := HB1.out.size
      go_loopw [6, 27] (fun v i wr => Aside0 (StageR w.heap.size l1 l2 v i wr) ∧ Aside0 (Below w.heap.size w wr)) (fun _ i _ => 2 - (intOf i).toNat)
      case atStart => exact ⟨⟨.inl ⟨rfl, HR1.out⟩⟩, HB1⟩
      case round =>
        obtain ⟨hst, HB2⟩ := hrel
        clear hcz0 hcz1 HR1
        have hcz0 : wr.cell? ⟨gb, 0, none⟩ = some (.slice A1 l1.length c1) := (blk_cell (HB2.out.block _ (blk_lt BK.out) ▸ BK.out) 0).trans rfl
        have hcz1 : wr.cell? ⟨gb, 1, none⟩ = some (.slice A2 l2.length c2) := (blk_cell (HB2.out.block _ (blk_lt BK.out) ▸ BK.out) 1).trans rfl
        obtain (⟨rfl, HO⟩ | ⟨rfl, HO⟩ | ⟨rfl, HO⟩) := hst.out
        · have HO1 := Aside0.mk HO
          clear HO hst
          obtain ⟨A6, c6, e6⟩ := own_slice HO1.out
          cases e6
          go_wp2_with ((with_reducible refine gate_builtin (b := .append) (xs := #[.tmp 31, .tmp 32]) rfl ?_); (refine print_append_row (w0 := w) w.heap.size rfl (.tmp 31) (.tmp 32) 22 5 .u8 1 rfl Try.underlying22 info5 (by omega) (.slice A6 0 c6) [] l1 A1 _ c1 rfl rfl ?d1 ?d2 ?d3 ?d4 ?d5 ?_; (case d1 => exact HO1.out); (case d2 => exact (Kd.reads_of_C HV1.out).below HB2.out); (case d3 => exact HB2.out); (case d4 => exact HB2.out.size); (case d5 => simp; omega); intro v3 w3 hown hbel hgrow hat; have HO3 := Aside0.mk hown; have HB3 := Aside0.mk hbel; clear hown hbel hgrow hat))
          go_roundw
          case rel => exact ⟨⟨.inr (.inl ⟨rfl, HO3.out⟩)⟩, HB3⟩
          case measure => simp [intOf]
        · have HO1 := Aside0.mk HO
          clear HO hst
          obtain ⟨A6, c6, e6⟩ := own_slice HO1.out
          cases e6
          go_wp2_with ((with_reducible refine gate_builtin (b := .append) (xs := #[.tmp 31, .tmp 32]) rfl ?_); (refine print_append_row (w0 := w) w.heap.size rfl (.tmp 31) (.tmp 32) 22 5 .u8 1 rfl Try.underlying22 info5 (by omega) (.slice A6 l1.length c6) l1 l2 A2 _ c2 rfl rfl ?d1 ?d2 ?d3 ?d4 ?d5 ?_; (case d1 => exact HO1.out); (case d2 => exact (Kd.reads_of_C HV2.out).below HB2.out); (case d3 => exact HB2.out); (case d4 => exact HB2.out.size); (case d5 => simp; omega); intro v3 w3 hown hbel hgrow hat; have HO3 := Aside0.mk hown; have HB3 := Aside0.mk hbel; clear hown hbel hgrow hat))
          go_roundw
          case rel => exact ⟨⟨.inr (.inr ⟨rfl, HO3.out⟩)⟩, HB3⟩
          case measure => simp [intOf]
        · have HO1 := Aside0.mk HO
          clear HO hst
          go_wp2
          go_ret
          exact ⟨_, rfl, Kd.R_of_own HO1.out (fun _ _ => trivial), HB2.out⟩
end Go.Proofs.Ytabjlanomebonaa.ExtG

/- The contract of mbap's Feed. -/
import Derived.Test.YtabjlanomebonaaStrA
namespace Go.Proofs.Ytabjlanomebonaa.StrB
open Go.RowKit Go.Proofs.YtabjlanomebonaaW.PrintWords Go.Proofs.YtabjlanomebonaaW.PrintLast Go.Proofs.YtabjlanomebonaaW.PrintMore Go.Proofs.Ytabjlanomebonaa.Core Go.Proofs.Ytabjlanomebonaa.Ext Go.Proofs.Ytabjlanomebonaa.ExtC Go.Proofs.Ytabjlanomebonaa.ExtG Go.Proofs.Ytabjlanomebonaa.StrA
set_option linter.unusedVariables false
set_option linter.unusedSimpArgs false
/-- A head that breaks the stream. -/
def bad (b : List Int) : Prop := wd b 2 ≠ 0 ∨ wd b 4 < 2 ∨ 254 < wd b 4
instance (b : List Int) : Decidable (bad b) := by unfold bad; infer_instance
/-- The frames of bytes, what is left, whether they are broken. -/
def allF : Nat → List Int → List PZ.S37 × List Int × Bool
  | 0, b => ([], b, false)
  | k + 1, b => if b.length < 6 then ([], b, false) else if bad b then ([], [], true) else if (b.length : Int) < 6 + wd b 4 then ([], b, false)
      else (⟨wd b 0, rd b 6, pduOf b⟩ :: (allF k (restOf b)).1, (allF k (restOf b)).2)
theorem next_bad (M : Nat → Prop) (g : Nat) (rest : List Int) (w : World) (hM : M g) (h : IsStream M w g rest false) (hby : Bytes rest) (hl : rest.length ≤ 17592186044416) (h6 : 6 ≤ rest.length) (hb : bad rest) :
    Calls Try.prog 38 #[.pointer (some ⟨g, 0, none⟩)] w fun e w' => e = .returned (.tuple #[.agg #[.int .i64 0, .int .i64 0, .slice none 0 0], .bool false]) ∧ IsStream M w' g [] true ∧ Ext (fun k => k = g) w w' := by
  by_cases h0 : wd rest 2 = 0
  · by_cases h2 : wd rest 4 < 2
    · exact next_bad1 M g rest w hM h hby hl h6 h0 h2
    · exact next_bad2 M g rest w hM h hby hl h6 h0 (by rcases hb with a | a | a; exact absurd h0 a; exact absurd a h2; exact a)
  · exact next_bad0 M g rest w hM h hby hl h6 h0
theorem next_stop (M : Nat → Prop) (g : Nat) (rest : List Int) (w : World) (hM : M g) (h : IsStream M w g rest false) (hby : Bytes rest) (hl : rest.length ≤ 17592186044416) (hs : rest.length < 6 ∨ (¬ bad rest ∧ (rest.length : Int) < 6 + wd rest 4)) :
    Calls Try.prog 38 #[.pointer (some ⟨g, 0, none⟩)] w fun e w' => e = .returned (.tuple #[.agg #[.int .i64 0, .int .i64 0, .slice none 0 0], .bool false]) ∧ IsStream M w' g rest false ∧ Ext (fun k => k = g) w w' := by
  by_cases h6 : rest.length < 6
  · exact next_short M g rest false w h h6
  · obtain ⟨h1, h2⟩ : ¬ bad rest ∧ (rest.length : Int) < 6 + wd rest 4 := by rcases hs with a | a; exact absurd a h6; exact a
    have e0 : wd rest 2 = 0 := Classical.byContradiction fun a => h1 (.inl a)
    have e1 : ¬ wd rest 4 < 2 := fun a => h1 (.inr (.inl a))
    have e2 : ¬ 254 < wd rest 4 := fun a => h1 (.inr (.inr a))
    exact next_more M g rest w hM h hby hl (by omega) e0 (by omega) (by omega) h2
theorem info37 : (Try.prog.info? 37).map (fun i => (i.zero, i.size, i.bytes)) = some (some (.agg #[(.int .i64 0), (.int .i64 0), (.slice none 0 0)]), 3, 40) := by kernel_rfl
theorem isStream_grow {M M' : Nat → Prop} {W W1 : World} {g : Nat} {rest : List Int} {br : Bool} (h : IsStream M W g rest br) (k : Ext M W W1) (hM : ∀ k, M' k → M k ∨ W.heap.size ≤ k) (hg : W1.heap[g]? = W.heap[g]?) : IsStream M' W1 g rest br := by
  obtain ⟨A, c, h1, h2, h3⟩ := h
  exact ⟨A, c, hg.trans h1, h2, h3.grow k hM⟩
theorem isStream_below {M : Nat → Prop} {W W1 : World} {g : Nat} {rest : List Int} {br : Bool} (h : IsStream M W g rest br) (k : Below W.heap.size W W1) : IsStream M W1 g rest br := by
  have h0 := h
  obtain ⟨A, c, h1, _, _⟩ := h0
  exact isStream_grow h (.of_below k) (fun _ a => .inl a) (k.block g (blk_lt h1))
theorem isStream_lt {M : Nat → Prop} {W : World} {g : Nat} {rest : List Int} {br : Bool} (h : IsStream M W g rest br) : g < W.heap.size := by obtain ⟨_, _, h1, _⟩ := h; exact blk_lt h1

set_option maxHeartbeats 8000000 in
set_option maxRecDepth 100000 in
theorem sfeed (M : Nat → Prop) (g : Nat) (rest b : List Int) (A2 : Option Addr) (c2 : Nat) (w : World) (hM : M g) (hMb : ∀ k, M k → k < w.heap.size) (h : IsStream M w g rest false) (hV : Ever M w (fun W => Kd.C (Kd.int .u8) W A2 b.length b)) (hb1 : Bytes rest) (hb2 : Bytes b) (hl1 : rest.length ≤ 1000000) (hl2 : b.length ≤ 1000000)
    (K : Nat) (hK : rest.length + b.length < K) (fs : List PZ.S37) (r : List Int) (br : Bool) (hr : allF K (rest ++ b) = (fs, r, br)) :
    Calls Try.prog 24 #[.pointer (some ⟨g, 0, none⟩), .slice A2 b.length c2] w fun e w' => ∃ v', e = .returned (.tuple #[v', .int .i64 (if br = true then 50 else 0)]) ∧ IsRow PZ.k37 M w' v' fs ∧ IsStream M w' g r br ∧ Ext (fun k => k = g) w w' := by
  obtain ⟨A, c, hb, hc, hv⟩ := h
  have hu72 := Try.underlying72
  have hu37 := Try.underlying37
  have BK := Aside0.mk hb; have HV := Aside0.mk hv; have HV2 := Aside0.mk hV; have HC := Aside0.mk hc; have HM := Aside0.mk hM; have HMB := Aside0.mk hMb
  have hcz0 : w.cell? ⟨g, 0, none⟩ = some (.slice A rest.length c) := (blk_cell BK.out 0).trans rfl; have hcz1 : w.cell? ⟨g, 1, none⟩ = some (.bool false) := (blk_cell BK.out 1).trans rfl; have hfz0 := blk_frozen BK.out 0
  have HBY : Aside0 (Bytes (rest ++ b)) := ⟨fun x hx => by rcases List.mem_append.1 hx with a | a; exact hb1 x a; exact hb2 x a⟩
  have hly : Aside0 ((rest ++ b).length < K ∧ (rest ++ b).length ≤ 2000000) := ⟨by rw [List.length_append]; omega⟩
  have HR := Aside0.mk hr
  clear hb hc hv hM hMb hV hb1 hb2 hr
  go_enter Try.func24, Try.ntmps24
  go_wp2_with (go_at_call 34; refine (concat2 A A2 c c2 rest b _ 2 _ ?k1 ⟨HV.out.at_ _ ((Ext.refl _ _).alloc _)⟩ ⟨HV2.out.at_ _ ((Ext.refl _ _).alloc _)⟩ (by omega) (by omega)).mono ?_; (case k1 => exact new_blk rfl); rintro e w4 ⟨v4, rfl, HR4, HB4⟩; generalize hy : rest ++ b = y at HR4 HR HBY hly; clear hy; obtain ⟨A4, c4, rfl, hc4, HV4⟩ := Ever.made (M := M) HR4 (fun k hk => Ext.lt_ (M := M) ((Ext.refl _ _).alloc _) (HMB.out k hk)); have HV4 := Aside0.mk HV4; have HC4 := Aside0.mk hc4; have BK4 : Aside0 (w4.heap[g]? = some (.cells #[.slice A rest.length c, .bool false] 72 (0, 0))) := Aside0.mk (blk_below (g := g) (blk_alloc BK.out _) HB4); have HE4 : Aside0 (Ext (fun k => k = g) w w4) := ⟨Ext.then_below ((Ext.refl _ _).alloc _) HB4⟩; clear HR4 HB4 hc4; have hcy0 : w4.cell? ⟨g, 0, none⟩ = some (.slice A rest.length c) := (blk_cell BK4.out 0).trans rfl; have hfy0 := blk_frozen BK4.out 0)
  have HS : Aside0 (IsStream (Mv M (.slice none 0 0)) (w4.setCell ⟨g, 0, none⟩ (.slice A4 y.length c4)) g y false) := ⟨⟨A4, c4, blk_put BK4.out 0 _ rfl, HC4.out, HV4.out.grow ((Ext.refl _ _).set HM.out _) (fun k hk => hk.elim .inl (fun e => by simp [Value.ownBlock] at e))⟩⟩
  have HE5 : Aside0 (Ext (fun k => k = g) w (w4.setCell ⟨g, 0, none⟩ (.slice A4 y.length c4))) := ⟨HE4.out.setg _⟩
  clear BK HV HV2 HC hcz0 hcz1 hfz0 HV4 HC4 BK4 HE4 hcy0 hfy0
  go_loopg [6] K (fun kq v6 wr => ∃ (out ft : List PZ.S37) (rs : List Int), Aside0 (allF kq rs = (ft, r, br)) ∧ Aside0 (out ++ ft = fs) ∧ Aside0 (Bytes rs) ∧ rs.length < kq ∧ rs.length ≤ 2000000 ∧ out.length + rs.length ≤ 2000000 ∧ Aside0 (kq ≤ K) ∧ Aside0 (OwnE PZ.k37 M 37 w.heap.size wr v6 out) ∧ Aside0 (IsStream (Mv M v6) wr g rs false) ∧ Aside0 (Ext (fun k => k = g) w wr))
  case atStart => exact ⟨[], fs, y, HR, ⟨rfl⟩, HBY, hly.out.1, hly.out.2, by have := hly.out.2; simpa using this, ⟨Nat.le_refl _⟩, ⟨OwnE.nil _ _ _ _ _⟩, HS, HE5⟩
  case round =>
    clear HR HBY hly HS HE5
    obtain ⟨out, ft, rs, HR, HF, HBY, hk, hl, hol, HKK, HO, HS, HE⟩ := hrel
    cases gk with
    | zero => omega
    | succ k1 =>
      have hgw : g < w.heap.size := HMB.out g HM.out
      have hown : Aside0 (∀ k, u6.ownBlock = some k → k ≠ g) := ⟨fun k hk e => by have := HO.out.base_le k hk; omega⟩
      have HML : Aside0 (∀ k, Mv M u6 k → k < wr.heap.size) := ⟨fun k hk => by rcases hk with a | a; exact HE.out.lt_ (HMB.out k a); exact HO.out.lt k a.symm⟩
      have hXX : ∀ {w5 : World}, Ext (fun k => k = g) wr w5 → OwnE PZ.k37 M 37 w.heap.size w5 u6 out := fun k => HO.out.step (Ext.toM (.inl HM.out) k) (fun b hb => k.block b (HO.out.lt b hb) (hown.out b hb))
      have HXX := Aside0.mk @hXX
      clear hXX
      have hre := HR.out
      clear HR
      unfold allF at hre
      by_cases h6 : rs.length < 6
      · rw [if_pos h6] at hre
        simp only [Prod.mk.injEq] at hre
        obtain ⟨rfl, rfl, rfl⟩ := hre
        have HST : Aside0 (rs.length < 6 ∨ (¬ bad rs ∧ (rs.length : Int) < 6 + wd rs 4)) := ⟨(.inl h6)⟩
        go_wp2_with (go_at_call 38; (refine (next_stop (Mv M u6) g rs _ (.inl HM.out) HS.out HBY.out (by omega) HST.out).mono ?_; rintro e w5 ⟨rfl, hs5, hx5⟩; have HS5 := Aside0.mk hs5; have HX5 := Aside0.mk hx5; obtain ⟨A6, c6, hb6, _, _⟩ := hs5; have hq1 : w5.cell? ⟨g, 1, none⟩ = some (.bool false) := (blk_cell hb6 1).trans rfl; clear hb6; have hgl : g < w5.heap.size := isStream_lt HS5.out; clear hx5))
        go_ret2
        have HO7 := HXX.out HX5.out; obtain ⟨A7, c7, e7, hc7, hr7⟩ := HO7.row (fun k hk hm => absurd (HO7.base_le k hk) (Nat.not_le.2 (HMB.out k hm))); exact ⟨_, rfl, IsRow.step (by rw [← HF.out, List.append_nil]; exact ⟨A7, c7, e7, hc7, hr7⟩) ((Ext.refl _ _).alloc _), isStream_grow HS5.out ((Ext.refl _ _).alloc _) (fun k hk => .inl (.inl hk)) (by obtain ⟨_, _, h1, _⟩ := HS5.out; exact (blk_alloc h1 _).trans h1.symm), (HE.out.trans HX5.out).alloc _⟩
      rw [if_neg h6] at hre
      by_cases hbd : bad rs
      · rw [if_pos hbd] at hre
        simp only [Prod.mk.injEq] at hre
        obtain ⟨rfl, rfl, rfl⟩ := hre
        have HBD := Aside0.mk hbd
        clear hbd
        go_wp2_with (go_at_call 38; (refine (next_bad (Mv M u6) g rs _ (.inl HM.out) HS.out HBY.out (by omega) (by omega) HBD.out).mono ?_; rintro e w5 ⟨rfl, hs5, hx5⟩; have HS5 := Aside0.mk hs5; have HX5 := Aside0.mk hx5; obtain ⟨A6, c6, hb6, _, _⟩ := hs5; have hq1 : w5.cell? ⟨g, 1, none⟩ = some (.bool true) := (blk_cell hb6 1).trans rfl; clear hb6; have hgl : g < w5.heap.size := isStream_lt HS5.out; clear hx5))
        go_ret2
        have HO7 := HXX.out HX5.out; obtain ⟨A7, c7, e7, hc7, hr7⟩ := HO7.row (fun k hk hm => absurd (HO7.base_le k hk) (Nat.not_le.2 (HMB.out k hm))); exact ⟨_, rfl, IsRow.step (by rw [← HF.out, List.append_nil]; exact ⟨A7, c7, e7, hc7, hr7⟩) ((Ext.refl _ _).alloc _), isStream_grow HS5.out ((Ext.refl _ _).alloc _) (fun k hk => .inl (.inl hk)) (by obtain ⟨_, _, h1, _⟩ := HS5.out; exact (blk_alloc h1 _).trans h1.symm), (HE.out.trans HX5.out).alloc _⟩
      rw [if_neg hbd] at hre
      by_cases hsh : (rs.length : Int) < 6 + wd rs 4
      · rw [if_pos hsh] at hre
        simp only [Prod.mk.injEq] at hre
        obtain ⟨rfl, rfl, rfl⟩ := hre
        have HST : Aside0 (rs.length < 6 ∨ (¬ bad rs ∧ (rs.length : Int) < 6 + wd rs 4)) := ⟨(.inr ⟨hbd, hsh⟩)⟩
        go_wp2_with (go_at_call 38; (refine (next_stop (Mv M u6) g rs _ (.inl HM.out) HS.out HBY.out (by omega) HST.out).mono ?_; rintro e w5 ⟨rfl, hs5, hx5⟩; have HS5 := Aside0.mk hs5; have HX5 := Aside0.mk hx5; obtain ⟨A6, c6, hb6, _, _⟩ := hs5; have hq1 : w5.cell? ⟨g, 1, none⟩ = some (.bool false) := (blk_cell hb6 1).trans rfl; clear hb6; have hgl : g < w5.heap.size := isStream_lt HS5.out; clear hx5))
        go_ret2
        have HO7 := HXX.out HX5.out; obtain ⟨A7, c7, e7, hc7, hr7⟩ := HO7.row (fun k hk hm => absurd (HO7.base_le k hk) (Nat.not_le.2 (HMB.out k hm))); exact ⟨_, rfl, IsRow.step (by rw [← HF.out, List.append_nil]; exact ⟨A7, c7, e7, hc7, hr7⟩) ((Ext.refl _ _).alloc _), isStream_grow HS5.out ((Ext.refl _ _).alloc _) (fun k hk => .inl (.inl hk)) (by obtain ⟨_, _, h1, _⟩ := HS5.out; exact (blk_alloc h1 _).trans h1.symm), (HE.out.trans HX5.out).alloc _⟩
      rw [if_neg hsh] at hre
      simp only [Prod.mk.injEq] at hre
      obtain ⟨hft, hrr⟩ := hre
      have e0 : wd rs 2 = 0 := Classical.byContradiction fun a => hbd (.inl a)
      have e1 : ¬ wd rs 4 < 2 := fun a => hbd (.inr (.inl a))
      have e2 : ¬ 254 < wd rs 4 := fun a => hbd (.inr (.inr a))
      have HN := Aside0.mk (fun W5 (hh : IsStream (Mv M u6) W5 g rs false) => next_full (Mv M u6) g rs W5 (.inl HM.out) hh HBY.out (by omega) (by omega) e0 (by omega) (by omega) (by omega))
      have hrl : (restOf rs).length + 8 ≤ rs.length := by unfold restOf; rw [List.length_drop]; omega
      have HRB : Aside0 (Bytes (restOf rs)) := ⟨fun x hx => HBY.out x (List.mem_of_mem_drop hx)⟩
      have HFT : Aside0 (out ++ ⟨wd rs 0, rd rs 6, pduOf rs⟩ :: (allF k1 (restOf rs)).1 = fs) := ⟨by rw [hft]; exact HF.out⟩
      have HRR : Aside0 (allF k1 (restOf rs) = ((allF k1 (restOf rs)).1, r, br)) := ⟨by rw [← hrr]⟩
      clear hft hrr hbd hsh e0 e1 e2 h6 HF
      generalize (allF k1 (restOf rs)).1 = f1 at HFT HRR
      generalize wd rs 0 = t_ at HN HFT
      generalize rd rs 6 = u_ at HN HFT
      generalize pduOf rs = p_ at HN HFT
      generalize restOf rs = r_ at HN HRB HRR hrl
      go_wp2_with (first | (go_at_call 38; (refine (HN.out _ HS.out).mono ?_; rintro e w5 ⟨A5, c5, rfl, hc5, hv5, hs5, hx5⟩; have HC5 := Aside0.mk hc5; have HV5 := Aside0.mk hv5; have HS5 := Aside0.mk hs5; have HX5 := Aside0.mk hx5; have HO5 := Aside0.mk (HXX.out hx5); have hz5 := hx5.size; clear hc5 hv5 hs5 hx5 HO HS)) | ((with_reducible refine gate_builtin (b := .append) (xs := #[.tmp 34, .tmp 36]) rfl ?_); at_builtin; (refine ev_append PZ.k37 (M := M) w.heap.size rfl (.tmp 34) (.tmp 36) 45 37 (.agg #[(.int .i64 0), (.int .i64 0), (.slice none 0 0)]) 40 rfl Try.underlying45 info37 rfl (by decide) (by decide) u6 out ⟨t_, u_, p_⟩ [.int .i64 t_, .int .i64 u_, .slice A5 p_.length c5] rfl ?ax (HO5.out.below (below_alloc (Below.refl _ _) _)) ?ap (Below.refl _ _) ?aS (by omega) ?_; (case ax => first | rfl | (go_simp; done) | (go_simp; rfl)); (case ap => exact ⟨fun w2 h2 => PZ.k37_mk w2 ⟨t_, u_, p_⟩ HC5.out (HV5.out.at_ _ (((Ext.refl _ _).alloc _).trans h2))⟩); (case aS => have := HE.out.size; simp; omega); intro v6 w6 HO6 HB6 hg6 hat6; have HO6 := Aside0.mk HO6; have hne : some g ≠ u6.ownBlock := (fun e => hown.out g e.symm rfl); have hgl := isStream_lt HS5.out; have HS6 : Aside0 (IsStream (Mv M v6) w6 g r_ false) := ⟨isStream_grow (isStream_below HS5.out (below_alloc (Below.refl _ _) _)) (Ext.of_grown hg6) (Mv_grow (w1 := w6) hat6) (hg6.block g (by simp; omega) hne)⟩; have HE6 : Aside0 (Ext (fun k => k = g) w w6) := ⟨((HE.out.trans HX5.out).alloc _).grown hg6 (fun k hk => .inr (HO5.out.base_le k hk))⟩; clear HB6 hg6 hat6 hne hgl HO5 HS5)))
      go_roundg k1
      case measure => have := HKK.out; omega
      case rel => exact ⟨out ++ [⟨t_, u_, p_⟩], f1, r_, HRR, ⟨by rw [List.append_assoc]; exact HFT.out⟩, HRB, by omega, by omega, by rw [List.length_append, List.length_singleton]; omega, ⟨by have := HKK.out; omega⟩, HO6, HS6, HE6⟩
end Go.Proofs.Ytabjlanomebonaa.StrB

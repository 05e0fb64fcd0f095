/- Contracts of mbap's Stream: New, Left, next. -/
import Derived.Test.YtabjlanomebonaaExtG
import Derived.Test.YtabjlanomebonaaExtC
namespace Go.Proofs.Ytabjlanomebonaa.StrA
open Go.RowKit Go.Proofs.YtabjlanomebonaaW.PrintWords Go.Proofs.YtabjlanomebonaaW.PrintLast Go.Proofs.YtabjlanomebonaaW.PrintMore Go.Proofs.Ytabjlanomebonaa.Core Go.Proofs.Ytabjlanomebonaa.Ext Go.Proofs.Ytabjlanomebonaa.ExtC Go.Proofs.Ytabjlanomebonaa.ExtG
set_option linter.unusedVariables false
set_option linter.unusedSimpArgs false

theorem stream_new (w : World) :
    Calls Try.prog 23 #[] w fun e w' => e = .returned (.pointer (some ⟨w.heap.size, 0, none⟩)) ∧ w' = w.alloc (.cells #[.slice none 0 0, .bool false] 72) := by
  have hu72 := Try.underlying72
  go_enter Try.func23, Try.ntmps23
  go_wp2
  go_ret
  exact ⟨rfl, rfl⟩

/-- A stream: what is left, and whether it is broken. -/
def IsStream (M : Nat → Prop) (W : World) (g : Nat) (rest : List Int) (broken : Bool) : Prop :=
  ∃ A c, W.heap[g]? = some (.cells #[.slice A rest.length c, .bool broken] 72 (0, 0)) ∧ rest.length ≤ c ∧ Ever M W (fun W => Kd.C (Kd.int .u8) W A rest.length rest)

theorem left_any (M : Nat → Prop) (g : Nat) (rest : List Int) (broken : Bool) (w : World) (h : IsStream M w g rest broken) :
    Calls Try.prog 25 #[.pointer (some ⟨g, 0, none⟩)] w fun e w' => e = .returned (.int .i64 rest.length) ∧ w' = w := by
  obtain ⟨A, c, hb, hc, hv⟩ := h
  have hu72 := Try.underlying72
  have BK := Aside0.mk hb
  have hcz0 : w.cell? ⟨g, 0, none⟩ = some (.slice A rest.length c) := (blk_cell BK.out 0).trans rfl
  clear hb hv hc
  go_enter Try.func25, Try.ntmps25
  go_wp2
  go_ret
  exact ⟨rfl, rfl⟩
theorem left_nil (w : World) : Calls Try.prog 25 #[.pointer none] w fun e w' => e = .returned (.int .i64 0) ∧ w' = w := by
  go_enter Try.func25, Try.ntmps25
  go_wp2
  go_ret
  exact ⟨rfl, rfl⟩
theorem sfeed_nil (v : Value) (w : World) : Calls Try.prog 24 #[.pointer none, v] w fun e w' => e = .returned (.tuple #[.slice none 0 0, .int .i64 3]) ∧ w' = w := by
  go_enter Try.func24, Try.ntmps24
  go_wp2
  go_ret2
  exact ⟨rfl, rfl⟩
theorem sfeed_broken (M : Nat → Prop) (g : Nat) (rest : List Int) (v : Value) (w : World) (h : IsStream M w g rest true) : Calls Try.prog 24 #[.pointer (some ⟨g, 0, none⟩), v] w fun e w' => e = .returned (.tuple #[.slice none 0 0, .int .i64 50]) ∧ w' = w := by
  obtain ⟨A, c, hb, hc, hv⟩ := h
  have hu72 := Try.underlying72
  have BK := Aside0.mk hb
  have hcz1 : w.cell? ⟨g, 1, none⟩ = some (.bool true) := (blk_cell BK.out 1).trans rfl
  clear hb hv hc
  go_enter Try.func24, Try.ntmps24
  go_wp2
  go_ret2
  exact ⟨rfl, rfl⟩

theorem next_short (M : Nat → Prop) (g : Nat) (rest : List Int) (broken : Bool) (w : World) (h : IsStream M w g rest broken) (h6 : rest.length < 6) :
    Calls Try.prog 38 #[.pointer (some ⟨g, 0, none⟩)] w fun e w' => e = .returned (.tuple #[.agg #[.int .i64 0, .int .i64 0, .slice none 0 0], .bool false]) ∧ IsStream M w' g rest broken ∧ Ext (fun k => k = g) w w' := by
  obtain ⟨A, c, hb, hc, hv⟩ := h
  have hu72 := Try.underlying72
  have hu37 := Try.underlying37
  have BK := Aside0.mk hb
  have HV := Aside0.mk hv
  have HC := Aside0.mk hc
  have hgl := blk_lt hb
  have hcz0 : w.cell? ⟨g, 0, none⟩ = some (.slice A rest.length c) := (blk_cell BK.out 0).trans rfl
  have h6b : decide ((rest.length : Int) < 6) = true := decide_eq_true (by omega)
  have h6n : decide (rest.length < 6) = true := decide_eq_true h6
  clear hb hv hc h6
  go_enter Try.func38, Try.ntmps38
  go_wp2
  refine bodyPost_ret (v := .tuple #[.agg #[.int .i64 0, .int .i64 0, .slice none 0 0], .bool false]) (by simp [results, Try.results38, go_sem]) rfl ⟨rfl, ?_, ?_⟩
  · exact ⟨A, c, by (with_reducible repeat (first | refine blk_drewN ?_ _ | refine blk_drew ?_ | refine blk_alloc ?_ _)); exact BK.out, HC.out, HV.out.step ((Ext.refl _ _).alloc _)⟩
  · exact (Ext.refl _ _).alloc _
-- ways

/-- The word at a place. -/
def wd (b : List Int) (i : Int) : Int := 256 * rd b i + rd b (i + 1)
def pduOf (b : List Int) : List Int := (b.take (6 + wd b 4).toNat).drop 7
def restOf (b : List Int) : List Int := b.drop (6 + wd b 4).toNat
theorem rd_b {b : List Int} (h : Bytes b) (i : Int) : 0 ≤ rd b i ∧ rd b i < 256 := bytes_rd h i
theorem wd_bd {b : List Int} (h : Bytes b) (i : Int) : 0 ≤ wd b i ∧ wd b i ≤ 65535 := by
  have h1 := bytes_rd h i
  have h2 := bytes_rd h (i + 1)
  unfold wd
  omega
theorem at_f {b : List Int} (h : Bytes b) (hl : b.length ≤ 140737488351232) {i : Int} (h0 : 0 ≤ i) (h1 : i + 2 ≤ b.length) : wire_At.f b i = some (wd b i, 0) := by
  unfold wire_At.f
  rw [if_pos ⟨h, hl, by omega, by omega⟩, if_neg (by omega), if_neg (by omega)]
  rfl
theorem mid3 {P : Program} (t e : TypeId) {i : TypeInfo} (ht : P.underlying t = some (.slice e)) (hi : P.info? e = some i) (hsz : i.size = 1) (A : Option Addr) (c : Nat) (xs : List Int) (a b : Int) (h0 : 0 ≤ a) (h1 : a ≤ b) (hm : b ≤ xs.length) (hc : xs.length ≤ c) :
    ∃ A' : Option Addr, (∀ W : World, (Instr.slice t (.slice A xs.length c) (some (.int .i64 a)) (some (.int .i64 b)) (some (.int .i64 b))).run P W = .ok (.slice A' ((xs.take b.toNat).drop a.toNat).length (b - a).toNat) W) ∧
      (∀ w : World, ReadsInt w .u8 A xs.length xs → ReadsInt w .u8 A' ((xs.take b.toNat).drop a.toNat).length ((xs.take b.toNat).drop a.toNat)) ∧ ((xs.take b.toNat).drop a.toNat).length ≤ (b - a).toNat := by
  have hlt : (xs.take b.toNat).length = b.toNat := by rw [List.length_take]; omega
  have hl : ((xs.take b.toNat).drop a.toNat).length = b.toNat - a.toNat := by rw [List.length_drop, hlt]
  refine ⟨if b.toNat = a.toNat then A else A.map (·.add a.toNat), fun W => ?_, fun w h => ?_, by rw [hl]; omega⟩
  · have hel : P.elem t = e := by simp [Program.elem, ht]
    have hu : P.underlying t = some (.slice (P.elem t)) := by rw [hel]; exact ht
    rw [run_slice_lhm W t A xs.length c hu .i64 .i64 .i64 a b b h0 h1 (by omega) (by omega), hel, hl]
    simp [sizeOf, typeInfo, hi, hsz, sliced, Result.andThen]
    omega
  · have h2 := (h.take_ b.toNat (by omega)).drop_ (c := b.toNat) a.toNat (by omega) (by omega)
    rw [hl]
    exact h2

set_option maxHeartbeats 8000000 in
set_option maxRecDepth 100000 in
theorem next_bad0 (M : Nat → Prop) (g : Nat) (rest : List Int) (w : World) (hM : M g) (h : IsStream M w g rest false) (hby : Bytes rest) (hl : rest.length ≤ 17592186044416) (h6 : 6 ≤ rest.length) (hz : wd rest 2 ≠ 0) :
    Calls Try.prog 38 #[.pointer (some ⟨g, 0, none⟩)] w fun e w' => e = .returned (.tuple #[.agg #[.int .i64 0, .int .i64 0, .slice none 0 0], .bool false]) ∧ IsStream M w' g [] true ∧ Ext (fun k => k = g) w w' := by
  obtain ⟨A, c, hb, hc, hv⟩ := h
  have hu72 := Try.underlying72; have hu37 := Try.underlying37
  have BK := Aside0.mk hb; have HV := Aside0.mk hv; have HC := Aside0.mk hc; have HM := Aside0.mk hM
  have hgl := blk_lt hb
  have hgn : g ≠ w.heap.size := by omega
  have hcz0 : w.cell? ⟨g, 0, none⟩ = some (.slice A rest.length c) := (blk_cell BK.out 0).trans rfl; have hcz1 : w.cell? ⟨g, 1, none⟩ = some (.bool false) := (blk_cell BK.out 1).trans rfl; have hfz0 := blk_frozen BK.out 0; have hfz1 := blk_frozen BK.out 1
  have h6b : decide ((rest.length : Int) < 6) = false := decide_eq_false (by omega)
  have h6n : decide (rest.length < 6) = false := decide_eq_false (by omega)
  have F1 := Aside0.mk (at_f hby (by omega) (i := 2) (by omega) (by omega)); have F2 := Aside0.mk (at_f hby (by omega) (i := 4) (by omega) (by omega)); have F3 := Aside0.mk (at_f hby (by omega) (i := 0) (by omega) (by omega))
  have hw2 := wd_bd hby 2; have hw4 := wd_bd hby 4; have hw0 := wd_bd hby 0
  have HBY := Aside0.mk hby; clear hb hc hv hM hby
  have tok1 := Aside0.mk trivial
  generalize wd rest 2 = z at *
  generalize wd rest 4 = n at *
  clear F3 hw0
  have q1 : (z != 0) = true := bne_iff_ne.2 hz
  clear hz
  go_enter Try.func38, Try.ntmps38
  go_wp2_with (first | (go_at_call 46; have _t := tok1; (refine (wire_At.calls A c rest 2 z 0 _ (HV.out.at_ _ (Ext.toM HM.out (by (with_reducible repeat (first | exact Ext.refl _ _ | apply Ext.alloc | apply Ext.drewN | apply Ext.drew | refine Ext.setg ?_ _ | refine Ext.new ?_ (Nat.le_refl _) _))))) HC.out F1.out).mono ?_; rintro e w' ⟨rfl, ⟨nd1, rfl⟩⟩; clear tok1 _t; have tok2 := Aside0.mk trivial)) | (go_at_call 46; have _t := tok2; (refine (wire_At.calls A c rest 4 n 0 _ (HV.out.at_ _ (Ext.toM HM.out (by (with_reducible repeat (first | exact Ext.refl _ _ | apply Ext.alloc | apply Ext.drewN | apply Ext.drew | refine Ext.setg ?_ _ | refine Ext.new ?_ (Nat.le_refl _) _))))) HC.out F2.out).mono ?_; rintro e w' ⟨rfl, ⟨nd2, rfl⟩⟩; clear tok2 _t; have tok3 := Aside0.mk trivial)))
  refine bodyPost_ret (v := .tuple #[.agg #[.int .i64 0, .int .i64 0, .slice none 0 0], .bool false]) (by simp [results, Try.results38, go_sem, hgn, Ne.symm hgn]) rfl ⟨rfl, ⟨none, 0, ?_, Nat.le_refl _, Ever.nil _⟩, ?_⟩
  · (with_reducible repeat (first | refine blk_drewN ?_ _ | refine blk_drew ?_ | refine blk_alloc ?_ _ | refine blk_far ?_ hgn _)); with_reducible refine blk_put (cs := #[.slice A rest.length c, .bool true]) ?_ 0 _ rfl; (with_reducible repeat (first | refine blk_drewN ?_ _ | refine blk_drew ?_ | refine blk_alloc ?_ _ | refine blk_far ?_ hgn _)); with_reducible refine blk_put (cs := #[.slice A rest.length c, .bool false]) ?_ 1 _ rfl; (with_reducible repeat (first | refine blk_drewN ?_ _ | refine blk_drew ?_ | refine blk_alloc ?_ _ | refine blk_far ?_ hgn _)); exact BK.out
  · exact (by (with_reducible repeat (first | exact Ext.refl _ _ | apply Ext.alloc | apply Ext.drewN | apply Ext.drew | refine Ext.setg ?_ _ | refine Ext.new ?_ (Nat.le_refl _) _)))

set_option maxHeartbeats 8000000 in
set_option maxRecDepth 100000 in
theorem next_bad1 (M : Nat → Prop) (g : Nat) (rest : List Int) (w : World) (hM : M g) (h : IsStream M w g rest false) (hby : Bytes rest) (hl : rest.length ≤ 17592186044416) (h6 : 6 ≤ rest.length) (hz : wd rest 2 = 0) (hn : wd rest 4 < 2) :
    Calls Try.prog 38 #[.pointer (some ⟨g, 0, none⟩)] w fun e w' => e = .returned (.tuple #[.agg #[.int .i64 0, .int .i64 0, .slice none 0 0], .bool false]) ∧ IsStream M w' g [] true ∧ Ext (fun k => k = g) w w' := by
  obtain ⟨A, c, hb, hc, hv⟩ := h
  have hu72 := Try.underlying72; have hu37 := Try.underlying37
  have BK := Aside0.mk hb; have HV := Aside0.mk hv; have HC := Aside0.mk hc; have HM := Aside0.mk hM
  have hgl := blk_lt hb
  have hgn : g ≠ w.heap.size := by omega
  have hcz0 : w.cell? ⟨g, 0, none⟩ = some (.slice A rest.length c) := (blk_cell BK.out 0).trans rfl; have hcz1 : w.cell? ⟨g, 1, none⟩ = some (.bool false) := (blk_cell BK.out 1).trans rfl; have hfz0 := blk_frozen BK.out 0; have hfz1 := blk_frozen BK.out 1
  have h6b : decide ((rest.length : Int) < 6) = false := decide_eq_false (by omega)
  have h6n : decide (rest.length < 6) = false := decide_eq_false (by omega)
  have F1 := Aside0.mk (at_f hby (by omega) (i := 2) (by omega) (by omega)); have F2 := Aside0.mk (at_f hby (by omega) (i := 4) (by omega) (by omega)); have F3 := Aside0.mk (at_f hby (by omega) (i := 0) (by omega) (by omega))
  have hw2 := wd_bd hby 2; have hw4 := wd_bd hby 4; have hw0 := wd_bd hby 0
  have HBY := Aside0.mk hby; clear hb hc hv hM hby
  have tok1 := Aside0.mk trivial
  generalize wd rest 2 = z at *
  generalize wd rest 4 = n at *
  clear F3 hw0
  have q1 : (z != 0) = false := by rw [hz]; rfl
  have q2 : decide (n < 2) = true := decide_eq_true (by omega)
  clear hz hn
  go_enter Try.func38, Try.ntmps38
  go_wp2_with (first | (go_at_call 46; have _t := tok1; (refine (wire_At.calls A c rest 2 z 0 _ (HV.out.at_ _ (Ext.toM HM.out (by (with_reducible repeat (first | exact Ext.refl _ _ | apply Ext.alloc | apply Ext.drewN | apply Ext.drew | refine Ext.setg ?_ _ | refine Ext.new ?_ (Nat.le_refl _) _))))) HC.out F1.out).mono ?_; rintro e w' ⟨rfl, ⟨nd1, rfl⟩⟩; clear tok1 _t; have tok2 := Aside0.mk trivial)) | (go_at_call 46; have _t := tok2; (refine (wire_At.calls A c rest 4 n 0 _ (HV.out.at_ _ (Ext.toM HM.out (by (with_reducible repeat (first | exact Ext.refl _ _ | apply Ext.alloc | apply Ext.drewN | apply Ext.drew | refine Ext.setg ?_ _ | refine Ext.new ?_ (Nat.le_refl _) _))))) HC.out F2.out).mono ?_; rintro e w' ⟨rfl, ⟨nd2, rfl⟩⟩; clear tok2 _t; have tok3 := Aside0.mk trivial)))
  refine bodyPost_ret (v := .tuple #[.agg #[.int .i64 0, .int .i64 0, .slice none 0 0], .bool false]) (by simp [results, Try.results38, go_sem, hgn, Ne.symm hgn]) rfl ⟨rfl, ⟨none, 0, ?_, Nat.le_refl _, Ever.nil _⟩, ?_⟩
  · (with_reducible repeat (first | refine blk_drewN ?_ _ | refine blk_drew ?_ | refine blk_alloc ?_ _ | refine blk_far ?_ hgn _)); with_reducible refine blk_put (cs := #[.slice A rest.length c, .bool true]) ?_ 0 _ rfl; (with_reducible repeat (first | refine blk_drewN ?_ _ | refine blk_drew ?_ | refine blk_alloc ?_ _ | refine blk_far ?_ hgn _)); with_reducible refine blk_put (cs := #[.slice A rest.length c, .bool false]) ?_ 1 _ rfl; (with_reducible repeat (first | refine blk_drewN ?_ _ | refine blk_drew ?_ | refine blk_alloc ?_ _ | refine blk_far ?_ hgn _)); exact BK.out
  · exact (by (with_reducible repeat (first | exact Ext.refl _ _ | apply Ext.alloc | apply Ext.drewN | apply Ext.drew | refine Ext.setg ?_ _ | refine Ext.new ?_ (Nat.le_refl _) _)))

set_option maxHeartbeats 8000000 in
set_option maxRecDepth 100000 in
theorem next_bad2 (M : Nat → Prop) (g : Nat) (rest : List Int) (w : World) (hM : M g) (h : IsStream M w g rest false) (hby : Bytes rest) (hl : rest.length ≤ 17592186044416) (h6 : 6 ≤ rest.length) (hz : wd rest 2 = 0) (hn : 254 < wd rest 4) :
    Calls Try.prog 38 #[.pointer (some ⟨g, 0, none⟩)] w fun e w' => e = .returned (.tuple #[.agg #[.int .i64 0, .int .i64 0, .slice none 0 0], .bool false]) ∧ IsStream M w' g [] true ∧ Ext (fun k => k = g) w w' := by
  obtain ⟨A, c, hb, hc, hv⟩ := h
  have hu72 := Try.underlying72; have hu37 := Try.underlying37
  have BK := Aside0.mk hb; have HV := Aside0.mk hv; have HC := Aside0.mk hc; have HM := Aside0.mk hM
  have hgl := blk_lt hb
  have hgn : g ≠ w.heap.size := by omega
  have hcz0 : w.cell? ⟨g, 0, none⟩ = some (.slice A rest.length c) := (blk_cell BK.out 0).trans rfl; have hcz1 : w.cell? ⟨g, 1, none⟩ = some (.bool false) := (blk_cell BK.out 1).trans rfl; have hfz0 := blk_frozen BK.out 0; have hfz1 := blk_frozen BK.out 1
  have h6b : decide ((rest.length : Int) < 6) = false := decide_eq_false (by omega)
  have h6n : decide (rest.length < 6) = false := decide_eq_false (by omega)
  have F1 := Aside0.mk (at_f hby (by omega) (i := 2) (by omega) (by omega)); have F2 := Aside0.mk (at_f hby (by omega) (i := 4) (by omega) (by omega)); have F3 := Aside0.mk (at_f hby (by omega) (i := 0) (by omega) (by omega))
  have hw2 := wd_bd hby 2; have hw4 := wd_bd hby 4; have hw0 := wd_bd hby 0
  have HBY := Aside0.mk hby; clear hb hc hv hM hby
  have tok1 := Aside0.mk trivial
  generalize wd rest 2 = z at *
  generalize wd rest 4 = n at *
  clear F3 hw0
  have q1 : (z != 0) = false := by rw [hz]; rfl
  have q2 : decide (n < 2) = false := decide_eq_false (by omega)
  have q3 : decide (254 < n) = true := decide_eq_true hn
  clear hz hn
  go_enter Try.func38, Try.ntmps38
  go_wp2_with (first | (go_at_call 46; have _t := tok1; (refine (wire_At.calls A c rest 2 z 0 _ (HV.out.at_ _ (Ext.toM HM.out (by (with_reducible repeat (first | exact Ext.refl _ _ | apply Ext.alloc | apply Ext.drewN | apply Ext.drew | refine Ext.setg ?_ _ | refine Ext.new ?_ (Nat.le_refl _) _))))) HC.out F1.out).mono ?_; rintro e w' ⟨rfl, ⟨nd1, rfl⟩⟩; clear tok1 _t; have tok2 := Aside0.mk trivial)) | (go_at_call 46; have _t := tok2; (refine (wire_At.calls A c rest 4 n 0 _ (HV.out.at_ _ (Ext.toM HM.out (by (with_reducible repeat (first | exact Ext.refl _ _ | apply Ext.alloc | apply Ext.drewN | apply Ext.drew | refine Ext.setg ?_ _ | refine Ext.new ?_ (Nat.le_refl _) _))))) HC.out F2.out).mono ?_; rintro e w' ⟨rfl, ⟨nd2, rfl⟩⟩; clear tok2 _t; have tok3 := Aside0.mk trivial)))
  refine bodyPost_ret (v := .tuple #[.agg #[.int .i64 0, .int .i64 0, .slice none 0 0], .bool false]) (by simp [results, Try.results38, go_sem, hgn, Ne.symm hgn]) rfl ⟨rfl, ⟨none, 0, ?_, Nat.le_refl _, Ever.nil _⟩, ?_⟩
  · (with_reducible repeat (first | refine blk_drewN ?_ _ | refine blk_drew ?_ | refine blk_alloc ?_ _ | refine blk_far ?_ hgn _)); with_reducible refine blk_put (cs := #[.slice A rest.length c, .bool true]) ?_ 0 _ rfl; (with_reducible repeat (first | refine blk_drewN ?_ _ | refine blk_drew ?_ | refine blk_alloc ?_ _ | refine blk_far ?_ hgn _)); with_reducible refine blk_put (cs := #[.slice A rest.length c, .bool false]) ?_ 1 _ rfl; (with_reducible repeat (first | refine blk_drewN ?_ _ | refine blk_drew ?_ | refine blk_alloc ?_ _ | refine blk_far ?_ hgn _)); exact BK.out
  · exact (by (with_reducible repeat (first | exact Ext.refl _ _ | apply Ext.alloc | apply Ext.drewN | apply Ext.drew | refine Ext.setg ?_ _ | refine Ext.new ?_ (Nat.le_refl _) _)))

set_option maxHeartbeats 8000000 in
set_option maxRecDepth 100000 in
theorem next_more (M : Nat → Prop) (g : Nat) (rest : List Int) (w : World) (hM : M g) (h : IsStream M w g rest false) (hby : Bytes rest) (hl : rest.length ≤ 17592186044416) (h6 : 6 ≤ rest.length) (hz : wd rest 2 = 0) (hn0 : 2 ≤ wd rest 4) (hn1 : wd rest 4 ≤ 254) (hs : (rest.length : Int) < 6 + wd rest 4) :
    Calls Try.prog 38 #[.pointer (some ⟨g, 0, none⟩)] w fun e w' => e = .returned (.tuple #[.agg #[.int .i64 0, .int .i64 0, .slice none 0 0], .bool false]) ∧ IsStream M w' g rest false ∧ Ext (fun k => k = g) w w' := by
  obtain ⟨A, c, hb, hc, hv⟩ := h
  have hu72 := Try.underlying72; have hu37 := Try.underlying37
  have BK := Aside0.mk hb; have HV := Aside0.mk hv; have HC := Aside0.mk hc; have HM := Aside0.mk hM
  have hgl := blk_lt hb
  have hgn : g ≠ w.heap.size := by omega
  have hcz0 : w.cell? ⟨g, 0, none⟩ = some (.slice A rest.length c) := (blk_cell BK.out 0).trans rfl; have hcz1 : w.cell? ⟨g, 1, none⟩ = some (.bool false) := (blk_cell BK.out 1).trans rfl; have hfz0 := blk_frozen BK.out 0; have hfz1 := blk_frozen BK.out 1
  have h6b : decide ((rest.length : Int) < 6) = false := decide_eq_false (by omega)
  have h6n : decide (rest.length < 6) = false := decide_eq_false (by omega)
  have F1 := Aside0.mk (at_f hby (by omega) (i := 2) (by omega) (by omega)); have F2 := Aside0.mk (at_f hby (by omega) (i := 4) (by omega) (by omega)); have F3 := Aside0.mk (at_f hby (by omega) (i := 0) (by omega) (by omega))
  have hw2 := wd_bd hby 2; have hw4 := wd_bd hby 4; have hw0 := wd_bd hby 0
  have HBY := Aside0.mk hby; clear hb hc hv hM hby
  have tok1 := Aside0.mk trivial
  generalize wd rest 2 = z at *
  generalize wd rest 4 = n at *
  clear F3 hw0
  have q1 : (z != 0) = false := by rw [hz]; rfl
  have q2 : decide (n < 2) = false := decide_eq_false (by omega)
  have q3 : decide (254 < n) = false := decide_eq_false (by omega)
  have q4 : decide ((rest.length : Int) < 6 + n) = true := decide_eq_true hs
  clear hz hs
  go_enter Try.func38, Try.ntmps38
  go_wp2_with (first | (go_at_call 46; have _t := tok1; (refine (wire_At.calls A c rest 2 z 0 _ (HV.out.at_ _ (Ext.toM HM.out (by (with_reducible repeat (first | exact Ext.refl _ _ | apply Ext.alloc | apply Ext.drewN | apply Ext.drew | refine Ext.setg ?_ _ | refine Ext.new ?_ (Nat.le_refl _) _))))) HC.out F1.out).mono ?_; rintro e w' ⟨rfl, ⟨nd1, rfl⟩⟩; clear tok1 _t; have tok2 := Aside0.mk trivial)) | (go_at_call 46; have _t := tok2; (refine (wire_At.calls A c rest 4 n 0 _ (HV.out.at_ _ (Ext.toM HM.out (by (with_reducible repeat (first | exact Ext.refl _ _ | apply Ext.alloc | apply Ext.drewN | apply Ext.drew | refine Ext.setg ?_ _ | refine Ext.new ?_ (Nat.le_refl _) _))))) HC.out F2.out).mono ?_; rintro e w' ⟨rfl, ⟨nd2, rfl⟩⟩; clear tok2 _t; have tok3 := Aside0.mk trivial)))
  refine bodyPost_ret (v := .tuple #[.agg #[.int .i64 0, .int .i64 0, .slice none 0 0], .bool false]) (by simp [results, Try.results38, go_sem, hgn, Ne.symm hgn]) rfl ⟨rfl, ⟨A, c, ?_, HC.out, HV.out.step (Ext.toM HM.out (by (with_reducible repeat (first | exact Ext.refl _ _ | apply Ext.alloc | apply Ext.drewN | apply Ext.drew | refine Ext.setg ?_ _ | refine Ext.new ?_ (Nat.le_refl _) _))))⟩, (by (with_reducible repeat (first | exact Ext.refl _ _ | apply Ext.alloc | apply Ext.drewN | apply Ext.drew | refine Ext.setg ?_ _ | refine Ext.new ?_ (Nat.le_refl _) _)))⟩
  (with_reducible repeat (first | refine blk_drewN ?_ _ | refine blk_drew ?_ | refine blk_alloc ?_ _ | refine blk_far ?_ hgn _)); exact BK.out

set_option maxHeartbeats 8000000 in
set_option maxRecDepth 100000 in
theorem next_full (M : Nat → Prop) (g : Nat) (rest : List Int) (w : World) (hM : M g) (h : IsStream M w g rest false) (hby : Bytes rest) (hl : rest.length ≤ 17592186044416) (h6 : 6 ≤ rest.length) (hz : wd rest 2 = 0) (hn0 : 2 ≤ wd rest 4) (hn1 : wd rest 4 ≤ 254) (hs : 6 + wd rest 4 ≤ (rest.length : Int)) :
    Calls Try.prog 38 #[.pointer (some ⟨g, 0, none⟩)] w fun e w' => ∃ A' c', e = .returned (.tuple #[.agg #[.int .i64 (wd rest 0), .int .i64 (rd rest 6), .slice A' (pduOf rest).length c'], .bool true]) ∧ (pduOf rest).length ≤ c' ∧ Ever M w' (fun W => Kd.C (Kd.int .u8) W A' (pduOf rest).length (pduOf rest)) ∧ IsStream M w' g (restOf rest) false ∧ Ext (fun k => k = g) w w' := by
  obtain ⟨A, c, hb, hc, hv⟩ := h
  have hu72 := Try.underlying72; have hu37 := Try.underlying37
  have BK := Aside0.mk hb; have HV := Aside0.mk hv; have HC := Aside0.mk hc; have HM := Aside0.mk hM
  have hgl := blk_lt hb
  have hgn : g ≠ w.heap.size := by omega
  have hcz0 : w.cell? ⟨g, 0, none⟩ = some (.slice A rest.length c) := (blk_cell BK.out 0).trans rfl; have hcz1 : w.cell? ⟨g, 1, none⟩ = some (.bool false) := (blk_cell BK.out 1).trans rfl; have hfz0 := blk_frozen BK.out 0; have hfz1 := blk_frozen BK.out 1
  have h6b : decide ((rest.length : Int) < 6) = false := decide_eq_false (by omega)
  have h6n : decide (rest.length < 6) = false := decide_eq_false (by omega)
  have F1 := Aside0.mk (at_f hby (by omega) (i := 2) (by omega) (by omega)); have F2 := Aside0.mk (at_f hby (by omega) (i := 4) (by omega) (by omega)); have F3 := Aside0.mk (at_f hby (by omega) (i := 0) (by omega) (by omega))
  have hw2 := wd_bd hby 2; have hw4 := wd_bd hby 4; have hw0 := wd_bd hby 0
  have HBY := Aside0.mk hby; clear hb hc hv hM hby
  have tok1 := Aside0.mk trivial
  obtain ⟨i0, hi0, hz0_, hz1_, hz2_⟩ := info_parts info5
  obtain ⟨A1, hcut1, hcutr1, hcutl1⟩ := mid3 22 5 Try.underlying22 hi0 hz1_ A c rest 7 (6 + wd rest 4) (by omega) (by omega) (by omega) HC.out
  obtain ⟨A2, hcut2, hcutr2, hcutl2⟩ := print_drop_of (P := Try.prog) (Value.int .u8) 0 22 5 .i64 Try.underlying22 hi0 hz1_ A c rest (6 + wd rest 4) (by omega) (by omega) HC.out
  have HV1 : Aside0 (Ever M w (fun W => Kd.C (Kd.int .u8) W A1 (pduOf rest).length (pduOf rest))) := ⟨HV.out.imp (fun W hW => Kd.C_of_reads (d := (0 : Int)) (h1 := fun _ => rfl) (hcutr1 W (Kd.reads_of_C hW)))⟩
  have HV2 : Aside0 (Ever M w (fun W => Kd.C (Kd.int .u8) W A2 (restOf rest).length (restOf rest))) := ⟨HV.out.imp (fun W hW => Kd.C_of_reads (d := (0 : Int)) (h1 := fun _ => rfl) (hcutr2 W (Kd.reads_of_C hW)))⟩
  change ∀ W : World, _ = Result.ok (Value.slice A1 (pduOf rest).length _) W at hcut1; change ∀ W : World, _ = Result.ok (Value.slice A2 (restOf rest).length _) W at hcut2
  have hp1 : (pduOf rest).length ≤ (6 + wd rest 4 - 7).toNat := hcutl1; have hp2 : (restOf rest).length ≤ c - (6 + wd rest 4).toNat := hcutl2
  clear hcutr1 hcutr2 hcutl1 hcutl2 hi0 hz0_ hz1_ hz2_
  obtain ⟨ad, rfl, hx6⟩ := Kd.at_int HV.out.now 6 (by omega) (by omega)
  have hru := rd_b HBY.out 6
  have HX6E : Aside0 (Ever M w (fun W => W.cell? ⟨ad.block, ad.off + 6, none⟩ = some (.int .u8 (rd rest 6)))) := ⟨HV.out.imp (fun W hW => by obtain ⟨a_, e_, h_⟩ := Kd.at_int hW 6 (by omega) (by omega); cases e_; simpa only [show (6 : Int).toNat = 6 from rfl, Nat.reduceEqDiff, Go.Addr.add, ↓reduceIte] using h_)⟩
  generalize rd rest 6 = u at *
  generalize pduOf rest = p at *
  generalize restOf rest = r at *
  generalize wd rest 2 = z at *
  generalize wd rest 4 = n at *
  generalize wd rest 0 = t at *
  have q1 : (z != 0) = false := by rw [hz]; rfl
  have q2 : decide (n < 2) = false := decide_eq_false (by omega)
  have q3 : decide (254 < n) = false := decide_eq_false (by omega)
  have q4 : decide ((rest.length : Int) < 6 + n) = false := decide_eq_false (by omega)
  clear hz
  clear hx6
  have hp67 : (6 : Int) < (rest.length : Int) := by omega
  have hp6n : (6 < rest.length) = True := eq_true (by omega)
  go_enter Try.func38, Try.ntmps38
  go_upto_region 12 with (first | (go_at_call 46; have _t := tok1; (refine (wire_At.calls (some ad) c rest 2 z 0 _ (HV.out.at_ _ (Ext.toM HM.out (by (with_reducible repeat (first | exact Ext.refl _ _ | apply Ext.alloc | apply Ext.drewN | apply Ext.drew | refine Ext.setg ?_ _ | refine Ext.new ?_ (Nat.le_refl _) _))))) HC.out F1.out).mono ?_; rintro e w' ⟨rfl, ⟨nd1, rfl⟩⟩; clear tok1 _t; have tok2 := Aside0.mk trivial)) | (go_at_call 46; have _t := tok2; (refine (wire_At.calls (some ad) c rest 4 n 0 _ (HV.out.at_ _ (Ext.toM HM.out (by (with_reducible repeat (first | exact Ext.refl _ _ | apply Ext.alloc | apply Ext.drewN | apply Ext.drew | refine Ext.setg ?_ _ | refine Ext.new ?_ (Nat.le_refl _) _))))) HC.out F2.out).mono ?_; rintro e w' ⟨rfl, ⟨nd2, rfl⟩⟩; clear tok2 _t; have tok3 := Aside0.mk trivial)) | (go_at_call 46; have _t := tok3; (refine (wire_At.calls (some ad) c rest 0 t 0 _ (HV.out.at_ _ (Ext.toM HM.out (by (with_reducible repeat (first | exact Ext.refl _ _ | apply Ext.alloc | apply Ext.drewN | apply Ext.drew | refine Ext.setg ?_ _ | refine Ext.new ?_ (Nat.le_refl _) _))))) HC.out F3.out).mono ?_; rintro e w' ⟨rfl, ⟨nd3, rfl⟩⟩; clear tok3 _t; have tok4 := Aside0.mk trivial)))
  refine start_ (n := 18) (S := fun W => W.cell? ⟨g, 0, none⟩ = some (.slice (some ad) rest.length c) ∧ W.cell? ⟨ad.block, ad.off + 6, none⟩ = some (.int .u8 u)) (ds := []) #[false, false, false, false, false, false, false, false, false, false, false, false, false, false, false, false, false, false] (by kernel_rfl) rfl rfl ?_ (fun hHeld => ?_)
  · first | (exact ⟨(blk_cell (t := 72) (cs := #[.slice (some ad) rest.length c, .bool false]) (by (with_reducible repeat (first | refine blk_drewN ?_ _ | refine blk_drew ?_ | refine blk_alloc ?_ _ | refine blk_far ?_ hgn _)); exact BK.out) 0).trans rfl, HX6E.out.at_ _ (Ext.toM HM.out (by (with_reducible repeat (first | exact Ext.refl _ _ | apply Ext.alloc | apply Ext.drewN | apply Ext.drew | refine Ext.setg ?_ _ | refine Ext.new ?_ (Nat.le_refl _) _))))⟩) | (exact ⟨(blk_cell (t := 72) (cs := #[.slice (some ad) rest.length c, .bool false]) (by (with_reducible repeat (first | refine blk_drewN ?_ _ | refine blk_drew ?_ | refine blk_alloc ?_ _ | refine blk_far ?_ hgn2 _)); exact BK2.out) 0).trans rfl, HX6E.out.at_ _ (Ext.toM HM.out (by (with_reducible repeat (first | exact HE2.out | apply Ext.alloc | apply Ext.drewN | apply Ext.drew | refine Ext.setg ?_ _ | refine Ext.new ?_ hgw2 _))))⟩)
  refine pure_ (i := 0) (N := some 70) (v := ?_) (a' := ?_) #[true, false, false, false, false, false, false, false, false, false, false, false, false, false, false, false, false, false] rfl rfl (by kernel_rfl) (fun _ _ _ h => h) (Or.inl ⟨by rfl, ?_⟩) ?_ ?_
  rotate_left
  · intro w'
    go_simp
    with_reducible rfl
  rotate_left
  · simp only [Act.put, List.setIfInBounds_toArray, List.set_cons_zero, List.set_cons_succ, i64_w, i32_w]
    rfl
  refine pure_ (i := 1) (N := some 71) (v := ?_) (a' := ?_) #[true, true, false, false, false, false, false, false, false, false, false, false, false, false, false, false, false, false] rfl rfl (by kernel_rfl) (fun _ _ _ h => h) (Or.inl ⟨by rfl, ?_⟩) ?_ ?_
  rotate_left
  · intro w'
    go_simp
    with_reducible rfl
  rotate_left
  · simp only [Act.put, List.setIfInBounds_toArray, List.set_cons_zero, List.set_cons_succ, i64_w, i32_w]
    rfl
  refine pure_ (i := 2) (N := some 72) (v := ?_) (a' := ?_) #[true, true, true, false, false, false, false, false, false, false, false, false, false, false, false, false, false, false] rfl rfl (by kernel_rfl) (fun _ _ _ h => h) (Or.inl ⟨by rfl, ?_⟩) ?_ ?_
  rotate_left
  · intro w'
    go_simp
    with_reducible rfl
  rotate_left
  · simp only [Act.put, List.setIfInBounds_toArray, List.set_cons_zero, List.set_cons_succ, i64_w, i32_w]
    rfl
  refine pure_ (i := 3) (N := some 73) (v := ?_) (a' := ?_) #[true, true, true, true, false, false, false, false, false, false, false, false, false, false, false, false, false, false] rfl rfl (by kernel_rfl) (fun _ _ _ h => h) (Or.inl ⟨by rfl, ?_⟩) ?_ ?_
  rotate_left
  · intro w'
    go_simp
    with_reducible rfl
  rotate_left
  · simp only [Act.put, List.setIfInBounds_toArray, List.set_cons_zero, List.set_cons_succ, i64_w, i32_w]
    rfl
  refine take_ (i := 4) (N := some 74) (v := ?_) (a' := ?_) #[true, true, true, true, true, false, false, false, false, false, false, false, false, false, false, false, false, false] rfl rfl (by kernel_rfl) (fun _ _ _ h => h) (Or.inl ⟨by rfl, ?_⟩) hHeld ?_ ?_
  rotate_left
  · rintro w' ⟨s0, s1⟩
    go_simp
    with_reducible rfl
  rotate_left
  · simp only [Act.put, List.setIfInBounds_toArray, List.set_cons_zero, List.set_cons_succ, i64_w, i32_w]
    rfl
  refine take_ (i := 5) (N := some 75) (v := ?_) (a' := ?_) #[true, true, true, true, true, true, false, false, false, false, false, false, false, false, false, false, false, false] rfl rfl (by kernel_rfl) (fun _ _ _ h => h) (Or.inl ⟨by rfl, ?_⟩) hHeld ?_ ?_
  rotate_left
  · rintro w' ⟨s0, s1⟩
    go_simp
    with_reducible rfl
  rotate_left
  · simp only [Act.put, List.setIfInBounds_toArray, List.set_cons_zero, List.set_cons_succ, i64_w, i32_w]
    rfl
  refine take_ (i := 6) (N := some 76) (v := ?_) (a' := ?_) #[true, true, true, true, true, true, true, false, false, false, false, false, false, false, false, false, false, false] rfl rfl (by kernel_rfl) (fun _ _ _ h => h) (Or.inl ⟨by rfl, ?_⟩) hHeld ?_ ?_
  rotate_left
  · rintro w' ⟨s0, s1⟩
    go_simp
    with_reducible rfl
  rotate_left
  · simp only [Act.put, List.setIfInBounds_toArray, List.set_cons_zero, List.set_cons_succ, i64_w, i32_w]
    rfl
  refine take_ (i := 7) (N := some 77) (v := ?_) (a' := ?_) #[true, true, true, true, true, true, true, true, false, false, false, false, false, false, false, false, false, false] rfl rfl (by kernel_rfl) (fun _ _ _ h => h) (Or.inl ⟨by rfl, ?_⟩) hHeld ?_ ?_
  rotate_left
  · rintro w' ⟨s0, s1⟩
    go_simp
    with_reducible rfl
  rotate_left
  · simp only [Act.put, List.setIfInBounds_toArray, List.set_cons_zero, List.set_cons_succ, i64_w, i32_w]
    rfl
  refine pure_ (i := 8) (N := some 78) (v := ?_) (a' := ?_) #[true, true, true, true, true, true, true, true, true, false, false, false, false, false, false, false, false, false] rfl rfl (by kernel_rfl) (fun _ _ _ h => h) (Or.inl ⟨by rfl, ?_⟩) ?_ ?_
  rotate_left
  · intro w'
    go_simp
    with_reducible rfl
  rotate_left
  · simp only [Act.put, List.setIfInBounds_toArray, List.set_cons_zero, List.set_cons_succ, i64_w, i32_w]
    rfl
  refine pure_ (i := 9) (N := some 79) (v := ?_) (a' := ?_) #[true, true, true, true, true, true, true, true, true, true, false, false, false, false, false, false, false, false] rfl rfl (by kernel_rfl) (fun _ _ _ h => h) (Or.inl ⟨by rfl, ?_⟩) ?_ ?_
  rotate_left
  · intro w'
    go_simp
    with_reducible rfl
  rotate_left
  · simp only [Act.put, List.setIfInBounds_toArray, List.set_cons_zero, List.set_cons_succ, i64_w, i32_w]
    rfl
  refine pure_ (i := 10) (N := some 80) (v := ?_) (a' := ?_) #[true, true, true, true, true, true, true, true, true, true, true, false, false, false, false, false, false, false] rfl rfl (by kernel_rfl) (fun _ _ _ h => h) (Or.inl ⟨by rfl, ?_⟩) ?_ ?_
  rotate_left
  · intro w'
    go_simp
    with_reducible rfl
  rotate_left
  · simp only [Act.put, List.setIfInBounds_toArray, List.set_cons_zero, List.set_cons_succ, i64_w, i32_w]
    rfl
  refine take_ (i := 11) (N := some 81) (v := ?_) (a' := ?_) #[true, true, true, true, true, true, true, true, true, true, true, true, false, false, false, false, false, false] rfl rfl (by kernel_rfl) (fun _ _ _ h => h) (Or.inl ⟨by rfl, ?_⟩) hHeld ?_ ?_
  rotate_left
  · rintro w' ⟨s0, s1⟩
    go_simp
    with_reducible rfl
  rotate_left
  · simp only [Act.put, List.setIfInBounds_toArray, List.set_cons_zero, List.set_cons_succ, i64_w, i32_w]
    rfl
  refine pure_ (i := 12) (N := some 82) (v := ?_) (a' := ?_) #[true, true, true, true, true, true, true, true, true, true, true, true, true, false, false, false, false, false] rfl rfl (by kernel_rfl) (fun _ _ _ h => h) (Or.inl ⟨by rfl, ?_⟩) ?_ ?_
  rotate_left
  · intro w'
    go_simp
    with_reducible rfl
  rotate_left
  · simp only [Act.put, List.setIfInBounds_toArray, List.set_cons_zero, List.set_cons_succ, i64_w, i32_w]
    rfl
  refine pure_ (i := 13) (N := some 83) (v := ?_) (a' := ?_) #[true, true, true, true, true, true, true, true, true, true, true, true, true, true, false, false, false, false] rfl rfl (by kernel_rfl) (fun _ _ _ h => h) (Or.inl ⟨by rfl, ?_⟩) ?_ ?_
  rotate_left
  · intro w'
    go_simp
    with_reducible rfl
  rotate_left
  · simp only [Act.put, List.setIfInBounds_toArray, List.set_cons_zero, List.set_cons_succ, i64_w, i32_w]
    rfl
  refine take_ (i := 14) (N := some 84) (v := ?_) (a' := ?_) #[true, true, true, true, true, true, true, true, true, true, true, true, true, true, true, false, false, false] rfl rfl (by kernel_rfl) (fun _ _ _ h => h) (Or.inl ⟨by rfl, ?_⟩) hHeld ?_ ?_
  rotate_left
  · rintro w' ⟨s0, s1⟩
    go_simp
    with_reducible rfl
  rotate_left
  · simp only [Act.put, List.setIfInBounds_toArray, List.set_cons_zero, List.set_cons_succ, i64_w, i32_w]
    rfl
  refine pure_ (i := 15) (N := some 85) (v := ?_) (a' := ?_) #[true, true, true, true, true, true, true, true, true, true, true, true, true, true, true, true, false, false] rfl rfl (by kernel_rfl) (fun _ _ _ h => h) (Or.inl ⟨by rfl, ?_⟩) ?_ ?_
  rotate_left
  · intro w'
    go_simp
    with_reducible rfl
  rotate_left
  · simp only [Act.put, List.setIfInBounds_toArray, List.set_cons_zero, List.set_cons_succ, i64_w, i32_w]
    rfl
  refine one_ (i := 16) (N := some 11) #[true, true, true, true, true, true, true, true, true, true, true, true, true, true, true, true, true, false] rfl rfl (by kernel_rfl) (by decide) (fun K hK => ?_)
  refine box_step (by rfl) (N := 11) rfl (cs := #[.int .i64 0, .int .i64 0, .slice none 0 0]) (t := 37) ?hr ?_
  case hr => first | (go_simp; done) | (go_simp; rfl)
  intro g2 hg_ w2 hbox HBc
  have hgn2 : g ≠ g2 := by rw [hg_]; have := hgl; simp; omega
  have hgw2 : w.heap.size ≤ g2 := by rw [hg_]; simp
  have hrn2 : w.heap.size ≠ g2 := by rw [hg_]; simp
  have BK2 : Aside0 (w2.heap[g]? = some (.cells #[.slice (some ad) rest.length c, .bool false] 72 (0, 0))) := Aside0.mk (blk_below (g := g) (by (with_reducible repeat (first | refine blk_drewN ?_ _ | refine blk_drew ?_ | refine blk_alloc ?_ _ | refine blk_far ?_ hgn _)); exact BK.out) HBc)
  have BKr : Aside0 (w2.heap[w.heap.size]? = some (.cells #[.int .i64 0, .int .i64 0, .slice none 0 0] 37 (0, 0))) := Aside0.mk (blk_below (g := w.heap.size) (by (with_reducible repeat (first | refine blk_drewN ?_ _ | refine blk_drew ?_)); exact new_blk rfl) HBc)
  have HE2 : Aside0 (Ext (fun k => k = g) w w2) := ⟨Ext.then_below (by (with_reducible repeat (first | exact Ext.refl _ _ | apply Ext.alloc | apply Ext.drewN | apply Ext.drew | refine Ext.setg ?_ _ | refine Ext.new ?_ (Nat.le_refl _) _))) HBc⟩
  have BKn := Aside0.mk hbox
  clear hbox HBc hg_
  refine hK.out _ _ ?_ (fun hHeld => ?_)
  · first | (exact ⟨(blk_cell (t := 72) (cs := #[.slice (some ad) rest.length c, .bool false]) (by (with_reducible repeat (first | refine blk_drewN ?_ _ | refine blk_drew ?_ | refine blk_alloc ?_ _ | refine blk_far ?_ hgn _)); exact BK.out) 0).trans rfl, HX6E.out.at_ _ (Ext.toM HM.out (by (with_reducible repeat (first | exact Ext.refl _ _ | apply Ext.alloc | apply Ext.drewN | apply Ext.drew | refine Ext.setg ?_ _ | refine Ext.new ?_ (Nat.le_refl _) _))))⟩) | (exact ⟨(blk_cell (t := 72) (cs := #[.slice (some ad) rest.length c, .bool false]) (by (with_reducible repeat (first | refine blk_drewN ?_ _ | refine blk_drew ?_ | refine blk_alloc ?_ _ | refine blk_far ?_ hgn2 _)); exact BK2.out) 0).trans rfl, HX6E.out.at_ _ (Ext.toM HM.out (by (with_reducible repeat (first | exact HE2.out | apply Ext.alloc | apply Ext.drewN | apply Ext.drew | refine Ext.setg ?_ _ | refine Ext.new ?_ hgw2 _))))⟩)
  clear hK K
  refine norm_ (a' := ?_) ?_ ?_
  rotate_left
  · show Act.put _ (some 11) _ = _
    simp only [Act.put, List.setIfInBounds_toArray, List.set_cons_zero, List.set_cons_succ, i64_w, i32_w]
    rfl
  refine one_ (i := 17) (N := none) #[true, true, true, true, true, true, true, true, true, true, true, true, true, true, true, true, true, true] rfl rfl (by kernel_rfl) (by decide) (fun K hK => ?_)
  have hcn0 : w2.cell? ⟨g2, 0, none⟩ = some (.int .i64 0) := (blk_cell BKn.out 0).trans rfl; have hfn0 := blk_frozen BKn.out 0; have hcn1 : w2.cell? ⟨g2, 1, none⟩ = some (.int .i64 0) := (blk_cell BKn.out 1).trans rfl; have hfn1 := blk_frozen BKn.out 1; have hcn2 : w2.cell? ⟨g2, 2, none⟩ = some (.slice none 0 0) := (blk_cell BKn.out 2).trans rfl; have hfn2 := blk_frozen BKn.out 2
  refine skip_ (w1 := ?_) (by rfl) rfl ?_ ?_
  rotate_left
  · go_simp
    rfl
  refine hK.out _ _ ?_ (fun hHeld => ?_)
  · first | (exact ⟨(blk_cell (t := 72) (cs := #[.slice (some ad) rest.length c, .bool false]) (by (with_reducible repeat (first | refine blk_drewN ?_ _ | refine blk_drew ?_ | refine blk_alloc ?_ _ | refine blk_far ?_ hgn _)); exact BK.out) 0).trans rfl, HX6E.out.at_ _ (Ext.toM HM.out (by (with_reducible repeat (first | exact Ext.refl _ _ | apply Ext.alloc | apply Ext.drewN | apply Ext.drew | refine Ext.setg ?_ _ | refine Ext.new ?_ (Nat.le_refl _) _))))⟩) | (exact ⟨(blk_cell (t := 72) (cs := #[.slice (some ad) rest.length c, .bool false]) (by (with_reducible repeat (first | refine blk_drewN ?_ _ | refine blk_drew ?_ | refine blk_alloc ?_ _ | refine blk_far ?_ hgn2 _)); exact BK2.out) 0).trans rfl, HX6E.out.at_ _ (Ext.toM HM.out (by (with_reducible repeat (first | exact HE2.out | apply Ext.alloc | apply Ext.drewN | apply Ext.drew | refine Ext.setg ?_ _ | refine Ext.new ?_ hgw2 _))))⟩)
  clear hK K
  refine done_ (by kernel_rfl) ?_
  have BK3 : Aside0 ((((w2.setCell ⟨g2, 0, none⟩ (.int .i64 t)).setCell ⟨g2, 1, none⟩ (.int .i64 (wrap64 u))).setCell ⟨g2, 2, none⟩ (.slice A1 p.length (6 + n - 7).toNat)).heap[g]? = some (.cells #[.slice (some ad) rest.length c, .bool false] 72 (0, 0))) := Aside0.mk (blk_far (blk_far (blk_far BK2.out hgn2 _) hgn2 _) hgn2 _)
  have BKr3 : Aside0 ((((w2.setCell ⟨g2, 0, none⟩ (.int .i64 t)).setCell ⟨g2, 1, none⟩ (.int .i64 (wrap64 u))).setCell ⟨g2, 2, none⟩ (.slice A1 p.length (6 + n - 7).toNat)).heap[w.heap.size]? = some (.cells #[.int .i64 0, .int .i64 0, .slice none 0 0] 37 (0, 0))) := Aside0.mk (blk_far (blk_far (blk_far BKr.out hrn2 _) hrn2 _) hrn2 _)
  have BKn3 : Aside0 ((((w2.setCell ⟨g2, 0, none⟩ (.int .i64 t)).setCell ⟨g2, 1, none⟩ (.int .i64 (wrap64 u))).setCell ⟨g2, 2, none⟩ (.slice A1 p.length (6 + n - 7).toNat)).heap[g2]? = some (.cells #[.int .i64 t, .int .i64 (wrap64 u), .slice A1 p.length (6 + n - 7).toNat] 37 (0, 0))) := Aside0.mk (blk_put (cs := #[.int .i64 t, .int .i64 (wrap64 u), .slice none 0 0]) (cs' := #[.int .i64 t, .int .i64 (wrap64 u), .slice A1 p.length (6 + n - 7).toNat]) (blk_put (cs := #[.int .i64 t, .int .i64 0, .slice none 0 0]) (cs' := #[.int .i64 t, .int .i64 (wrap64 u), .slice none 0 0]) (blk_put (cs := #[.int .i64 0, .int .i64 0, .slice none 0 0]) (cs' := #[.int .i64 t, .int .i64 0, .slice none 0 0]) BKn.out 0 _ rfl) 1 _ rfl) 2 _ rfl)
  have HE3 : Aside0 (Ext (fun k => k = g) w (((w2.setCell ⟨g2, 0, none⟩ (.int .i64 t)).setCell ⟨g2, 1, none⟩ (.int .i64 (wrap64 u))).setCell ⟨g2, 2, none⟩ (.slice A1 p.length (6 + n - 7).toNat))) := ⟨(((HE2.out.new hgw2 _).new hgw2 _).new hgw2 _)⟩
  clear BK2 BKr BKn HE2 hcn0 hcn1 hcn2 hfn0 hfn1 hfn2 hcz0 hcz1 hfz0 hfz1
  have hwu : wrap64 u = u := by unfold wrap64; omega
  rw [hwu] at BK3 BKr3 BKn3 HE3
  have HWU := Aside0.mk hwu
  rw [hwu]
  clear hwu
  generalize (((w2.setCell ⟨g2, 0, none⟩ (.int .i64 t)).setCell ⟨g2, 1, none⟩ (.int .i64 u)).setCell ⟨g2, 2, none⟩ (.slice A1 p.length (6 + n - 7).toNat)) = w3 at BK3 BKr3 BKn3 HE3 ⊢
  have hcg0 : w3.cell? ⟨g, 0, none⟩ = some (.slice (some ad) rest.length c) := (blk_cell BK3.out 0).trans rfl; have hfg0 := blk_frozen BK3.out 0
  have hcn0 : w3.cell? ⟨g2, 0, none⟩ = some (.int .i64 t) := (blk_cell BKn3.out 0).trans rfl; have hfn0 := blk_frozen BKn3.out 0
  have hcn1 : w3.cell? ⟨g2, 1, none⟩ = some (.int .i64 u) := (blk_cell BKn3.out 1).trans rfl; have hfn1 := blk_frozen BKn3.out 1
  have hcn2 : w3.cell? ⟨g2, 2, none⟩ = some (.slice A1 p.length (6 + n - 7).toNat) := (blk_cell BKn3.out 2).trans rfl; have hfn2 := blk_frozen BKn3.out 2
  have hcr0 : w3.cell? ⟨w.heap.size, 0, none⟩ = some (.int .i64 0) := (blk_cell BKr3.out 0).trans rfl; have hfr0 := blk_frozen BKr3.out 0
  have hcr1 : w3.cell? ⟨w.heap.size, 1, none⟩ = some (.int .i64 0) := (blk_cell BKr3.out 1).trans rfl; have hfr1 := blk_frozen BKr3.out 1
  have hcr2 : w3.cell? ⟨w.heap.size, 2, none⟩ = some (.slice none 0 0) := (blk_cell BKr3.out 2).trans rfl; have hfr2 := blk_frozen BKr3.out 2
  have hgn2' : g2 ≠ g := fun e => hgn2 e.symm
  have hrn2' : g2 ≠ w.heap.size := fun e => hrn2 e.symm
  have hgnr : w.heap.size ≠ g := fun e => hgn e.symm
  go_wp2
  refine bodyPost_ret (v := .tuple #[.agg #[.int .i64 t, .int .i64 u, .slice A1 p.length (6 + n - 7).toNat], .bool true]) (by simp [results, Try.results38, go_sem, hgn, hgnr, hcr0, hcr1, hcr2, hcg0]) rfl ⟨A1, (6 + n - 7).toNat, rfl, hp1, HV1.out.step (Ext.toM HM.out (by (with_reducible repeat (first | exact HE3.out | apply Ext.alloc | apply Ext.drewN | apply Ext.drew | refine Ext.setg ?_ _ | refine Ext.new ?_ (Nat.le_refl _) _)))), ⟨A2, c - (6 + n).toNat, ?_, hp2, HV2.out.step (Ext.toM HM.out (by (with_reducible repeat (first | exact HE3.out | apply Ext.alloc | apply Ext.drewN | apply Ext.drew | refine Ext.setg ?_ _ | refine Ext.new ?_ (Nat.le_refl _) _))))⟩, (by (with_reducible repeat (first | exact HE3.out | apply Ext.alloc | apply Ext.drewN | apply Ext.drew | refine Ext.setg ?_ _ | refine Ext.new ?_ (Nat.le_refl _) _)))⟩
  (with_reducible repeat (first | refine blk_drewN ?_ _ | refine blk_drew ?_ | refine blk_alloc ?_ _ | refine blk_far ?_ hgn _)); exact blk_put (cs := #[.slice (some ad) rest.length c, .bool false]) BK3.out 0 _ rfl
end Go.Proofs.Ytabjlanomebonaa.StrA

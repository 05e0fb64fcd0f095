/- basculeref05.Rows on rows that are alike; rtu's Feed and Wait, all ways in one. -/
import Derived.Test.YtabjlanomebonaaExtL
namespace Go.Proofs.Ytabjlanomebonaa.ExtR
open Go.RowKit Go.Proofs.YtabjlanomebonaaW.PrintWords Go.Proofs.YtabjlanomebonaaW.PrintLast Go.Proofs.YtabjlanomebonaaW.PrintMore Go.Proofs.Ytabjlanomebonaa.Core Go.Proofs.Ytabjlanomebonaa.Ext Go.Proofs.Ytabjlanomebonaa.ExtG Go.Proofs.Ytabjlanomebonaa.ExtL Go.Proofs.Ytabjlanomebonaa.PZ
set_option linter.unusedVariables false
set_option linter.unusedSimpArgs false

set_option maxHeartbeats 4000000 in
set_option maxRecDepth 100000 in
theorem rows_true (A0 A1 : Option Addr) (c0 c1 : Nat) (ls : List (List Int)) (w : World) (H0 : Aside0 (Kd.C (Kd.slice 5 (Kd.int .u8)) w A0 ls.length ls)) (H1 : Aside0 (Kd.C (Kd.slice 5 (Kd.int .u8)) w A1 ls.length ls)) :
    Calls Try.prog 17 #[.slice A0 ls.length c0, .slice A1 ls.length c1] w fun e w' => e = .returned (.bool true) ∧ Drawn0 w w' := by
  have hm := H0.out.2.1
  have hne : ((ls.length : Int) != (ls.length : Int)) = false := by simp
  go_enter Try.func17, Try.ntmps17
  go_wp2
  go_loopw [5] (fun v5 wr => ∃ k : Nat, k ≤ ls.length ∧ v5 = .int .i64 k ∧ Aside0 (Drawn0 w wr)) (fun v5 _ => ls.length - (intOf v5).toNat)
  case atStart => exact ⟨0, Nat.zero_le _, rfl, ⟨Drawn0.refl _⟩⟩
  case round =>
    obtain ⟨k, hk, rfl, ⟨⟨n, rfl⟩⟩⟩ := hrel
    by_cases hlt : k < ls.length
    · obtain ⟨ad, A, c, rfl, hx0, hl0, hc0⟩ := at_L1 H0.out (k : Int) (by omega) (by omega)
      obtain ⟨ad1, A', c', rfl, hx1, hl1, hc1⟩ := at_L1 H1.out (k : Int) (by omega) (by omega)
      rw [Int.toNat_natCast] at hx0 hx1
      generalize rd_L1 ls (k : Int) = x at hx0 hx1 hl0 hl1 hc0 hc1
      have hs0 : ∀ m, Sem.run Try.prog (convert 22 9 (.slice A x.length c)) (w.drewN m) = .ok (.string (strOfNums x)) (w.drewN m) := fun m => string_of_reads (P := Try.prog) (c := c) Try.underlying22 Try.underlying5 Try.underlying9 (Kd.reads_of_C (Kd.C_drewN hc0 m))
      have hs1 : ∀ m, Sem.run Try.prog (convert 22 9 (.slice A' x.length c')) (w.drewN m) = .ok (.string (strOfNums x)) (w.drewN m) := fun m => string_of_reads (P := Try.prog) (c := c') Try.underlying22 Try.underlying5 Try.underlying9 (Kd.reads_of_C (Kd.C_drewN hc1 m))
      have hq : ((strOfNums x).toList == (strOfNums x).toList) = true := by simp
      clear hc0 hc1 hl0 hl1
      go_wp2
      go_quiet (fail)
      go_wp2
      go_roundw
      case rel => exact ⟨k + 1, by omega, by go_num, ⟨Drawn0.step (Drawn0.refl _) _⟩⟩
      case measure => simp [intOf]; omega
    · go_wp2
      go_ret
      exact ⟨rfl, Drawn0.step (Drawn0.refl _) _⟩

/-- Feed: is what came told? what is told; what came then; when last. -/
def lGone (gap last : Int) (came : List Int) (t : Int) : Bool := decide (0 < came.length) && decide (gap ≤ t - last)
def lOut (gap last : Int) (came : List Int) (t : Int) : List (List Int) := if lGone gap last came t = true then (if came.length ≤ 256 then [came] else []) else []
def lCame (gap last : Int) (came : List Int) (t : Int) (b : List Int) : List Int := if lGone gap last came t = true then b else came ++ b
def lLast (last t : Int) (b : List Int) : Int := if 0 < b.length then t else last
theorem feed (M : Nat → Prop) (g : Nat) (now gap last t : Int) (came b : List Int) (A2 : Option Addr) (c2 : Nat) (w : World) (hM : M g) (hMb : ∀ k, M k → k < w.heap.size) (hL : IsLine M w g now gap last came) (hV : Ever M w (fun W => Kd.C (Kd.int .u8) W A2 b.length b)) (hlc : came.length ≤ 17592186044416) (hlb : b.length ≤ 17592186044416)
    (h0 : 0 ≤ t) (h1 : now ≤ t) (hl0 : 0 ≤ last) (hlt : last ≤ t) (ht : t ≤ 9223372036854775807) (out : List (List Int)) (came' : List Int) (last' : Int) (ho : lOut gap last came t = out) (hc : lCame gap last came t b = came') (hl : lLast last t b = last') :
    Calls Try.prog 14 #[.pointer (some ⟨g, 0, none⟩), .int .i64 t, .slice A2 b.length c2] w fun e w' => ∃ v', e = .returned (.tuple #[v', .int .i64 0]) ∧ IsRow (Kd.slice 5 (Kd.int .u8)) M w' v' out ∧ IsLine M w' g t gap last' came' ∧ Ext (fun k => k = g) w w' := by
  have g0 : decide (t < 0) = false := by simp; omega
  have g1 : decide (t < now) = false := by simp; omega
  subst ho hc hl
  unfold lOut lCame lLast
  by_cases e0 : came = []
  · subst e0
    have q : lGone gap last [] t = false := rfl
    simp only [q, Bool.false_eq_true, if_false, List.nil_append]
    by_cases eb : b = []
    · subst eb
      exact feed_en M g now gap last t [] [] A2 c2 w hM hMb hL hV hlc hlb g0 g1 rfl rfl rfl rfl
    · have hb : 0 < b.length := List.length_pos_iff.2 eb
      rw [if_pos hb]
      exact feed_eb M g now gap last t [] b A2 c2 w hM hMb hL hV hlc hlb g0 g1 rfl rfl (by simp; omega) (by simp; omega)
  · have hp : 0 < came.length := List.length_pos_iff.2 e0
    have p0 : decide ((0 : Int) < (came.length : Int)) = true := by simp; omega
    have p1 : decide (0 < came.length) = true := by simp; omega
    by_cases hg : gap ≤ t - last
    · have q : lGone gap last came t = true := by simp [lGone, hg, hp]
      have hgb : decide (gap ≤ t - last) = true := by simpa using hg
      simp only [q, if_true]
      by_cases h256 : came.length ≤ 256
      · rw [if_pos h256]
        have s0 : decide ((came.length : Int) ≤ 256) = true := by simp; omega
        have s1 : decide (came.length ≤ 256) = true := by simp; omega
        by_cases eb : b = []
        · subst eb
          exact feed_tn M g now gap last t came [] A2 c2 w hM hMb hL hV hlc hlb g0 g1 p0 p1 hl0 hlt ht hgb s0 s1 rfl rfl
        · have hb : 0 < b.length := List.length_pos_iff.2 eb
          rw [if_pos hb]
          exact feed_tb M g now gap last t came b A2 c2 w hM hMb hL hV hlc hlb g0 g1 p0 p1 hl0 hlt ht hgb s0 s1 (by simp; omega) (by simp; omega)
      · rw [if_neg h256]
        have s0 : decide ((came.length : Int) ≤ 256) = false := by simp; omega
        have s1 : decide (came.length ≤ 256) = false := by simp; omega
        by_cases eb : b = []
        · subst eb
          exact feed_ln M g now gap last t came [] A2 c2 w hM hMb hL hV hlc hlb g0 g1 p0 p1 hl0 hlt ht hgb s0 s1 rfl rfl
        · have hb : 0 < b.length := List.length_pos_iff.2 eb
          rw [if_pos hb]
          exact feed_lb M g now gap last t came b A2 c2 w hM hMb hL hV hlc hlb g0 g1 p0 p1 hl0 hlt ht hgb s0 s1 (by simp; omega) (by simp; omega)
    · have q : lGone gap last came t = false := by simp [lGone, hg]
      have hgb : decide (gap ≤ t - last) = false := by simpa using hg
      simp only [q, Bool.false_eq_true, if_false]
      by_cases eb : b = []
      · subst eb
        rw [List.append_nil]
        exact feed_kn M g now gap last t came [] A2 c2 w hM hMb hL hV hlc hlb g0 g1 p0 p1 hl0 hlt ht hgb rfl rfl
      · have hb : 0 < b.length := List.length_pos_iff.2 eb
        rw [if_pos hb]
        exact feed_kb M g now gap last t came b A2 c2 w hM hMb hL hV hlc hlb g0 g1 p0 p1 hl0 hlt ht hgb (by simp; omega) (by simp; omega)

theorem wait (M : Nat → Prop) (g : Nat) (now gap last t : Int) (came : List Int) (w : World) (hM : M g) (hMb : ∀ k, M k → k < w.heap.size) (hL : IsLine M w g now gap last came) (hlc : came.length ≤ 17592186044416)
    (h0 : 0 ≤ t) (h1 : now ≤ t) (hl0 : 0 ≤ last) (hlt : last ≤ t) (ht : t ≤ 9223372036854775807) (out : List (List Int)) (came' : List Int) (ho : lOut gap last came t = out) (hc : lCame gap last came t [] = came') :
    Calls Try.prog 15 #[.pointer (some ⟨g, 0, none⟩), .int .i64 t] w fun e w' => ∃ v', e = .returned (.tuple #[v', .int .i64 0]) ∧ IsRow (Kd.slice 5 (Kd.int .u8)) M w' v' out ∧ IsLine M w' g t gap last came' ∧ Ext (fun k => k = g) w w' := by
  have HF := Aside0.mk (feed M g now gap last t came [] none 0 w hM hMb hL (Ever.nil _) hlc (by simp) h0 h1 hl0 hlt ht out came' last ho hc rfl)
  clear hM hMb hL
  go_enter Try.func15, Try.ntmps15
  go_wp2_with (go_at_call 14; refine HF.out.mono ?_; rintro e w1 ⟨v', rfl, hr, hl, hx⟩)
  go_ret2
  exact ⟨_, rfl, hr, hl, hx⟩

/-- A row of one row, just laid. -/
theorem lit1 {W : World} {A : Option Addr} {c : Nat} {b : List Int} {g : Nat} (hg : g = W.heap.size) (h : Kd.C (Kd.int .u8) W A b.length b) (hc : b.length ≤ c) : Kd.C (Kd.slice 5 (Kd.int .u8)) (W.alloc (.cells #[.slice A b.length c] 22)) (some ⟨g, 0, none⟩) 1 [b] := by
  refine ⟨rfl, by omega, fun _ => ⟨_, rfl, fun j p hj => ?_⟩⟩
  have hj0 : j = 0 := by have := (List.getElem?_eq_some_iff.1 hj).1; simpa using this
  subst hj0
  have hp : b = p := by simpa using hj
  subst hp
  refine ⟨[.slice A b.length c], rfl, ⟨A, c, rfl, hc, Kd.C_alloc h _⟩, fun i u hu => ?_⟩
  have hi0 : i = 0 := by have := (List.getElem?_eq_some_iff.1 hu).1; simpa using this
  subst hi0
  rw [add_plain]
  exact (blk_cell (new_blk hg) 0).trans (by simpa using hu)
theorem ever_below {o : Obj} {w wr : World} (h : Ext (fun k => k = w.heap.size) (w.alloc o) wr) : Below w.heap.size w wr := Ext.below (M := fun k => k = w.heap.size) (((Ext.refl _ w).alloc _).trans h) (fun k hk => by omega)
end Go.Proofs.Ytabjlanomebonaa.ExtR

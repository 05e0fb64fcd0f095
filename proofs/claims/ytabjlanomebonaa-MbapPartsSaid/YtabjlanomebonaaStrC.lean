/- basculeref06.Same on rows of frames that are alike; an empty row just laid. -/
import Derived.Test.YtabjlanomebonaaStrB
namespace Go.Proofs.Ytabjlanomebonaa.StrC
open Go.RowKit Go.Proofs.YtabjlanomebonaaW.PrintWords Go.Proofs.YtabjlanomebonaaW.PrintLast Go.Proofs.YtabjlanomebonaaW.PrintMore Go.Proofs.Ytabjlanomebonaa.Core Go.Proofs.Ytabjlanomebonaa.Ext Go.Proofs.Ytabjlanomebonaa.ExtG
set_option linter.unusedVariables false
set_option linter.unusedSimpArgs false
set_option maxHeartbeats 8000000 in
set_option maxRecDepth 100000 in
theorem same_true (A0 A1 : Option Addr) (c0 c1 : Nat) (ls : List PZ.S37) (w : World) (H0 : Aside0 (Kd.C PZ.k37 w A0 ls.length ls)) (H1 : Aside0 (Kd.C PZ.k37 w A1 ls.length ls)) :
    Calls Try.prog 28 #[.slice A0 ls.length c0, .slice A1 ls.length c1] w fun e w' => e = .returned (.bool true) ∧ Drawn0 w w' := by
  have hm := H0.out.2.1
  have hne : ((ls.length : Int) != (ls.length : Int)) = false := by simp
  go_enter Try.func28, Try.ntmps28
  go_wp2
  go_loopw [5] (fun v5 wr => ∃ k : Nat, k ≤ ls.length ∧ v5 = .int .i64 k ∧ Aside0 (Drawn0 w wr)) (fun v5 _ => ls.length - (intOf v5).toNat)
  case atStart => exact ⟨0, Nat.zero_le _, rfl, ⟨Drawn0.refl _⟩⟩
  case round =>
    obtain ⟨k, hk, rfl, ⟨⟨n, rfl⟩⟩⟩ := hrel
    by_cases hlt : k < ls.length
    · obtain ⟨ad, A, c, rfl, hx0, hx1, hx2, hl0, hc0⟩ := PZ.at_T37 H0.out (k : Int) (by omega) (by omega)
      obtain ⟨ad1, A', c', rfl, hy0, hy1, hy2, hl1, hc1⟩ := PZ.at_T37 H1.out (k : Int) (by omega) (by omega)
      rw [Int.toNat_natCast] at hx0 hx1 hx2 hy0 hy1 hy2
      generalize PZ.rd_T37 ls (k : Int) = x at hx0 hx1 hx2 hy0 hy1 hy2 hl0 hl1 hc0 hc1
      obtain ⟨t, u, p⟩ := x
      simp only at hx0 hx1 hx2 hy0 hy1 hy2 hl0 hl1 hc0 hc1
      have hs0 : ∀ m, Sem.run Try.prog (convert 22 9 (.slice A p.length c)) (w.drewN m) = .ok (.string (strOfNums p)) (w.drewN m) := fun m => string_of_reads (P := Try.prog) (c := c) Try.underlying22 Try.underlying5 Try.underlying9 (Kd.reads_of_C (Kd.C_drewN hc0 m))
      have hs1 : ∀ m, Sem.run Try.prog (convert 22 9 (.slice A' p.length c')) (w.drewN m) = .ok (.string (strOfNums p)) (w.drewN m) := fun m => string_of_reads (P := Try.prog) (c := c') Try.underlying22 Try.underlying5 Try.underlying9 (Kd.reads_of_C (Kd.C_drewN hc1 m))
      have hq : ((strOfNums p).toList == (strOfNums p).toList) = true := by simp
      have ht : (t != t) = false := by simp
      have hu : (u != u) = false := by simp
      clear hc0 hc1 hl0 hl1
      go_wp2
      go_quiet (fail)
      go_wp2
      go_roundw
      case rel => exact ⟨k + 1, by omega, by go_num, ⟨Drawn0.step (Drawn0.refl _) _⟩⟩
      case measure => simp [intOf]; omega
    · go_wp2
      go_ret
      exact ⟨rfl, Drawn0.step (Drawn0.refl _) _⟩
theorem OwnE_empty {α : Type} (d : Kd α) (M : Nat → Prop) (e : TypeId) (base : Nat) {W : World} {g : Nat} (hg : W.heap[g]? = some (.cells #[] e (0, 0))) (hb : base ≤ g) : OwnE d M e base W (.slice (some ⟨g, 0, none⟩) 0 0) [] :=
  ⟨[], ⟨by simp, .inr ⟨g, 0, #[], rfl, hb, hg, Nat.le_refl _, by simp [maxLen], by simp, by simp⟩⟩, Reps.none _ _⟩
end Go.Proofs.Ytabjlanomebonaa.StrC

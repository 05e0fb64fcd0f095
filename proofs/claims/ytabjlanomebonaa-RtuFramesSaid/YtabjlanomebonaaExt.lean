/- Contracts of functions that the laws of layers 1 and 2 reach: step, Add, behind, Text, as plain Lean functions. -/
import Derived.Test.YtabjlanomebonaaPZx0
namespace Go.Proofs.Ytabjlanomebonaa.Ext
open Go.RowKit Go.Proofs.YtabjlanomebonaaW.PrintWords Go.Proofs.YtabjlanomebonaaW.PrintLast Go.Proofs.YtabjlanomebonaaW.PrintMore
set_option linter.unusedVariables false
set_option linter.unusedSimpArgs false

def cbit (s : Nat) : Nat := (s / 2) ^^^ (40961 * (s % 2))
def citer : Nat → Nat → Nat
  | 0, s => s
  | n + 1, s => citer n (cbit s)
theorem cbit_lt (s : Nat) (h : s < 65536) : cbit s < 65536 := by
  unfold cbit
  have h1 : s / 2 < 2 ^ 16 := by omega
  have h2 : 40961 * (s % 2) < 2 ^ 16 := by omega
  exact Nat.xor_lt_two_pow h1 h2
def crcStep (s x : Nat) : Nat := citer 8 (s ^^^ x)
def crc_step.f (a0 a1 : Int) : Option Int := if 0 ≤ a0 ∧ a0 < 65536 ∧ 0 ≤ a1 ∧ a1 < 256 then some (crcStep a0.toNat a1.toNat : Nat) else none

theorem crc_bit (s : Nat) (h : s < 65536) : bits .xor .u16 ((s : Int) / 2) (bits .and .u16 40961 (IntKind.u16.wrap (-bits .and .u16 (s : Int) 1))) = (cbit s : Nat) := by
  have e1 : bits .and .u16 (s : Int) 1 = ((s % 2 : Nat) : Int) := by
    rw [show (1 : Int) = ((1 : Nat) : Int) from rfl, u16_and_nat s 1 h (by omega), Nat.and_one_is_mod]
  rw [e1, IntKind.wrap_u16]
  have e2 : (-((s % 2 : Nat) : Int)) % 65536 = ((65535 * (s % 2) : Nat) : Int) := by
    rcases Nat.mod_two_eq_zero_or_one s with h | h <;> rw [h] <;> rfl
  rw [e2, show (40961 : Int) = ((40961 : Nat) : Int) from rfl, u16_and_nat 40961 _ (by omega) (by omega)]
  have e3 : (40961 &&& 65535 * (s % 2)) = 40961 * (s % 2) := by
    rcases Nat.mod_two_eq_zero_or_one s with h | h <;> rw [h] <;> rfl
  rw [e3, show ((s : Int) / 2) = ((s / 2 : Nat) : Int) from by omega, u16_xor_nat _ _ (by omega) (by omega)]
  rfl

set_option maxHeartbeats 8000000 in
set_option maxRecDepth 1000000 in
theorem crc_step.calls (a0 a1 r : Int) (w : World) (h : crc_step.f a0 a1 = some r) :
    Calls Try.prog 50 #[.int .u16 a0, .int .u8 a1] w fun e w' => e = .returned (.int .u16 r) ∧ Drawn0 w w' := by
  unfold crc_step.f at h
  by_cases hc : 0 ≤ a0 ∧ a0 < 65536 ∧ 0 ≤ a1 ∧ a1 < 256
  · rw [if_pos hc] at h
    obtain ⟨h0, h1, h2, h3⟩ := hc
    obtain rfl := Option.some.inj h
    obtain ⟨s, rfl⟩ := Int.eq_ofNat_of_zero_le h0
    obtain ⟨x, rfl⟩ := Int.eq_ofNat_of_zero_le h2
    go_enter Try.func50, Try.ntmps50
    go_wp2
    refine wp_scope_jumps 0 (fun a' w' => w' = w ∧ ∃ (m s' : Nat) (u6 u7 u8 u9 u10 u11 u12 u13 u14 u15 u16 u17 u18 u19 u20 u21 u22 u23 : Value), a' = { tmps := #[.int .u16 s', .int .u8 x, undef, undef, .int .u16 0, .int .i64 (m + 1 : Nat), u6, u7, u8, u9, u10, u11, u12, u13, u14, u15, u16, u17, u18, u19, u20, u21, u22, u23, undef], defers := [] } ∧ s' < 65536 ∧ m < 8 ∧ citer (m + 1) s' = crcStep s x) (fun a' _ => (Go.RowKit.intOf (a'.tmps.getD 5 undef)).toNat) rfl ?_ ?_
    · go_wp2
      go_step3
      go_wp2
      go_step3
      have hsx : s ^^^ x < 65536 := Nat.xor_lt_two_pow (n := 16) (by omega) (by omega)
      rw [u16_xor_nat s x (by omega) (by omega), crc_bit _ hsx]
      exact ⟨rfl, rfl, 6, cbit (s ^^^ x), _, _, _, _, _, _, _, _, _, _, _, _, _, _, _, _, _, _, rfl, cbit_lt _ hsx, by omega, rfl⟩
    · rintro a' w' ⟨rfl, m, s', u6, u7, u8, u9, u10, u11, u12, u13, u14, u15, u16, u17, u18, u19, u20, u21, u22, u23, rfl, hs, hm, hi⟩
      have hb := crc_bit s' hs
      have HI : Aside0 (citer m (cbit s') = crcStep s x) := ⟨hi⟩
      clear hi
      go_wp2
      · have hpos : 0 < m := by assumption
        go_step3
        obtain ⟨j, rfl⟩ : ∃ j, m = j + 1 := ⟨m - 1, by omega⟩
        refine ⟨rfl, ⟨rfl, j, cbit s', _, _, _, _, _, _, _, _, _, _, _, _, _, _, _, _, _, _, rfl, cbit_lt _ hs, by omega, HI.out⟩, ?_⟩
        simp [Go.RowKit.intOf] <;> omega
      · have hneg : ¬ 0 < m := by assumption
        obtain rfl : m = 0 := by omega
        have e := HI.out
        simp only [Exit.jump]
        go_ret
        exact ⟨by rw [show cbit s' = crcStep s x from e]; simp, Drawn0.refl _⟩
  · rw [if_neg hc] at h
    cases h
end Go.Proofs.Ytabjlanomebonaa.Ext

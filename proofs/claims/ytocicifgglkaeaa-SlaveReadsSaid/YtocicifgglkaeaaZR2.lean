/- The words, contracts and walks that this claim leans on, put together by a program of this session (part 2). -/
import Derived.Test.YtocicifgglkaeaaZR1
import Derived.Laws.CopyRow
section
namespace Go.Proofs.Ytocicifgglkaeaa.SlvA
open Go.RowKit Go.Proofs.YtocicifgglkaeaaW.PrintWords Go.Proofs.YtocicifgglkaeaaW.PrintLast Go.Proofs.YtocicifgglkaeaaW.PrintMore Go.Proofs.Ytocicifgglkaeaa.Core Go.Proofs.Ytocicifgglkaeaa.Wk Go.Proofs.Ytocicifgglkaeaa.Chk
set_option linter.unusedVariables false
set_option linter.unusedSimpArgs false
attribute [local go_sem] max2_int min2_int max_two min_two
theorem info3 : (Try.prog.info? 3).map (fun i => (i.zero, i.size, i.bytes)) = some (some (.int .i64 0), 1, 8) := by kernel_rfl
theorem one3 : (Try.prog.info? 3).map (·.size) = some 1 := by kernel_rfl
def sl (R : Nat → Nat) (X : Nat → List Int) (k : Nat) : Value := .slice (some ⟨R k, 0, none⟩) (X k).length (X k).length
structure IsSlv (T : TypeId) (W : World) (g : Nat) (R : Nat → Nat) (X : Nat → List Int) : Prop where
  blk : W.heap[g]? = some (.cells #[sl R X 0, sl R X 1, sl R X 2, sl R X 3] T (0, 0))
  row : ∀ k, k < 4 → W.heap[R k]? = some (.cells ((X k).map (Value.int .i64)).toArray 3 (0, 0))
  inj : ∀ i j, i < 4 → j < 4 → R i = R j → i = j
  ne : ∀ k, k < 4 → R k ≠ g
  len : ∀ k, k < 4 → (X k).length ≤ 65536
def Fp (g : Nat) (R : Nat → Nat) (k : Nat) : Prop := k = g ∨ ∃ i, i < 4 ∧ k = R i
def upd (X : Nat → List Int) (k : Nat) (l : List Int) : Nat → List Int := fun j => if j = k then l else X j
section
variable {T : TypeId} {W W' : World} {g : Nat} {R : Nat → Nat} {X : Nat → List Int} {F : Nat → Prop}
theorem IsSlv.ext (h : IsSlv T W g R X) (E : Ext F W W') (hF : ∀ k, Fp g R k → ¬ F k) : IsSlv T W' g R X :=
  ⟨Ext.blk E h.blk (hF g (.inl rfl)), fun k hk => Ext.blk E (h.row k hk) (hF _ (.inr ⟨k, hk, rfl⟩)), h.inj, h.ne, h.len⟩
theorem IsSlv.below (h : IsSlv T W g R X) (k : Below W.heap.size W W') : IsSlv T W' g R X := h.ext (Ext.none_ k) (fun _ _ e => e)
theorem IsSlv.lt (h : IsSlv T W g R X) : ∀ k, Fp g R k → k < W.heap.size := fun k hk => by
  rcases hk with e | ⟨i, hi, e⟩
  · rw [e]; exact blk_lt h.blk
  · rw [e]; exact blk_lt (h.row i hi)
theorem IsSlv.cell (h : IsSlv T W g R X) {k : Nat} (hk : k < 4) : W.cell? ⟨g, k, none⟩ = some (sl R X k) := by
  rw [blk_cell h.blk k]
  match k, hk with
  | 0, _ => rfl
  | 1, _ => rfl
  | 2, _ => rfl
  | 3, _ => rfl
theorem IsSlv.at_ (h : IsSlv T W g R X) {k i : Nat} (hk : k < 4) (hi : i < (X k).length) : W.cell? ⟨R k, i, none⟩ = some (.int .i64 ((X k).getD i 0)) := row_cell (h.row k hk) hi
theorem upd_len (X : Nat → List Int) (k : Nat) (l : List Int) (hl : l.length = (X k).length) (j : Nat) : (upd X k l j).length = (X j).length := by
  unfold upd; by_cases e : j = k
  · rw [if_pos e, hl, e]
  · rw [if_neg e]
theorem IsSlv.put (h : IsSlv T W g R X) {k : Nat} (hk : k < 4) {l : List Int} (hl : l.length = (X k).length) (E : Ext (fun b => b = R k) W W') (hb : W'.heap[R k]? = some (.cells (l.map (Value.int .i64)).toArray 3 (0, 0))) : IsSlv T W' g R (upd X k l) := by
  have hs : ∀ j, sl R (upd X k l) j = sl R X j := fun j => by unfold sl; rw [upd_len X k l hl j]
  refine ⟨by rw [hs, hs, hs, hs]; exact Ext.blk E h.blk (fun e => h.ne k hk e.symm), fun j hj => ?_, h.inj, h.ne, fun j hj => by rw [upd_len X k l hl j]; exact h.len j hj⟩
  by_cases e : j = k
  · subst e; unfold upd; rw [if_pos rfl]; exact hb
  · have : upd X k l j = X j := by unfold upd; rw [if_neg e]
    rw [this]; exact Ext.blk E (h.row j hj) (fun e2 => e (h.inj j k hj hk e2))
end
def has (X : Nat → List Int) (kind addr : Int) : Prop := 1 ≤ kind ∧ kind ≤ 4 ∧ 0 ≤ addr ∧ addr < (X (kind - 1).toNat).length
instance (X : Nat → List Int) (kind addr : Int) : Decidable (has X kind addr) := by unfold has; infer_instance
set_option maxHeartbeats 4000000 in
set_option maxRecDepth 100000 in
theorem place_1 {w : World} {g : Nat} {R : Nat → Nat} {X : Nat → List Int} (h : IsSlv 77 w g R X) (kind addr : Int) (hk : kind < 1) : Calls Try.prog 48 #[.pointer (some ⟨g, 0, none⟩), .int .i64 kind, .int .i64 addr] w fun e w' => e = .returned (.tuple #[.pointer none, .int .i64 1]) ∧ w = w' := by
  have t1 : decide (kind < 1) = true := decide_eq_true (by omega)
  clear h hk
  go_enter Try.func48, Try.ntmps48
  go_wp2
  go_ret2
  exact ⟨rfl, rfl⟩
set_option maxHeartbeats 4000000 in
set_option maxRecDepth 100000 in
theorem place_2 {w : World} {g : Nat} {R : Nat → Nat} {X : Nat → List Int} (h : IsSlv 77 w g R X) (kind addr : Int) (hk : 4 < kind) : Calls Try.prog 48 #[.pointer (some ⟨g, 0, none⟩), .int .i64 kind, .int .i64 addr] w fun e w' => e = .returned (.tuple #[.pointer none, .int .i64 1]) ∧ w = w' := by
  have t1 : decide (kind < 1) = false := decide_eq_false (by omega)
  have t2 : decide (4 < kind) = true := decide_eq_true (by omega)
  clear h hk
  go_enter Try.func48, Try.ntmps48
  go_wp2
  go_ret2
  exact ⟨rfl, rfl⟩
set_option maxHeartbeats 4000000 in
set_option maxRecDepth 100000 in
theorem place_3 {w : World} {g : Nat} {R : Nat → Nat} {X : Nat → List Int} (h : IsSlv 77 w g R X) (kind addr : Int) (h1 : 1 ≤ kind) (h2 : kind ≤ 4) (ha : addr < 0) : Calls Try.prog 48 #[.pointer (some ⟨g, 0, none⟩), .int .i64 kind, .int .i64 addr] w fun e w' => e = .returned (.tuple #[.pointer none, .int .i64 1]) ∧ w = w' := by
  have t1 : decide (kind < 1) = false := decide_eq_false (by omega)
  have t2 : decide (4 < kind) = false := decide_eq_false (by omega)
  have t3 : decide (addr < 0) = true := decide_eq_true (by omega)
  clear h h1 h2 ha
  go_enter Try.func48, Try.ntmps48
  go_wp2
  go_ret2
  exact ⟨rfl, rfl⟩
set_option maxHeartbeats 4000000 in
set_option maxRecDepth 100000 in
theorem place_4 {w : World} {g : Nat} {R : Nat → Nat} {X : Nat → List Int} (h : IsSlv 77 w g R X) (kind addr : Int) (h1 : 1 ≤ kind) (h2 : kind ≤ 4) (h3 : 0 ≤ addr) (ha : (X (kind - 1).toNat).length ≤ addr) : Calls Try.prog 48 #[.pointer (some ⟨g, 0, none⟩), .int .i64 kind, .int .i64 addr] w fun e w' => e = .returned (.tuple #[.pointer none, .int .i64 1]) ∧ w = w' := by
  obtain ⟨K, rfl⟩ : ∃ K : Nat, kind = (K : Int) + 1 := ⟨(kind - 1).toNat, by omega⟩
  have hK : K < 4 := by omega
  have e1 : ((K : Int) + 1 - 1).toNat = K := by rw [Int.add_sub_cancel]; exact Int.toNat_natCast K
  have hcg := h.cell hK
  unfold sl at hcg
  rw [e1] at ha
  have t1 : decide ((K : Int) + 1 < 1) = false := decide_eq_false (by omega)
  have t2 : decide (4 < (K : Int) + 1) = false := decide_eq_false (by omega)
  have t3 : decide (addr < 0) = false := decide_eq_false (by omega)
  have t4 : decide (((X K).length : Int) ≤ addr) = true := decide_eq_true (by omega)
  have hlK := h.len K hK
  generalize (X K).length = n at *
  have hK0 : (0 : Int) ≤ (K : Int) := (by omega); have hK1 : (K : Int) < 4 := (by omega); have hK2 : (K < 4) = True := eq_true hK
  clear h h1 h2 e1
  go_enter Try.func48, Try.ntmps48
  go_wp2
  go_ret2
  exact ⟨rfl, rfl⟩
set_option maxHeartbeats 4000000 in
set_option maxRecDepth 100000 in
theorem place_5 {w : World} {g : Nat} {R : Nat → Nat} {X : Nat → List Int} (h : IsSlv 77 w g R X) (kind addr : Int) (hh : has X kind addr) : Calls Try.prog 48 #[.pointer (some ⟨g, 0, none⟩), .int .i64 kind, .int .i64 addr] w fun e w' => e = .returned (.tuple #[.pointer (some ⟨R (kind - 1).toNat, addr.toNat, none⟩), .int .i64 0]) ∧ w = w' := by
  obtain ⟨h1, h2, h3, ha⟩ := hh
  obtain ⟨K, rfl⟩ : ∃ K : Nat, kind = (K : Int) + 1 := ⟨(kind - 1).toNat, by omega⟩
  have hK : K < 4 := by omega
  have e1 : ((K : Int) + 1 - 1).toNat = K := by rw [Int.add_sub_cancel]; exact Int.toNat_natCast K
  have hcg := h.cell hK
  unfold sl at hcg
  obtain ⟨a, rfl⟩ := Int.eq_ofNat_of_zero_le h3
  rw [e1] at ha ⊢
  rw [Int.toNat_natCast]
  have t1 : decide ((K : Int) + 1 < 1) = false := decide_eq_false (by omega)
  have t2 : decide (4 < (K : Int) + 1) = false := decide_eq_false (by omega)
  have t3 : decide ((a : Int) < 0) = false := decide_eq_false (by omega)
  have t4 : decide (((X K).length : Int) ≤ (a : Int)) = false := decide_eq_false (by omega)
  have t4' : decide ((X K).length ≤ a) = false := decide_eq_false (by omega)
  have hlK := h.len K hK
  generalize (X K).length = n at *
  have han : a < n := by omega
  have hK0 : (0 : Int) ≤ (K : Int) := (by omega); have hK1 : (K : Int) < 4 := (by omega); have hK2 : (K < 4) = True := eq_true hK
  clear h h1 h2 h3 e1
  go_enter Try.func48, Try.ntmps48
  go_wp2
  go_ret2
  exact ⟨rfl, rfl⟩
theorem place_no {w : World} {g : Nat} {R : Nat → Nat} {X : Nat → List Int} (h : IsSlv 77 w g R X) (kind addr : Int) (hn : ¬ has X kind addr) : Calls Try.prog 48 #[.pointer (some ⟨g, 0, none⟩), .int .i64 kind, .int .i64 addr] w fun e w' => e = .returned (.tuple #[.pointer none, .int .i64 1]) ∧ w = w' := by
  unfold has at hn
  by_cases h1 : kind < 1
  · exact place_1 h kind addr h1
  by_cases h2 : 4 < kind
  · exact place_2 h kind addr h2
  by_cases h3 : addr < 0
  · exact place_3 h kind addr (by omega) (by omega) h3
  exact place_4 h kind addr (by omega) (by omega) (by omega) (by omega)
theorem place_y {w : World} {g : Nat} {R : Nat → Nat} {X : Nat → List Int} (h : IsSlv 77 w g R X) {kind addr : Int} (hh : has X kind addr) {r a : Nat} (hr : R (kind - 1).toNat = r) (ha : addr.toNat = a) : Calls Try.prog 48 #[.pointer (some ⟨g, 0, none⟩), .int .i64 kind, .int .i64 addr] w fun e w' => e = .returned (.tuple #[.pointer (some ⟨r, a, none⟩), .int .i64 0]) ∧ w = w' := by
  subst hr; subst ha
  exact place_5 h kind addr hh
theorem has_k {X : Nat → List Int} {kind addr : Int} (hh : has X kind addr) : (kind - 1).toNat < 4 ∧ addr.toNat < (X (kind - 1).toNat).length := by
  obtain ⟨h1, h2, h3, h4⟩ := hh
  constructor <;> omega
def getR (X : Nat → List Int) (kind addr : Int) : Int × Int := if has X kind addr then ((X (kind - 1).toNat).getD addr.toNat 0, 0) else (0, 1)
def setR (X : Nat → List Int) (kind addr v : Int) : (Nat → List Int) × Int :=
  if has X kind addr ∧ 0 ≤ v ∧ v ≤ 65535 ∧ (kind ≤ 2 → v ≤ 1) then (upd X (kind - 1).toNat ((X (kind - 1).toNat).set addr.toNat v), 0) else (X, 1)
set_option maxHeartbeats 4000000 in
set_option maxRecDepth 100000 in
theorem get_no {w : World} {g : Nat} {R : Nat → Nat} {X : Nat → List Int} (h : IsSlv 77 w g R X) (kind addr : Int) (hn : ¬ has X kind addr) : Calls Try.prog 24 #[.pointer (some ⟨g, 0, none⟩), .int .i64 kind, .int .i64 addr] w fun e w' => e = .returned (.tuple #[.int .i64 0, .int .i64 1]) ∧ w = w' := by
  have H := Aside0.mk h; have HN := Aside0.mk hn
  clear h hn
  go_enter Try.func24, Try.ntmps24
  go_wp2_with (go_at_call 48; refine (place_no H.out _ _ HN.out).mono ?_; rintro e w' ⟨rfl, rfl⟩)
  go_ret2
  exact ⟨rfl, rfl⟩
set_option maxHeartbeats 4000000 in
set_option maxRecDepth 100000 in
theorem get_yes {w : World} {g : Nat} {R : Nat → Nat} {X : Nat → List Int} (h : IsSlv 77 w g R X) (kind addr : Int) (hh : has X kind addr) : Calls Try.prog 24 #[.pointer (some ⟨g, 0, none⟩), .int .i64 kind, .int .i64 addr] w fun e w' => e = .returned (.tuple #[.int .i64 ((X (kind - 1).toNat).getD addr.toNat 0), .int .i64 0]) ∧ w = w' := by
  have hk := has_k hh
  have hc := h.at_ hk.1 hk.2
  have H := Aside0.mk h; have HH := Aside0.mk hh
  obtain ⟨r, hr⟩ : ∃ r, R (kind - 1).toNat = r := ⟨_, rfl⟩
  obtain ⟨a, ha⟩ : ∃ a, addr.toNat = a := ⟨_, rfl⟩
  rw [hr, ha] at hc
  rw [ha]
  have HR := Aside0.mk hr; have HA := Aside0.mk ha
  generalize (X (kind - 1).toNat).getD a 0 = x at *
  clear h hh hk hr ha
  go_enter Try.func24, Try.ntmps24
  go_wp2_with (go_at_call 48; refine (place_y H.out HH.out HR.out HA.out).mono ?_; rintro e w' ⟨rfl, rfl⟩)
  go_ret2
  exact ⟨rfl, rfl⟩
theorem get_c {w : World} {g : Nat} {R : Nat → Nat} {X : Nat → List Int} (h : IsSlv 77 w g R X) (kind addr : Int) {n e : Int} (hg : getR X kind addr = (n, e)) : Calls Try.prog 24 #[.pointer (some ⟨g, 0, none⟩), .int .i64 kind, .int .i64 addr] w fun e' w' => e' = .returned (.tuple #[.int .i64 n, .int .i64 e]) ∧ w = w' := by
  unfold getR at hg
  by_cases hh : has X kind addr
  · rw [if_pos hh] at hg; simp only [Prod.mk.injEq] at hg; obtain ⟨rfl, rfl⟩ := hg; exact get_yes h kind addr hh
  · rw [if_neg hh] at hg; simp only [Prod.mk.injEq] at hg; obtain ⟨rfl, rfl⟩ := hg; exact get_no h kind addr hh
set_option maxHeartbeats 4000000 in
set_option maxRecDepth 100000 in
theorem set_no {w : World} {g : Nat} {R : Nat → Nat} {X : Nat → List Int} (h : IsSlv 77 w g R X) (kind addr v : Int) (hn : ¬ has X kind addr) : Calls Try.prog 22 #[.pointer (some ⟨g, 0, none⟩), .int .i64 kind, .int .i64 addr, .int .i64 v] w fun e w' => e = .returned (.int .i64 1) ∧ w = w' := by
  have H := Aside0.mk h; have HN := Aside0.mk hn
  clear h hn
  go_enter Try.func22, Try.ntmps22
  go_wp2_with (go_at_call 48; refine (place_no H.out _ _ HN.out).mono ?_; rintro e w' ⟨rfl, rfl⟩)
  go_ret
  exact ⟨rfl, rfl⟩
set_option maxHeartbeats 4000000 in
set_option maxRecDepth 100000 in
theorem set_1 {w : World} {g : Nat} {R : Nat → Nat} {X : Nat → List Int} (h : IsSlv 77 w g R X) (kind addr v : Int) (hh : has X kind addr) (hv : v < 0) (hd : kind ≤ 2) : Calls Try.prog 22 #[.pointer (some ⟨g, 0, none⟩), .int .i64 kind, .int .i64 addr, .int .i64 v] w fun e w' => e = .returned (.int .i64 1) ∧ w = w' := by
  have hk := has_k hh
  have HK := Aside0.mk hk
  have H := Aside0.mk h; have HH := Aside0.mk hh
  obtain ⟨r, hr⟩ : ∃ r, R (kind - 1).toNat = r := ⟨_, rfl⟩
  obtain ⟨a, ha⟩ : ∃ a, addr.toNat = a := ⟨_, rfl⟩
  have HR := Aside0.mk hr; have HA := Aside0.mk ha
  have k1 : decide (kind - 1 ≤ 1) = true := decide_eq_true (by omega)
  have k2 : decide (kind ≤ 2) = true := decide_eq_true (by omega)
  have k3 : decide (kind ≤ 1 + 1) = true := decide_eq_true (by omega)
  have v1 : decide (v < 0) = true := decide_eq_true (by omega)
  have hkb := hh.1
  have hkb2 := hh.2.1
  clear h hh hk hr ha hd hv
  go_enter Try.func22, Try.ntmps22
  go_wp2_with (go_at_call 48; refine (place_y H.out HH.out HR.out HA.out).mono ?_; rintro e w' ⟨rfl, rfl⟩)
  go_ret
  exact ⟨rfl, rfl⟩
set_option maxHeartbeats 4000000 in
set_option maxRecDepth 100000 in
theorem set_2 {w : World} {g : Nat} {R : Nat → Nat} {X : Nat → List Int} (h : IsSlv 77 w g R X) (kind addr v : Int) (hh : has X kind addr) (hv : v < 0) (hd : ¬ kind ≤ 2) : Calls Try.prog 22 #[.pointer (some ⟨g, 0, none⟩), .int .i64 kind, .int .i64 addr, .int .i64 v] w fun e w' => e = .returned (.int .i64 1) ∧ w = w' := by
  have hk := has_k hh
  have HK := Aside0.mk hk
  have H := Aside0.mk h; have HH := Aside0.mk hh
  obtain ⟨r, hr⟩ : ∃ r, R (kind - 1).toNat = r := ⟨_, rfl⟩
  obtain ⟨a, ha⟩ : ∃ a, addr.toNat = a := ⟨_, rfl⟩
  have HR := Aside0.mk hr; have HA := Aside0.mk ha
  have k1 : decide (kind - 1 ≤ 1) = false := decide_eq_false (by omega)
  have k2 : decide (kind ≤ 2) = false := decide_eq_false (by omega)
  have k3 : decide (kind ≤ 1 + 1) = false := decide_eq_false (by omega)
  have v1 : decide (v < 0) = true := decide_eq_true (by omega)
  have hkb := hh.1
  have hkb2 := hh.2.1
  clear h hh hk hr ha hd hv
  go_enter Try.func22, Try.ntmps22
  go_wp2_with (go_at_call 48; refine (place_y H.out HH.out HR.out HA.out).mono ?_; rintro e w' ⟨rfl, rfl⟩)
  go_ret
  exact ⟨rfl, rfl⟩
set_option maxHeartbeats 4000000 in
set_option maxRecDepth 100000 in
theorem set_3 {w : World} {g : Nat} {R : Nat → Nat} {X : Nat → List Int} (h : IsSlv 77 w g R X) (kind addr v : Int) (hh : has X kind addr) (hv : 0 ≤ v) (hv2 : 1 < v) (hd : kind ≤ 2) : Calls Try.prog 22 #[.pointer (some ⟨g, 0, none⟩), .int .i64 kind, .int .i64 addr, .int .i64 v] w fun e w' => e = .returned (.int .i64 1) ∧ w = w' := by
  have hk := has_k hh
  have HK := Aside0.mk hk
  have H := Aside0.mk h; have HH := Aside0.mk hh
  obtain ⟨r, hr⟩ : ∃ r, R (kind - 1).toNat = r := ⟨_, rfl⟩
  obtain ⟨a, ha⟩ : ∃ a, addr.toNat = a := ⟨_, rfl⟩
  have HR := Aside0.mk hr; have HA := Aside0.mk ha
  have k1 : decide (kind - 1 ≤ 1) = true := decide_eq_true (by omega)
  have k2 : decide (kind ≤ 2) = true := decide_eq_true (by omega)
  have k3 : decide (kind ≤ 1 + 1) = true := decide_eq_true (by omega)
  have v1 : decide (v < 0) = false := decide_eq_false (by omega)
  have v2 : decide (1 < v) = true := decide_eq_true (by omega)
  have hkb := hh.1
  have hkb2 := hh.2.1
  clear h hh hk hr ha hd hv hv2
  go_enter Try.func22, Try.ntmps22
  go_wp2_with (go_at_call 48; refine (place_y H.out HH.out HR.out HA.out).mono ?_; rintro e w' ⟨rfl, rfl⟩)
  go_ret
  exact ⟨rfl, rfl⟩
set_option maxHeartbeats 4000000 in
set_option maxRecDepth 100000 in
theorem set_4 {w : World} {g : Nat} {R : Nat → Nat} {X : Nat → List Int} (h : IsSlv 77 w g R X) (kind addr v : Int) (hh : has X kind addr) (hv : 0 ≤ v) (hv2 : 65535 < v) (hd : ¬ kind ≤ 2) : Calls Try.prog 22 #[.pointer (some ⟨g, 0, none⟩), .int .i64 kind, .int .i64 addr, .int .i64 v] w fun e w' => e = .returned (.int .i64 1) ∧ w = w' := by
  have hk := has_k hh
  have HK := Aside0.mk hk
  have H := Aside0.mk h; have HH := Aside0.mk hh
  obtain ⟨r, hr⟩ : ∃ r, R (kind - 1).toNat = r := ⟨_, rfl⟩
  obtain ⟨a, ha⟩ : ∃ a, addr.toNat = a := ⟨_, rfl⟩
  have HR := Aside0.mk hr; have HA := Aside0.mk ha
  have k1 : decide (kind - 1 ≤ 1) = false := decide_eq_false (by omega)
  have k2 : decide (kind ≤ 2) = false := decide_eq_false (by omega)
  have k3 : decide (kind ≤ 1 + 1) = false := decide_eq_false (by omega)
  have v1 : decide (v < 0) = false := decide_eq_false (by omega)
  have v2 : decide (65535 < v) = true := decide_eq_true (by omega)
  have hkb := hh.1
  have hkb2 := hh.2.1
  clear h hh hk hr ha hd hv hv2
  go_enter Try.func22, Try.ntmps22
  go_wp2_with (go_at_call 48; refine (place_y H.out HH.out HR.out HA.out).mono ?_; rintro e w' ⟨rfl, rfl⟩)
  go_ret
  exact ⟨rfl, rfl⟩
set_option maxHeartbeats 4000000 in
set_option maxRecDepth 100000 in
theorem set_5 {w : World} {g : Nat} {R : Nat → Nat} {X : Nat → List Int} (h : IsSlv 77 w g R X) (kind addr v : Int) (hh : has X kind addr) (hv : 0 ≤ v) (hv2 : v ≤ 1) (hd : kind ≤ 2) : Calls Try.prog 22 #[.pointer (some ⟨g, 0, none⟩), .int .i64 kind, .int .i64 addr, .int .i64 v] w fun e w' => e = .returned (.int .i64 0) ∧ IsSlv 77 w' g R (upd X (kind - 1).toNat ((X (kind - 1).toNat).set addr.toNat v)) ∧ Ext (fun k => k = R (kind - 1).toNat) w w' := by
  have hk := has_k hh
  have HK := Aside0.mk hk
  have H := Aside0.mk h; have HH := Aside0.mk hh
  obtain ⟨r, hr⟩ : ∃ r, R (kind - 1).toNat = r := ⟨_, rfl⟩
  obtain ⟨a, ha⟩ : ∃ a, addr.toNat = a := ⟨_, rfl⟩
  have HR := Aside0.mk hr; have HA := Aside0.mk ha
  have k1 : decide (kind - 1 ≤ 1) = true := decide_eq_true (by omega)
  have k2 : decide (kind ≤ 2) = true := decide_eq_true (by omega)
  have k3 : decide (kind ≤ 1 + 1) = true := decide_eq_true (by omega)
  have v1 : decide (v < 0) = false := decide_eq_false (by omega)
  have v2 : decide (1 < v) = false := decide_eq_false (by omega)
  have BK_r : Aside0 (w.heap[r]? = some (.cells ((X (kind - 1).toNat).map (Value.int .i64)).toArray 3 (0, 0))) := ⟨by rw [← hr]; exact h.row _ hk.1⟩
  have F_r : Aside0 (∀ k, k = r → (fun k => k = r) k ∨ w.heap.size ≤ k) := ⟨fold rfl⟩
  obtain ⟨xs, hxs⟩ : ∃ xs, X (kind - 1).toNat = xs := ⟨_, rfl⟩
  rw [hxs] at BK_r hk
  have HL : Aside0 (a < xs.length) := ⟨by rw [← ha]; exact hk.2⟩; have HXS := Aside0.mk hxs
  have hkb := hh.1
  have hkb2 := hh.2.1
  clear h hh hk hr ha hd hv hv2 hxs
  have XT : Aside0 (Ext (fun k => k = r) w w) := ⟨Ext.refl _ _⟩
  go_enter Try.func22, Try.ntmps22
  go_wp2_with (first | (go_at_call 48; refine (place_y H.out HH.out HR.out HA.out).mono ?_; rintro e w' ⟨rfl, rfl⟩) | ((with_reducible refine gate_store (p := 34) rfl ?_); have rc_ := row_cell BK_r.out HL.out; have rf_ := blk_frozen BK_r.out a; refine store_event (w1 := ?_) rfl (p := 34) rfl rfl ?hr ?_; rotate_left; (case hr => go_simp; rfl); intro w1 hw_; obtain ⟨hput, HEc⟩ := rowset hw_ BK_r.out; clear hw_ rc_ rf_; have XTn : Aside0 (Ext (fun k => k = r) w w1) := ⟨XT.out.step HEc (F_r.out)⟩; clear XT; have XT := XTn; clear XTn; clear BK_r; have BK_r : Aside0 (w1.heap[r]? = some (.cells ((xs.set a v).map (Value.int .i64)).toArray 3 (0, 0))) := ⟨hput⟩; clear hput HEc))
  go_ret
  rw [HXS.out, HA.out, HR.out]
  refine ⟨rfl, ?_, XT.out⟩
  exact H.out.put HK.out.1 (by rw [List.length_set, HXS.out]) (by rw [HR.out]; exact XT.out) (by rw [HR.out]; exact BK_r.out)
set_option maxHeartbeats 4000000 in
set_option maxRecDepth 100000 in
theorem set_6 {w : World} {g : Nat} {R : Nat → Nat} {X : Nat → List Int} (h : IsSlv 77 w g R X) (kind addr v : Int) (hh : has X kind addr) (hv : 0 ≤ v) (hv2 : v ≤ 65535) (hd : ¬ kind ≤ 2) : Calls Try.prog 22 #[.pointer (some ⟨g, 0, none⟩), .int .i64 kind, .int .i64 addr, .int .i64 v] w fun e w' => e = .returned (.int .i64 0) ∧ IsSlv 77 w' g R (upd X (kind - 1).toNat ((X (kind - 1).toNat).set addr.toNat v)) ∧ Ext (fun k => k = R (kind - 1).toNat) w w' := by
  have hk := has_k hh
  have HK := Aside0.mk hk
  have H := Aside0.mk h; have HH := Aside0.mk hh
  obtain ⟨r, hr⟩ : ∃ r, R (kind - 1).toNat = r := ⟨_, rfl⟩
  obtain ⟨a, ha⟩ : ∃ a, addr.toNat = a := ⟨_, rfl⟩
  have HR := Aside0.mk hr; have HA := Aside0.mk ha
  have k1 : decide (kind - 1 ≤ 1) = false := decide_eq_false (by omega)
  have k2 : decide (kind ≤ 2) = false := decide_eq_false (by omega)
  have k3 : decide (kind ≤ 1 + 1) = false := decide_eq_false (by omega)
  have v1 : decide (v < 0) = false := decide_eq_false (by omega)
  have v2 : decide (65535 < v) = false := decide_eq_false (by omega)
  have BK_r : Aside0 (w.heap[r]? = some (.cells ((X (kind - 1).toNat).map (Value.int .i64)).toArray 3 (0, 0))) := ⟨by rw [← hr]; exact h.row _ hk.1⟩
  have F_r : Aside0 (∀ k, k = r → (fun k => k = r) k ∨ w.heap.size ≤ k) := ⟨fold rfl⟩
  obtain ⟨xs, hxs⟩ : ∃ xs, X (kind - 1).toNat = xs := ⟨_, rfl⟩
  rw [hxs] at BK_r hk
  have HL : Aside0 (a < xs.length) := ⟨by rw [← ha]; exact hk.2⟩; have HXS := Aside0.mk hxs
  have hkb := hh.1
  have hkb2 := hh.2.1
  clear h hh hk hr ha hd hv hv2 hxs
  have XT : Aside0 (Ext (fun k => k = r) w w) := ⟨Ext.refl _ _⟩
  go_enter Try.func22, Try.ntmps22
  go_wp2_with (first | (go_at_call 48; refine (place_y H.out HH.out HR.out HA.out).mono ?_; rintro e w' ⟨rfl, rfl⟩) | ((with_reducible refine gate_store (p := 34) rfl ?_); have rc_ := row_cell BK_r.out HL.out; have rf_ := blk_frozen BK_r.out a; refine store_event (w1 := ?_) rfl (p := 34) rfl rfl ?hr ?_; rotate_left; (case hr => go_simp; rfl); intro w1 hw_; obtain ⟨hput, HEc⟩ := rowset hw_ BK_r.out; clear hw_ rc_ rf_; have XTn : Aside0 (Ext (fun k => k = r) w w1) := ⟨XT.out.step HEc (F_r.out)⟩; clear XT; have XT := XTn; clear XTn; clear BK_r; have BK_r : Aside0 (w1.heap[r]? = some (.cells ((xs.set a v).map (Value.int .i64)).toArray 3 (0, 0))) := ⟨hput⟩; clear hput HEc))
  go_ret
  rw [HXS.out, HA.out, HR.out]
  refine ⟨rfl, ?_, XT.out⟩
  exact H.out.put HK.out.1 (by rw [List.length_set, HXS.out]) (by rw [HR.out]; exact XT.out) (by rw [HR.out]; exact BK_r.out)
theorem set_c {w : World} {g : Nat} {R : Nat → Nat} {X : Nat → List Int} (h : IsSlv 77 w g R X) (kind addr v : Int) {X' : Nat → List Int} {e : Int} (hs : setR X kind addr v = (X', e)) : Calls Try.prog 22 #[.pointer (some ⟨g, 0, none⟩), .int .i64 kind, .int .i64 addr, .int .i64 v] w fun e' w' => e' = .returned (.int .i64 e) ∧ IsSlv 77 w' g R X' ∧ Ext (Fp g R) w w' := by
  unfold setR at hs
  have hno : ∀ {Q : Ending → World → Prop}, (∀ e' w', (e' = .returned (.int .i64 1) ∧ w = w') → Q e' w') → Calls Try.prog 22 #[.pointer (some ⟨g, 0, none⟩), .int .i64 kind, .int .i64 addr, .int .i64 v] w (fun e' w' => e' = .returned (.int .i64 1) ∧ w = w') → Calls Try.prog 22 #[.pointer (some ⟨g, 0, none⟩), .int .i64 kind, .int .i64 addr, .int .i64 v] w Q := fun hQ hc => hc.mono hQ
  by_cases hh : has X kind addr
  · by_cases hc : 0 ≤ v ∧ v ≤ 65535 ∧ (kind ≤ 2 → v ≤ 1)
    · rw [if_pos ⟨hh, hc⟩] at hs; simp only [Prod.mk.injEq] at hs; obtain ⟨rfl, rfl⟩ := hs
      have hE : ∀ {w' : World}, Ext (fun k => k = R (kind - 1).toNat) w w' → Ext (Fp g R) w w' := fun E => E.sub (fun k e => .inr ⟨_, (has_k hh).1, e⟩)
      by_cases hd : kind ≤ 2
      · exact (set_5 h kind addr v hh hc.1 (hc.2.2 hd) hd).mono (fun e' w' q => ⟨q.1, q.2.1, hE q.2.2⟩)
      · exact (set_6 h kind addr v hh hc.1 hc.2.1 hd).mono (fun e' w' q => ⟨q.1, q.2.1, hE q.2.2⟩)
    · rw [if_neg (fun a => hc a.2)] at hs; simp only [Prod.mk.injEq] at hs; obtain ⟨rfl, rfl⟩ := hs
      refine hno (fun e' w' q => by obtain ⟨q1, rfl⟩ := q; exact ⟨q1, h, Ext.refl _ _⟩) ?_
      by_cases h1 : v < 0
      · by_cases hd : kind ≤ 2
        · exact set_1 h kind addr v hh h1 hd
        · exact set_2 h kind addr v hh h1 hd
      · by_cases hd : kind ≤ 2
        · exact set_3 h kind addr v hh (by omega) (by omega) hd
        · exact set_4 h kind addr v hh (by omega) (by omega) hd
  · rw [if_neg (fun a => hh a.1)] at hs; simp only [Prod.mk.injEq] at hs; obtain ⟨rfl, rfl⟩ := hs
    refine hno (fun e' w' q => by obtain ⟨q1, rfl⟩ := q; exact ⟨q1, h, Ext.refl _ _⟩) ?_
    exact set_no h kind addr v hh
set_option maxHeartbeats 4000000 in
set_option maxRecDepth 100000 in
theorem part_3 {w : World} {g : Nat} {R : Nat → Nat} {X : Nat → List Int} (h : IsSlv 77 w g R X) (K : Nat) (hK : K < 4) (a n : Nat) (hb : a ≤ 1000000 ∧ n ≤ 1000000) (h3 : (X K).length < a + n) : Calls Try.prog 41 #[.pointer (some ⟨g, 0, none⟩), .int .i64 ((K : Int)), .int .i64 ((a : Int)), .int .i64 ((n : Int))] w fun e w' => e = .returned (.tuple #[.slice none 0 0, .bool false]) ∧ w = w' := by
  have hcg := h.cell hK
  unfold sl at hcg
  have hlK := h.len K hK
  have hK0 : (0 : Int) ≤ (K : Int) := (by omega); have hK1 : (K : Int) < 4 := (by omega); have hK2 : (K < 4) = True := eq_true hK
  have t1 : decide ((a : Int) < 0) = false := decide_eq_false (by omega)
  have t2 : decide ((n : Int) < 0) = false := decide_eq_false (by omega)
  have t3 : decide (((X K).length : Int) < (a : Int) + (n : Int)) = true := decide_eq_true (by omega)
  have t4 : decide ((X K).length < a + n) = true := decide_eq_true (by omega)
  have hb1 := hb.1; have hb2 := hb.2
  generalize (X K).length = L at *
  clear h h3 hb
  go_enter Try.func41, Try.ntmps41
  go_wp2
  go_ret2
  exact ⟨rfl, rfl⟩
set_option maxHeartbeats 4000000 in
set_option maxRecDepth 100000 in
theorem part_4 {w : World} {g : Nat} {R : Nat → Nat} {X : Nat → List Int} (h : IsSlv 77 w g R X) (K : Nat) (hK : K < 4) (a n : Nat) (hb : a ≤ 1000000 ∧ n ≤ 1000000) (h3 : a + n ≤ (X K).length) (he : (X K).length = a) : Calls Try.prog 41 #[.pointer (some ⟨g, 0, none⟩), .int .i64 ((K : Int)), .int .i64 ((a : Int)), .int .i64 ((n : Int))] w fun e w' => e = .returned (.tuple #[.slice (some ⟨R K, 0, none⟩) n ((X K).length - a), .bool true]) ∧ w = w' := by
  have hcg := h.cell hK
  unfold sl at hcg
  have hlK := h.len K hK
  have hK0 : (0 : Int) ≤ (K : Int) := (by omega); have hK1 : (K : Int) < 4 := (by omega); have hK2 : (K < 4) = True := eq_true hK
  rw [he] at hcg hlK h3
  obtain rfl : n = 0 := by omega
  rw [he]
  clear he h3 hb h
  have t1 : decide ((a : Int) < 0) = false := decide_eq_false (by omega)
  have hb1 : a ≤ 1000000 := (by omega)
  go_enter Try.func41, Try.ntmps41
  go_wp2
  go_ret2
  exact ⟨by simp, rfl⟩
set_option maxHeartbeats 4000000 in
set_option maxRecDepth 100000 in
theorem part_5 {w : World} {g : Nat} {R : Nat → Nat} {X : Nat → List Int} (h : IsSlv 77 w g R X) (K : Nat) (hK : K < 4) (a n : Nat) (hb : a ≤ 1000000 ∧ n ≤ 1000000) (h3 : a + n ≤ (X K).length) (he : ¬ (X K).length = a) : Calls Try.prog 41 #[.pointer (some ⟨g, 0, none⟩), .int .i64 ((K : Int)), .int .i64 ((a : Int)), .int .i64 ((n : Int))] w fun e w' => e = .returned (.tuple #[.slice (some ⟨R K, a, none⟩) n ((X K).length - a), .bool true]) ∧ w = w' := by
  have hcg := h.cell hK
  unfold sl at hcg
  have hlK := h.len K hK
  have hK0 : (0 : Int) ≤ (K : Int) := (by omega); have hK1 : (K : Int) < 4 := (by omega); have hK2 : (K < 4) = True := eq_true hK
  generalize (X K).length = L at *
  have t1 : decide ((a : Int) < 0) = false := decide_eq_false (by omega)
  have t2 : decide ((n : Int) < 0) = false := decide_eq_false (by omega)
  have t3 : decide ((L : Int) < (a : Int) + (n : Int)) = false := decide_eq_false (by omega)
  have t4 : decide (L < a + n) = false := decide_eq_false (by omega)
  have hb1 := hb.1; have hb2 := hb.2
  have h31 : a ≤ L := (by omega)
  clear h hb
  go_enter Try.func41, Try.ntmps41
  go_wp2
  go_ret2
  exact ⟨by show Ending.returned (.tuple #[.slice (some ⟨R K, a, none⟩) (a + n - a) (L - a), .bool true]) = _; rw [Nat.add_sub_cancel_left], rfl⟩
theorem part_yes {w : World} {g : Nat} {R : Nat → Nat} {X : Nat → List Int} (h : IsSlv 77 w g R X) (K : Nat) (hK : K < 4) (a n : Nat) (hb : a ≤ 1000000 ∧ n ≤ 1000000) (h3 : a + n ≤ (X K).length) : ∃ A, Calls Try.prog 41 #[.pointer (some ⟨g, 0, none⟩), .int .i64 ((K : Int)), .int .i64 ((a : Int)), .int .i64 ((n : Int))] w (fun e w' => e = .returned (.tuple #[.slice A n ((X K).length - a), .bool true]) ∧ w = w') ∧ (0 < n → A = some ⟨R K, a, none⟩) := by
  by_cases he : (X K).length = a
  · exact ⟨_, part_4 h K hK a n hb h3 he, fun hn => by omega⟩
  · exact ⟨_, part_5 h K hK a n hb h3 he, fun _ => rfl⟩
end Go.Proofs.Ytocicifgglkaeaa.SlvA
end

section
namespace Go.Proofs.Ytocicifgglkaeaa.SlvB
open Go.RowKit Go.Proofs.YtocicifgglkaeaaW.PrintWords Go.Proofs.YtocicifgglkaeaaW.PrintLast Go.Proofs.YtocicifgglkaeaaW.PrintMore Go.Proofs.Ytocicifgglkaeaa.Core Go.Proofs.Ytocicifgglkaeaa.Wk Go.Proofs.Ytocicifgglkaeaa.Chk Go.Proofs.Ytocicifgglkaeaa.SlvA
set_option linter.unusedVariables false
set_option linter.unusedSimpArgs false
attribute [local go_sem] max2_int min2_int max_two min_two
def cl (c : Nat → Value) : Array Value := #[c 0, c 1, c 2, c 3]
theorem cl_set (c : Nat → Value) {k : Nat} (hk : k < 4) (v : Value) : (cl c).setIfInBounds k v = cl (fun j => if j = k then v else c j) := by
  match k, hk with
  | 0, _ => rfl
  | 1, _ => rfl
  | 2, _ => rfl
  | 3, _ => rfl
theorem cl_cell {W : World} {g : Nat} {c : Nat → Value} {T : TypeId} (h : W.heap[g]? = some (.cells (cl c) T (0, 0))) {k : Nat} (hk : k < 4) : W.cell? ⟨g, k, none⟩ = some (c k) := by
  rw [blk_cell h k]
  match k, hk with
  | 0, _ => rfl
  | 1, _ => rfl
  | 2, _ => rfl
  | 3, _ => rfl
def nz (a b : Nat) (k : Nat) : Nat := if k < 2 then a else b
def zs (n : Nat) : List Int := List.replicate n 0
structure Mk (T : TypeId) (B : Nat) (W : World) (g a b : Nat) (p : Nat → Bool) (R : Nat → Nat) : Prop where
  blk : W.heap[g]? = some (.cells (cl (fun k => if p k then .slice (some ⟨R k, 0, none⟩) (nz a b k) (nz a b k) else .slice none 0 0)) T (0, 0))
  row : ∀ k, k < 4 → p k = true → W.heap[R k]? = some (.cells ((zs (nz a b k)).map (Value.int .i64)).toArray 3 (0, 0)) ∧ R k ≠ g ∧ B ≤ R k
  inj : ∀ i j, i < 4 → j < 4 → p i = true → p j = true → R i = R j → i = j
theorem Mk.step {T : TypeId} {B : Nat} {W W1 W' : World} {g a b r k : Nat} {p : Nat → Bool} {R : Nat → Nat} (h : Mk T B W g a b p R) (hk : k < 4) (HB : Below W.heap.size W W1) (hr : W.heap.size ≤ r) (hB : B ≤ r)
    (hrow : W1.heap[r]? = some (.cells ((zs (nz a b k)).map (Value.int .i64)).toArray 3 (0, 0))) (hw : W' = W1.setCell ⟨g, k, none⟩ (.slice (some ⟨r, 0, none⟩) (nz a b k) (nz a b k))) :
    Mk T B W' g a b (fun j => if j = k then true else p j) (fun j => if j = k then r else R j) := by
  have hg := blk_lt h.blk
  have hb1 : W1.heap[g]? = _ := blk_below h.blk HB
  obtain ⟨h1, E⟩ := put1 hw hb1 (cl_set _ hk _)
  refine ⟨?_, fun j hj hp => ?_, fun i j hi hj hpi hpj e => ?_⟩
  · rw [h1]; congr 3; funext j; by_cases e : j = k
    · subst e; simp
    · simp [e]
  · by_cases e : j = k
    · subst e
      simp only [if_true]
      exact ⟨Ext.blk E hrow (fun e => by have : r = g := e; omega), by omega, hB⟩
    · simp only [if_neg e] at hp ⊢
      obtain ⟨q1, q2, q3⟩ := h.row j hj hp
      exact ⟨Ext.blk E (blk_below q1 HB) q2, q2, q3⟩
  · by_cases ei : i = k
    · by_cases ej : j = k
      · omega
      · simp only [ei, if_true, if_neg ej] at e hpj
        have := blk_lt (h.row j hj hpj).1
        omega
    · by_cases ej : j = k
      · simp only [ej, if_true, if_neg ei] at e hpi
        have := blk_lt (h.row i hi hpi).1
        omega
      · simp only [if_neg ei, if_neg ej] at e hpi hpj
        exact h.inj i j hi hj hpi hpj e
theorem dec_succ (k : Nat) : (fun j => decide (j < k + 1)) = fun j => if j = k then true else decide (j < k) := by
  funext j; by_cases e : j = k
  · subst e; simp
  · rw [if_neg e]; exact decide_eq_decide.2 (by omega)
theorem Mk.done {T : TypeId} {B : Nat} {W : World} {g a b : Nat} {p : Nat → Bool} {R : Nat → Nat} (h : Mk T B W g a b p R) (hp : ∀ k, k < 4 → p k = true) (ha : a ≤ 65536) (hb : b ≤ 65536) : IsSlv T W g R (fun k => zs (nz a b k)) := by
  refine ⟨?_, fun k hk => (h.row k hk (hp k hk)).1, fun i j hi hj e => h.inj i j hi hj (hp i hi) (hp j hj) e, fun k hk => (h.row k hk (hp k hk)).2.1, fun k hk => by simp only [zs, List.length_replicate]; unfold nz; split <;> omega⟩
  have := h.blk
  simp only [cl] at this
  rw [hp 0 (by omega), hp 1 (by omega), hp 2 (by omega), hp 3 (by omega)] at this
  simpa [sl, zs] using this
theorem Mk.ext {T : TypeId} {B : Nat} {W W' : World} {g a b : Nat} {p : Nat → Bool} {R : Nat → Nat} {F : Nat → Prop} (h : Mk T B W g a b p R) (E : Ext F W W') (hg : ¬ F g) (hr : ∀ k, F k → k < W.heap.size → W.heap[k]? = none ∨ ∀ c t q, W.heap[k]? ≠ some (.cells c t q)) : Mk T B W' g a b p R := by
  refine ⟨Ext.blk E h.blk hg, fun k hk hp => ?_, h.inj⟩
  obtain ⟨q1, q2, q3⟩ := h.row k hk hp
  refine ⟨Ext.blk E q1 (fun hF => ?_), q2, q3⟩
  rcases hr _ hF (blk_lt q1) with e | e
  · rw [q1] at e; cases e
  · exact e _ _ _ q1
set_option maxHeartbeats 4000000 in
set_option maxRecDepth 100000 in
theorem rnew_c (a b : Nat) (ha : a ≤ 65536) (hb : b ≤ 65536) (w : World) : Calls Try.prog 19 #[.int .i64 a, .int .i64 b] w fun e w' => ∃ g R, e = .returned (.tuple #[.pointer (some ⟨g, 0, none⟩), .bool true]) ∧ IsSlv 51 w' g R (fun k => zs (nz a b k)) ∧ w.heap.size ≤ g ∧ (∀ k, k < 4 → w.heap.size ≤ R k) ∧ Below w.heap.size w w' := by
  have t1 : decide ((a : Int) < 0) = false := decide_eq_false (by omega)
  have t2 : decide (65536 < (a : Int)) = false := decide_eq_false (by omega)
  have t3 : decide ((b : Int) < 0) = false := decide_eq_false (by omega)
  have t4 : decide (65536 < (b : Int)) = false := decide_eq_false (by omega)
  have t2' : decide (65536 < a) = false := decide_eq_false (by omega)
  have t4' : decide (65536 < b) = false := decide_eq_false (by omega)
  have HA := Aside0.mk ha; have HBB := Aside0.mk hb; clear ha hb
  have XT : Aside0 (Ext (fun _ => False) w w) := ⟨Ext.refl _ _⟩
  go_enter Try.func19, Try.ntmps19
  go_wp2_with (first | ((with_reducible refine gate_dst (N := 24) rfl ?_); refine box_event ?hg (N := 24) ?hd (cs := #[.slice none 0 0, .slice none 0 0, .slice none 0 0, .slice none 0 0]) (t := 51) ?hr ?_; (case hd => rfl); (case hg => rfl); (case hr => first | (go_simp; done) | (go_simp; rfl)); intro g hg w1 hbox HBc; have F_g : Aside0 (∀ k, k = g → (fun _ => False) k ∨ w.heap.size ≤ k) := ⟨fnew hg XT.out.size⟩; have RG_g : Aside0 (w.heap.size ≤ g) := ⟨Nat.le_trans XT.out.size (Nat.le_of_eq hg.symm)⟩; clear hg; have XTn : Aside0 (Ext (fun _ => False) w w1) := ⟨XT.out.stepB HBc⟩; clear XT; have XT := XTn; clear XTn; have BK_g : Aside0 (w1.heap[g]? = some (.cells #[.slice none 0 0, .slice none 0 0, .slice none 0 0, .slice none 0 0] 51 (0, 0))) := ⟨hbox⟩; clear hbox HBc))
  have HMK : Aside0 (Mk 51 w.heap.size w1 g a b (fun j => decide (j < 0)) (fun _ => 0)) := ⟨⟨by have := BK_g.out; simpa [cl] using this, fun k _ hp => by simp at hp, fun i j _ _ hp => by simp at hp⟩⟩
  have XB : Aside0 (Below w.heap.size w w1) := ⟨XT.out.below (fun _ e => e.elim)⟩
  clear BK_g XT
  go_loopw [7, 8] (fun v _ wr => ∃ (k : Nat) (R : Nat → Nat), k ≤ 4 ∧ v = .int .i64 k ∧ Aside0 (Mk 51 w.heap.size wr g a b (fun j => decide (j < k)) R) ∧ Aside0 (Below w.heap.size w wr)) (fun v _ _ => 4 - (intOf v).toNat)
  case atStart => exact ⟨0, _, by omega, rfl, HMK, XB⟩
  case round =>
    clear HMK XB
    obtain ⟨k, R, hk, rfl, HMK, XB⟩ := hrel
    by_cases hlt : k < 4
    · have s1 : decide (k < 4) = true := decide_eq_true hlt; have s2 : decide ((k : Int) < 4) = true := decide_eq_true (by omega)
      have hK0 : (0 : Int) ≤ (k : Int) := (by omega); have hK1 : (k : Int) < 4 := (by omega); have hK2 : (k < 4) = True := eq_true hlt
      have HLT := Aside0.mk hlt; have hnot : decide (k < k) = false := decide_eq_false (by omega)
      by_cases h1 : 1 < k
      · have u1 : decide (1 < k) = true := decide_eq_true h1
        have u2 : decide (1 < (k : Int)) = true := decide_eq_true (by omega)
        have HN : Aside0 (nz a b k = b) := ⟨by unfold nz; rw [if_neg (by omega)]⟩
        clear h1
        go_upto_region 10 with (fail)
        have HC0 : Aside0 (wr.drew.cell? ⟨g, k, none⟩ = some (.slice none 0 0) ∧ wr.drew.frozen? ⟨g, k, none⟩ = false) := ⟨by have hb_ := HMK.out.blk; exact ⟨(cl_cell (W := wr) hb_ HLT.out).trans (by simp), blk_frozen (w := wr) hb_ k⟩⟩
        refine start_ (n := 8) (S := fun W => (∃ x, W.cell? ⟨g, k, none⟩ = some x) ∧ W.frozen? ⟨g, k, none⟩ = false) (ds := []) #[false, false, false, false, false, false, false, false] (by kernel_rfl) rfl rfl ?_ (fun hHeld => ?_)
        · first | exact ⟨⟨_, HC1.out.1⟩, HC1.out.2⟩ | exact ⟨⟨_, HC0.out.1⟩, HC0.out.2⟩ | exact ⟨cell?_setCell_some HC1.out.1, by first | exact HC1.out.2 | (simp only [World.frozen?_setCell]; exact HC1.out.2) | (go_simp; done) | (go_simp; exact HC1.out.2)⟩
        refine pure_ (i := 0) (N := some 33) (v := ?_) (a' := ?_) #[true, false, false, false, false, false, false, false] rfl rfl (by kernel_rfl) (fun _ _ _ h => h) (Or.inl ⟨by rfl, ?_⟩) ?_ ?_
        rotate_left
        · intro w'
          go_simp
          with_reducible rfl
        rotate_left
        · simp only [Act.put, List.setIfInBounds_toArray, List.set_cons_zero, List.set_cons_succ, i64_w, i32_w]
          rfl
        refine pure_ (i := 1) (N := some 34) (v := ?_) (a' := ?_) #[true, true, false, false, false, false, false, false] rfl rfl (by kernel_rfl) (fun _ _ _ h => h) (Or.inl ⟨by rfl, ?_⟩) ?_ ?_
        rotate_left
        · intro w'
          go_simp
          with_reducible rfl
        rotate_left
        · simp only [Act.put, List.setIfInBounds_toArray, List.set_cons_zero, List.set_cons_succ, i64_w, i32_w]
          rfl
        refine pure_ (i := 2) (N := some 35) (v := ?_) (a' := ?_) #[true, true, true, false, false, false, false, false] rfl rfl (by kernel_rfl) (fun _ _ _ h => h) (Or.inl ⟨by rfl, ?_⟩) ?_ ?_
        rotate_left
        · intro w'
          go_simp
          with_reducible rfl
        rotate_left
        · simp only [Act.put, List.setIfInBounds_toArray, List.set_cons_zero, List.set_cons_succ, i64_w, i32_w]
          rfl
        refine pure_ (i := 4) (N := some 37) (v := ?_) (a' := ?_) #[true, true, true, false, true, false, false, false] rfl rfl (by kernel_rfl) (fun _ _ _ h => h) (Or.inl ⟨by rfl, ?_⟩) ?_ ?_
        rotate_left
        · intro w'
          go_simp
          with_reducible rfl
        rotate_left
        · simp only [Act.put, List.setIfInBounds_toArray, List.set_cons_zero, List.set_cons_succ, i64_w, i32_w]
          rfl
        refine pure_ (i := 5) (N := some 38) (v := ?_) (a' := ?_) #[true, true, true, false, true, true, false, false] rfl rfl (by kernel_rfl) (fun _ _ _ h => h) (Or.inl ⟨by rfl, ?_⟩) ?_ ?_
        rotate_left
        · intro w'
          go_simp
          with_reducible rfl
        rotate_left
        · simp only [Act.put, List.setIfInBounds_toArray, List.set_cons_zero, List.set_cons_succ, i64_w, i32_w]
          rfl
        refine one_ (i := 3) (N := some 36) #[true, true, true, true, true, true, false, false] rfl rfl (by kernel_rfl) (by decide) (fun K hK => ?_)
        obtain ⟨w2, hrun2, hrow2, HB2⟩ := run_mk (P := Try.prog) wr.drew (k := .i64) Try.underlying22 8 info3 (by decide) (by decide) (b : Int) (by omega) (by have := HA.out; have := HBB.out; omega)
        rw [Int.toNat_natCast] at hrun2 hrow2
        refine value_ (v := .slice (some ⟨wr.drew.heap.size, 0, none⟩) b b) (w1 := w2) (by rfl) rfl ?hr ?_
        case hr => go_simp
        have HC1 : Aside0 (w2.cell? ⟨g, k, none⟩ = some (.slice none 0 0) ∧ w2.frozen? ⟨g, k, none⟩ = false) := ⟨(HB2.cell (p := ⟨g, k, none⟩) (blk_lt (w := wr) HMK.out.blk)).trans HC0.out.1, (HB2.frozen (p := ⟨g, k, none⟩) (blk_lt (w := wr) HMK.out.blk)).trans HC0.out.2⟩
        have hcc := HC1.out.1; have hff := HC1.out.2
        refine hK.out _ _ ?_ (fun hHeld => ?_)
        · first | exact ⟨⟨_, HC1.out.1⟩, HC1.out.2⟩ | exact ⟨⟨_, HC0.out.1⟩, HC0.out.2⟩ | exact ⟨cell?_setCell_some HC1.out.1, by first | exact HC1.out.2 | (simp only [World.frozen?_setCell]; exact HC1.out.2) | (go_simp; done) | (go_simp; exact HC1.out.2)⟩
        clear hK K
        refine norm_ (a' := ?_) ?_ ?_
        rotate_left
        · show Act.put _ (some 36) _ = _
          simp only [Act.put, List.setIfInBounds_toArray, List.set_cons_zero, List.set_cons_succ, i64_w, i32_w]
          rfl
        refine take_ (i := 6) (N := some 39) (v := ?_) (a' := ?_) #[true, true, true, true, true, true, true, false] rfl rfl (by kernel_rfl) (fun _ _ _ h => h) (Or.inl ⟨by rfl, ?_⟩) hHeld ?_ ?_
        rotate_left
        · rintro w' ⟨⟨x0, s0⟩, s1⟩
          go_simp
          with_reducible rfl
        rotate_left
        · simp only [Act.put, List.setIfInBounds_toArray, List.set_cons_zero, List.set_cons_succ, i64_w, i32_w]
          rfl
        refine one_ (i := 7) (N := none) #[true, true, true, true, true, true, true, true] rfl rfl (by kernel_rfl) (by decide) (fun K hK => ?_)
        refine skip_ (w1 := ?_) (by rfl) rfl ?_ ?_
        rotate_left
        · go_simp
          rfl
        refine hK.out _ _ ?_ (fun hHeld => ?_)
        · first | exact ⟨⟨_, HC1.out.1⟩, HC1.out.2⟩ | exact ⟨⟨_, HC0.out.1⟩, HC0.out.2⟩ | exact ⟨cell?_setCell_some HC1.out.1, by first | exact HC1.out.2 | (simp only [World.frozen?_setCell]; exact HC1.out.2) | (go_simp; done) | (go_simp; exact HC1.out.2)⟩
        clear hK K
        refine done_ (by kernel_rfl) ?_
        have HBw : Below wr.heap.size wr w2 := below_step (below_drew1 (Below.refl _ _)) HB2
        have HST := Aside0.mk (Mk.step (W' := (w2.setCell ⟨g, k, none⟩ (.slice (some ⟨wr.heap.size, 0, none⟩) b b))) HMK.out HLT.out HBw (Nat.le_refl _) (below_size XB.out) (by rw [HN.out]; exact hrow2) (by rw [HN.out]))
        have HXB : Aside0 (Below w.heap.size w (w2.setCell ⟨g, k, none⟩ (.slice (some ⟨wr.heap.size, 0, none⟩) b b))) := ⟨below_set (below_step XB.out HBw) RG_g.out⟩
        clear HBw HB2 hrow2 HMK XB HC0 HC1 hcc hff
        go_wp2_with (fail)
        go_roundw
        case rel => exact ⟨k + 1, _, by omega, by go_num, ⟨by rw [dec_succ]; exact HST.out⟩, HXB⟩
        case measure => simp [intOf]; omega
      · have u1 : decide (1 < k) = false := decide_eq_false h1
        have u2 : decide (1 < (k : Int)) = false := decide_eq_false (by omega)
        have HN : Aside0 (nz a b k = a) := ⟨by unfold nz; rw [if_pos (by omega)]⟩
        clear h1
        go_upto_region 10 with (fail)
        have HC0 : Aside0 (wr.drew.cell? ⟨g, k, none⟩ = some (.slice none 0 0) ∧ wr.drew.frozen? ⟨g, k, none⟩ = false) := ⟨by have hb_ := HMK.out.blk; exact ⟨(cl_cell (W := wr) hb_ HLT.out).trans (by simp), blk_frozen (w := wr) hb_ k⟩⟩
        refine start_ (n := 8) (S := fun W => (∃ x, W.cell? ⟨g, k, none⟩ = some x) ∧ W.frozen? ⟨g, k, none⟩ = false) (ds := []) #[false, false, false, false, false, false, false, false] (by kernel_rfl) rfl rfl ?_ (fun hHeld => ?_)
        · first | exact ⟨⟨_, HC1.out.1⟩, HC1.out.2⟩ | exact ⟨⟨_, HC0.out.1⟩, HC0.out.2⟩ | exact ⟨cell?_setCell_some HC1.out.1, by first | exact HC1.out.2 | (simp only [World.frozen?_setCell]; exact HC1.out.2) | (go_simp; done) | (go_simp; exact HC1.out.2)⟩
        refine pure_ (i := 0) (N := some 33) (v := ?_) (a' := ?_) #[true, false, false, false, false, false, false, false] rfl rfl (by kernel_rfl) (fun _ _ _ h => h) (Or.inl ⟨by rfl, ?_⟩) ?_ ?_
        rotate_left
        · intro w'
          go_simp
          with_reducible rfl
        rotate_left
        · simp only [Act.put, List.setIfInBounds_toArray, List.set_cons_zero, List.set_cons_succ, i64_w, i32_w]
          rfl
        refine pure_ (i := 1) (N := some 34) (v := ?_) (a' := ?_) #[true, true, false, false, false, false, false, false] rfl rfl (by kernel_rfl) (fun _ _ _ h => h) (Or.inl ⟨by rfl, ?_⟩) ?_ ?_
        rotate_left
        · intro w'
          go_simp
          with_reducible rfl
        rotate_left
        · simp only [Act.put, List.setIfInBounds_toArray, List.set_cons_zero, List.set_cons_succ, i64_w, i32_w]
          rfl
        refine pure_ (i := 2) (N := some 35) (v := ?_) (a' := ?_) #[true, true, true, false, false, false, false, false] rfl rfl (by kernel_rfl) (fun _ _ _ h => h) (Or.inl ⟨by rfl, ?_⟩) ?_ ?_
        rotate_left
        · intro w'
          go_simp
          with_reducible rfl
        rotate_left
        · simp only [Act.put, List.setIfInBounds_toArray, List.set_cons_zero, List.set_cons_succ, i64_w, i32_w]
          rfl
        refine pure_ (i := 4) (N := some 37) (v := ?_) (a' := ?_) #[true, true, true, false, true, false, false, false] rfl rfl (by kernel_rfl) (fun _ _ _ h => h) (Or.inl ⟨by rfl, ?_⟩) ?_ ?_
        rotate_left
        · intro w'
          go_simp
          with_reducible rfl
        rotate_left
        · simp only [Act.put, List.setIfInBounds_toArray, List.set_cons_zero, List.set_cons_succ, i64_w, i32_w]
          rfl
        refine pure_ (i := 5) (N := some 38) (v := ?_) (a' := ?_) #[true, true, true, false, true, true, false, false] rfl rfl (by kernel_rfl) (fun _ _ _ h => h) (Or.inl ⟨by rfl, ?_⟩) ?_ ?_
        rotate_left
        · intro w'
          go_simp
          with_reducible rfl
        rotate_left
        · simp only [Act.put, List.setIfInBounds_toArray, List.set_cons_zero, List.set_cons_succ, i64_w, i32_w]
          rfl
        refine one_ (i := 3) (N := some 36) #[true, true, true, true, true, true, false, false] rfl rfl (by kernel_rfl) (by decide) (fun K hK => ?_)
        obtain ⟨w2, hrun2, hrow2, HB2⟩ := run_mk (P := Try.prog) wr.drew (k := .i64) Try.underlying22 8 info3 (by decide) (by decide) (a : Int) (by omega) (by have := HA.out; have := HBB.out; omega)
        rw [Int.toNat_natCast] at hrun2 hrow2
        refine value_ (v := .slice (some ⟨wr.drew.heap.size, 0, none⟩) a a) (w1 := w2) (by rfl) rfl ?hr ?_
        case hr => go_simp
        have HC1 : Aside0 (w2.cell? ⟨g, k, none⟩ = some (.slice none 0 0) ∧ w2.frozen? ⟨g, k, none⟩ = false) := ⟨(HB2.cell (p := ⟨g, k, none⟩) (blk_lt (w := wr) HMK.out.blk)).trans HC0.out.1, (HB2.frozen (p := ⟨g, k, none⟩) (blk_lt (w := wr) HMK.out.blk)).trans HC0.out.2⟩
        have hcc := HC1.out.1; have hff := HC1.out.2
        refine hK.out _ _ ?_ (fun hHeld => ?_)
        · first | exact ⟨⟨_, HC1.out.1⟩, HC1.out.2⟩ | exact ⟨⟨_, HC0.out.1⟩, HC0.out.2⟩ | exact ⟨cell?_setCell_some HC1.out.1, by first | exact HC1.out.2 | (simp only [World.frozen?_setCell]; exact HC1.out.2) | (go_simp; done) | (go_simp; exact HC1.out.2)⟩
        clear hK K
        refine norm_ (a' := ?_) ?_ ?_
        rotate_left
        · show Act.put _ (some 36) _ = _
          simp only [Act.put, List.setIfInBounds_toArray, List.set_cons_zero, List.set_cons_succ, i64_w, i32_w]
          rfl
        refine take_ (i := 6) (N := some 39) (v := ?_) (a' := ?_) #[true, true, true, true, true, true, true, false] rfl rfl (by kernel_rfl) (fun _ _ _ h => h) (Or.inl ⟨by rfl, ?_⟩) hHeld ?_ ?_
        rotate_left
        · rintro w' ⟨⟨x0, s0⟩, s1⟩
          go_simp
          with_reducible rfl
        rotate_left
        · simp only [Act.put, List.setIfInBounds_toArray, List.set_cons_zero, List.set_cons_succ, i64_w, i32_w]
          rfl
        refine one_ (i := 7) (N := none) #[true, true, true, true, true, true, true, true] rfl rfl (by kernel_rfl) (by decide) (fun K hK => ?_)
        refine skip_ (w1 := ?_) (by rfl) rfl ?_ ?_
        rotate_left
        · go_simp
          rfl
        refine hK.out _ _ ?_ (fun hHeld => ?_)
        · first | exact ⟨⟨_, HC1.out.1⟩, HC1.out.2⟩ | exact ⟨⟨_, HC0.out.1⟩, HC0.out.2⟩ | exact ⟨cell?_setCell_some HC1.out.1, by first | exact HC1.out.2 | (simp only [World.frozen?_setCell]; exact HC1.out.2) | (go_simp; done) | (go_simp; exact HC1.out.2)⟩
        clear hK K
        refine done_ (by kernel_rfl) ?_
        have HBw : Below wr.heap.size wr w2 := below_step (below_drew1 (Below.refl _ _)) HB2
        have HST := Aside0.mk (Mk.step (W' := (w2.setCell ⟨g, k, none⟩ (.slice (some ⟨wr.heap.size, 0, none⟩) a a))) HMK.out HLT.out HBw (Nat.le_refl _) (below_size XB.out) (by rw [HN.out]; exact hrow2) (by rw [HN.out]))
        have HXB : Aside0 (Below w.heap.size w (w2.setCell ⟨g, k, none⟩ (.slice (some ⟨wr.heap.size, 0, none⟩) a a))) := ⟨below_set (below_step XB.out HBw) RG_g.out⟩
        clear HBw HB2 hrow2 HMK XB HC0 HC1 hcc hff
        go_wp2_with (fail)
        go_roundw
        case rel => exact ⟨k + 1, _, by omega, by go_num, ⟨by rw [dec_succ]; exact HST.out⟩, HXB⟩
        case measure => simp [intOf]; omega
    · have s1 : decide (k < 4) = false := decide_eq_false hlt; have s2 : decide ((k : Int) < 4) = false := decide_eq_false (by omega)
      go_wp2_with (fail)
      go_ret2
      exact ⟨g, R, rfl, HMK.out.done (fun j hj => decide_eq_true (by omega)) HA.out HBB.out, RG_g.out, fun j hj => (HMK.out.row j hj (decide_eq_true (by omega))).2.2, XB.out⟩
end Go.Proofs.Ytocicifgglkaeaa.SlvB
end

section
namespace Go.Proofs.Ytocicifgglkaeaa.SlvE
open Go.RowKit Go.Proofs.YtocicifgglkaeaaW.PrintWords Go.Proofs.YtocicifgglkaeaaW.PrintLast Go.Proofs.YtocicifgglkaeaaW.PrintMore Go.Proofs.Ytocicifgglkaeaa.Core Go.Proofs.Ytocicifgglkaeaa.Wk Go.Proofs.Ytocicifgglkaeaa.Chk Go.Proofs.Ytocicifgglkaeaa.SlvA Go.Proofs.Ytocicifgglkaeaa.SlvB
set_option linter.unusedVariables false
set_option linter.unusedSimpArgs false
attribute [local go_sem] max2_int min2_int max_two min_two
theorem wrap64_of {x : Int} (h0 : -1000000000000 ≤ x) (h1 : x ≤ 9223372036854775807) : wrap64 x = x := by
  unfold wrap64
  omega
set_option maxHeartbeats 4000000 in
set_option maxRecDepth 100000 in
theorem ints_n {n : Nat} (A0 A1 : Option Addr) (c0 c1 : Nat) (l0 l1 : List Int) (w : World) (e0 : l0.length = n) (e1 : l1.length = n) (h0 : Kd.C (Kd.int .i64) w A0 l0.length l0) (h1 : Kd.C (Kd.int .i64) w A1 l1.length l1) :
    Calls Try.prog 42 #[.slice A0 n c0, .slice A1 n c1] w fun e w' => e = .returned (.bool (decide (l0 = l1))) ∧ Drawn0 w w' := by
  have hmx : n ≤ 9223372036854775807 := by rw [← e0]; exact h0.2.1
  have E0 := Aside0.mk e0; have E1 := Aside0.mk e1; have H0 := Aside0.mk h0; have H1 := Aside0.mk h1
  clear e0 e1 h0 h1
  go_enter Try.func42, Try.ntmps42
  go_wp2
  repeat (go_quiet (fail); try go_wp2)
  go_loopw [5] (fun v wr => ∃ i : Int, 0 ≤ i ∧ i ≤ n ∧ v = .int .i64 i ∧ Aside0 (l0.take i.toNat = l1.take i.toNat) ∧ Drawn0 w wr) (fun v _ => n - (intOf v).toNat)
  case atStart => exact ⟨0, by omega, by omega, rfl, ⟨rfl⟩, by repeat (first | exact Drawn0.refl _ | apply Drawn0.step)⟩
  case round =>
    obtain ⟨i, hi0, hk, rfl, HT, ⟨m, rfl⟩⟩ := hrel
    by_cases hlt : i < (n : Int)
    · have t2 : decide (i < (n : Int)) = true := decide_eq_true hlt
      have hkl : Aside0 (0 ≤ i ∧ i < (n : Int)) := ⟨hi0, hlt⟩
      obtain ⟨a0, e0, g0⟩ := Kd.at_int H0.out i hi0 (by rw [E0.out]; exact hlt)
      cases e0
      obtain ⟨a1, e1, g1⟩ := Kd.at_int H1.out i hi0 (by rw [E1.out]; exact hlt)
      cases e1
      have HG : Aside0 (rd l0 i = l0.getD i.toNat 0 ∧ rd l1 i = l1.getD i.toNat 0) := ⟨rfl, rfl⟩
      obtain ⟨x, hx⟩ : ∃ x, rd l0 i = x := ⟨_, rfl⟩
      obtain ⟨y, hy⟩ : ∃ y, rd l1 i = y := ⟨_, rfl⟩
      rw [hx] at g0; rw [hy] at g1
      have HX := Aside0.mk hx; have HY := Aside0.mk hy
      have hw : Aside0 (wrap64 (i + 1) = i + 1) := ⟨wrap64_of (by omega) (by omega)⟩
      have p0 := eq_true hi0; have q0 := eq_true hlt
      clear hx hy hlt hi0 hk
      by_cases hxy : x = y
      · have u1 : (x == y) = true := beq_iff_eq.mpr hxy
        have u2 : (x != y) = false := bne_eq_false_iff_eq.mpr hxy
        have HS : Aside0 (l0.take (i + 1).toNat = l1.take (i + 1).toNat) := ⟨by
          obtain ⟨b0, b1⟩ := hkl.out; have a := E0.out; have b := E1.out
          rw [show (i + 1).toNat = i.toNat + 1 by omega]
          rw [List.take_succ_eq_append_getElem (by omega), List.take_succ_eq_append_getElem (by omega), HT.out]
          have q0 := HX.out; have q1 := HY.out
          rw [HG.out.1] at q0; rw [HG.out.2] at q1
          rw [List.getD_eq_getElem?_getD, List.getElem?_eq_getElem (by omega), Option.getD_some] at q0 q1
          rw [q0, q1, hxy]⟩
        clear HT hxy
        go_wp2
        repeat (go_quiet (fail); try go_wp2)
        go_roundw
        case rel => exact ⟨i + 1, by have := hkl.out; omega, by have := hkl.out; omega, by simp only [hw.out], HS, by repeat (first | exact Drawn0.refl _ | apply Drawn0.step)⟩
        case measure => have := hkl.out; simp only [intOf, hw.out]; omega
      · have u1 : (x == y) = false := beq_eq_false_iff_ne.mpr hxy
        have u2 : (x != y) = true := bne_iff_ne.mpr hxy
        have HS : Aside0 (decide (l0 = l1) = false) := ⟨decide_eq_false (fun e => hxy (by rw [← HX.out, ← HY.out, e]))⟩
        clear HT hxy
        go_wp2
        repeat (go_quiet (fail); try go_wp2)
        go_ret
        exact ⟨(congrArg (fun b => Ending.returned (Value.bool b)) HS.out).symm, by repeat (first | exact Drawn0.refl _ | apply Drawn0.step)⟩
    · have t2 : decide (i < (n : Int)) = false := decide_eq_false hlt
      have HS : Aside0 (decide (l0 = l1) = true) := ⟨decide_eq_true (by
        have h := HT.out
        rw [List.take_of_length_le (by rw [E0.out]; omega), List.take_of_length_le (by rw [E1.out]; omega)] at h
        exact h)⟩
      clear HT hlt
      go_wp2
      repeat (go_quiet (fail); try go_wp2)
      go_ret
      exact ⟨(congrArg (fun b => Ending.returned (Value.bool b)) HS.out).symm, by repeat (first | exact Drawn0.refl _ | apply Drawn0.step)⟩
set_option maxHeartbeats 4000000 in
set_option maxRecDepth 100000 in
theorem ints_ne {n m : Nat} (A0 A1 : Option Addr) (c0 c1 : Nat) (hnm : ¬ n = m) (w : World) : Calls Try.prog 42 #[.slice A0 n c0, .slice A1 m c1] w fun e w' => e = .returned (.bool false) ∧ Drawn0 w w' := by
  have c3b0 : ((n : Int) == (m : Int)) = false := beq_eq_false_iff_ne.mpr (by omega)
  have c3b1 : ((n : Int) != (m : Int)) = true := bne_iff_ne.mpr (by omega)
  have c3b2 : (n == m) = false := beq_eq_false_iff_ne.mpr hnm
  clear hnm
  go_enter Try.func42, Try.ntmps42
  go_wp2
  repeat (go_quiet (fail); try go_wp2)
  go_ret
  exact ⟨rfl, by repeat (first | exact Drawn0.refl _ | apply Drawn0.step)⟩
theorem ints_c (A0 A1 : Option Addr) (c0 c1 : Nat) (l0 l1 : List Int) {n m : Nat} (w : World) (e0 : l0.length = n) (e1 : l1.length = m) (h0 : Kd.C (Kd.int .i64) w A0 l0.length l0) (h1 : Kd.C (Kd.int .i64) w A1 l1.length l1) {b : Bool} (hb : decide (l0 = l1) = b) :
    Calls Try.prog 42 #[.slice A0 n c0, .slice A1 m c1] w fun e w' => e = .returned (.bool b) ∧ Drawn0 w w' := by
  subst hb
  by_cases h : n = m
  · subst h; exact ints_n A0 A1 c0 c1 l0 l1 w e0 e1 h0 h1
  · rw [decide_eq_false (fun e => h (by rw [← e0, ← e1, e]))]; exact ints_ne A0 A1 c0 c1 h w
theorem part_pos {w : World} {g : Nat} {R : Nat → Nat} {X : Nat → List Int} (h : IsSlv 77 w g R X) {K : Nat} (hK : K < 4) {a n : Nat} (hb : a ≤ 1000000 ∧ n ≤ 1000000) (h3 : a + n ≤ (X K).length) (hn : 0 < n) {r q L : Nat} (hr : R K = r) (hL : (X K).length = L) (hq : L - a = q) {ki : Int} (hki : (K : Int) = ki) :
    Calls Try.prog 41 #[.pointer (some ⟨g, 0, none⟩), .int .i64 ki, .int .i64 a, .int .i64 n] w (fun e w' => e = .returned (.tuple #[.slice (some ⟨r, a, none⟩) n q, .bool true]) ∧ w = w') := by
  obtain ⟨A, h1, h2⟩ := part_yes h K hK a n hb h3
  have h4 := h2 hn
  subst h4; subst hr; subst hL; subst hq; subst hki
  exact h1
theorem part_neg {w : World} {g : Nat} {R : Nat → Nat} {X : Nat → List Int} (h : IsSlv 77 w g R X) {K : Nat} (hK : K < 4) {a n : Nat} (hb : a ≤ 1000000 ∧ n ≤ 1000000) (h3 : (X K).length < a + n) {ki : Int} (hki : (K : Int) = ki) :
    Calls Try.prog 41 #[.pointer (some ⟨g, 0, none⟩), .int .i64 ki, .int .i64 a, .int .i64 n] w (fun e w' => e = .returned (.tuple #[.slice none 0 0, .bool false]) ∧ w = w') := by
  subst hki
  exact part_3 h K hK a n hb h3
end Go.Proofs.Ytocicifgglkaeaa.SlvE
end

section
namespace Go.Proofs.Ytocicifgglkaeaa.SlvW
open Go.RowKit Go.Proofs.YtocicifgglkaeaaW.PrintWords Go.Proofs.YtocicifgglkaeaaW.PrintLast Go.Proofs.YtocicifgglkaeaaW.PrintMore Go.Proofs.Ytocicifgglkaeaa.Core Go.Proofs.Ytocicifgglkaeaa.Wk Go.Proofs.Ytocicifgglkaeaa.Chk Go.Proofs.Ytocicifgglkaeaa.SlvA Go.Proofs.Ytocicifgglkaeaa.SlvB Go.Proofs.Ytocicifgglkaeaa.SlvE
set_option linter.unusedVariables false
set_option linter.unusedSimpArgs false
attribute [local go_sem] max2_int min2_int max_two min_two
def wrAt (xs : List Int) (a : Nat) (l : List Int) : List Int := xs.take a ++ l ++ xs.drop (a + l.length)
theorem wrAt_len {xs l : List Int} {a : Nat} (h : a + l.length ≤ xs.length) : (wrAt xs a l).length = xs.length := by
  unfold wrAt; simp only [List.length_append, List.length_take, List.length_drop]; omega
theorem wrAt_nil (xs : List Int) (a : Nat) : wrAt xs a [] = xs := by simp [wrAt]
theorem wrAt_set {xs l : List Int} {a k : Nat} (h : a + l.length ≤ xs.length) (hk : k < l.length) : (wrAt xs a (l.take k)).set (a + k) (l.getD k 0) = wrAt xs a (l.take (k + 1)) := by
  unfold wrAt
  have e1 : (l.take k).length = k := by rw [List.length_take]; omega
  have e2 : (l.take (k + 1)).length = k + 1 := by rw [List.length_take]; omega
  have e3 : (xs.take a).length = a := by rw [List.length_take]; omega
  rw [e1, e2, List.set_append_right _ _ (by rw [List.length_append, e1, e3]; omega), List.length_append, e1, e3, Nat.sub_self, List.drop_eq_getElem_cons (by omega), List.set_cons_zero, List.take_succ_eq_append_getElem hk, List.getD_eq_getElem?_getD, List.getElem?_eq_getElem hk, Option.getD_some]
  simp only [List.append_assoc, List.cons_append, List.nil_append, Nat.add_assoc]
end Go.Proofs.Ytocicifgglkaeaa.SlvW
end

section
namespace Go.Proofs.Ytocicifgglkaeaa.SlvF
open Go.RowKit Go.Proofs.YtocicifgglkaeaaW.PrintWords Go.Proofs.YtocicifgglkaeaaW.PrintLast Go.Proofs.YtocicifgglkaeaaW.PrintMore Go.Proofs.Ytocicifgglkaeaa.Core Go.Proofs.Ytocicifgglkaeaa.Wk Go.Proofs.Ytocicifgglkaeaa.Chk Go.Proofs.Ytocicifgglkaeaa.SlvA Go.Proofs.Ytocicifgglkaeaa.SlvB Go.Proofs.Ytocicifgglkaeaa.SlvE Go.Proofs.Ytocicifgglkaeaa.SlvW
set_option linter.unusedVariables false
set_option linter.unusedSimpArgs false
attribute [local go_sem] max2_int min2_int max_two min_two
def rdAt (xs : List Int) (a c : Nat) : List Int := (xs.drop a).take c
theorem rdAt_len {xs : List Int} {a c : Nat} (h : a + c ≤ xs.length) : (rdAt xs a c).length = c := by unfold rdAt; rw [List.length_take, List.length_drop]; omega
theorem C_sub {W : World} {r a c : Nat} {xs : List Int} {k : IntKind} {e : TypeId} (h : W.heap[r]? = some (.cells (xs.map (Value.int k)).toArray e (0, 0))) (hfit : a + c ≤ xs.length) (hm : c ≤ 9223372036854775807) : Kd.C (Kd.int k) W (some ⟨r, a, none⟩) (rdAt xs a c).length (rdAt xs a c) := by
  refine Kd.C_of_reads (enc := Value.int k) (d := (0 : Int)) (h1 := fun _ => rfl) (show ReadsInt W k _ _ _ from ⟨rfl, by rw [rdAt_len hfit]; exact hm, fun hn => ⟨_, rfl, fun j hj => ?_⟩⟩)
  rw [rdAt_len hfit] at hj
  have e1 : (⟨r, a, none⟩ : Addr).add j = ⟨r, a + j, none⟩ := by simp [Addr.add]
  rw [e1, blk_cell h (a + j)]
  have e2 : (rdAt xs a c).getD j 0 = xs.getD (a + j) 0 := by
    unfold rdAt
    rw [List.getD_eq_getElem?_getD, List.getD_eq_getElem?_getD, List.getElem?_take, if_pos hj, List.getElem?_drop]
  rw [e2]
  simp only [List.getElem?_toArray, List.getElem?_map, List.getD_eq_getElem?_getD, List.getElem?_eq_getElem (show a + j < xs.length by omega), Option.map_some, Option.getD_some]
theorem put2 {W W' : World} {g : Nat} {v0 v1 a0 a1 : Value} {T : TypeId} (hw : W' = (W.setCell ⟨g, 0, none⟩ v0).setCell ⟨g, 1, none⟩ v1) (hb : W.heap[g]? = some (.cells #[a0, a1] T (0, 0))) : W'.heap[g]? = some (.cells #[v0, v1] T (0, 0)) ∧ Ext (fun k => k = g) W W' := by
  subst hw
  exact ⟨blk_put (blk_put hb 0 v0 rfl) 1 v1 rfl, ((Ext.refl _ _).setg v0).setg v1⟩
def IsAns (w w' : World) (A : Option Addr) (ys : List Int) : Prop := ∀ M : Nat → Prop, (∀ k, M k → k < w.heap.size) → Ever M w' (fun W => Kd.C (Kd.int .i64) W A ys.length ys)
theorem own_ints {k : IntKind} {e : TypeId} {base : Nat} {W : World} {v : Value} {xs : List Int} (h : OwnE (Kd.int k) (Mv (fun _ => False) (.slice none 0 0)) e base W v xs) :
    ∃ A c, v = .slice A xs.length c ∧ xs.length ≤ c ∧ ∀ M : Nat → Prop, (∀ k, M k → k < base) → Ever M W (fun W => Kd.C (Kd.int k) W A xs.length xs) := by
  obtain ⟨i, h1, h2⟩ := h
  obtain ⟨A, c, rfl⟩ := own_slice h1
  refine ⟨A, c, rfl, own_cap h1, fun M hM => ?_⟩
  have h' : OwnE (Kd.int k) M e base W (.slice A xs.length c) xs := ⟨i, h1, h2.imp_ (fun x cs hx => ⟨fun w' _ => hx.now⟩)⟩
  obtain ⟨A', c', e', _, h3⟩ := h'.view (fun j hj hm => by have := own_base h1 j hj; have := hM j hm; omega)
  cases e'
  exact h3
section
variable {P : Program} {ops : Array Oper} {rest : List Oper} {o : Oper} {a : Act} {Q : Exit → Act → World → Prop} {W : World}
theorem copy_none_ev (hgd : o.guard = none) (d s : Operand) {t e : TypeId} (ho : o.op = .call { callee := .builtin .copy, args := #[d, s], argTypes := #[t, t] }) (ht : P.underlying t = some (.slice e)) (hinfo : (P.info? e).map (·.size) = some 1)
    {D A : Option Addr} {n c m c2 : Nat} (hd : a.eval d = .slice D n c) (hs : a.eval s = .slice A m c2) (h0 : Nat.min m n = 0) (h : wpList P ops Q rest (a.put o.dst (goInt 0)) W) : wpList P ops Q (o :: rest) a W := by
  refine Kd.event_run hgd ?_ h
  have hrun := run_copy_none (P := P) W t t o.type e D A n c m c2 ht hinfo h0
  simp [execOp, ho, resolve, invoke, builtin, hd, hs, hrun, Result.andThen]
theorem copy_at_ev (hgd : o.guard = none) (d s : Operand) {t e : TypeId} (k : IntKind) (ho : o.op = .call { callee := .builtin .copy, args := #[d, s], argTypes := #[t, t] }) (ht : P.underlying t = some (.slice e)) (hinfo : (P.info? e).map (·.size) = some 1)
    {g a0 n c c2 : Nat} (xs ys : List Int) (A : Option Addr) (hn : ys.length = n) (hpos : 0 < n) (hd : a.eval d = .slice (some ⟨g, a0, none⟩) n c) (hs : a.eval s = .slice A n c2) (hfit : a0 + n ≤ xs.length)
    (hb : W.heap[g]? = some (.cells (xs.map (Value.int k)).toArray e (0, 0))) (hC : Kd.C (Kd.int k) W A ys.length ys)
    (h : ∀ w1, w1.heap[g]? = some (.cells ((wrAt xs a0 ys).map (Value.int k)).toArray e (0, 0)) → Ext (fun k => k = g) W w1 → wpList P ops Q rest (a.put o.dst (goInt n)) w1) : wpList P ops Q (o :: rest) a W := by
  obtain ⟨ad, rfl, hcell⟩ := C_cell hC (by omega)
  have hl : (ys.map (Value.int k)).length = Nat.min n n := by simp [hn]
  have hrun := run_copy_row (P := P) W t t o.type e g a0 n c ad n c2 ((xs.map (Value.int k)).toArray) e (ys.map (Value.int k)) ht hinfo hb hl (by
      intro j v hj
      rw [List.getElem?_map] at hj
      obtain ⟨y, hy, rfl⟩ := Option.map_eq_some_iff.1 hj
      have hjl := (List.getElem?_eq_some_iff.1 hy).1
      rw [hcell j hjl, List.getD_eq_getElem?_getD, hy]; rfl) (by simp [hn]; omega) (by
      intro v hv
      obtain ⟨y, _, rfl⟩ := List.mem_map.1 hv
      rfl)
  refine wpList_plain hgd fun K hK => ?_
  unfold Oper.wp
  simp only [execOp, ho, resolve, invoke, builtin, hd, hs, Sem.run_bind, Sem.run_pure, Result.andThen_ok, List.map_toArray, List.map_cons, List.map_nil, hrun]
  refine hK _ _ ?_
  have e1 : (goInt ((ys.map (Value.int k)).length : Int)) = goInt ((n : Nat) : Int) := by rw [List.length_map, hn]
  rw [e1]
  refine h _ ?_ ⟨rfl, rfl, rfl, by simp [World.setRow], fun j hj hne => setRow_other W g j _ hne⟩
  refine (setRow_heap W g _ _ e _ hb).trans ?_
  congr 3
  unfold wrAt
  simp [List.map_take, List.map_drop, hn]
end
end Go.Proofs.Ytocicifgglkaeaa.SlvF
end

section
namespace Go.Proofs.Ytocicifgglkaeaa.SlvG
open Go.RowKit Go.Proofs.YtocicifgglkaeaaW.PrintWords Go.Proofs.YtocicifgglkaeaaW.PrintLast Go.Proofs.YtocicifgglkaeaaW.PrintMore Go.Proofs.Ytocicifgglkaeaa.Core Go.Proofs.Ytocicifgglkaeaa.Wk Go.Proofs.Ytocicifgglkaeaa.Chk Go.Proofs.Ytocicifgglkaeaa.SlvA Go.Proofs.Ytocicifgglkaeaa.SlvB Go.Proofs.Ytocicifgglkaeaa.SlvE Go.Proofs.Ytocicifgglkaeaa.SlvW Go.Proofs.Ytocicifgglkaeaa.SlvF
set_option linter.unusedVariables false
set_option linter.unusedSimpArgs false
attribute [local go_sem] max2_int min2_int max_two min_two
theorem chk_n {f a c : Int} {A : Option Addr} {cc : Nat} {v : List Int} {t n o : Int} {nv : Nat} (hn : v.length = nv) {w : World} (hV : Kd.C (Kd.int .i64) w A v.length v) {b : Bool} (hb : Chk.chkB f a c v t n o = b) {x : Int} (hx : (if b then 0 else 1) = x) : Calls Try.prog 29 #[.agg #[.int .i64 f, .int .i64 a, .int .i64 c, .slice A nv cc, .int .i64 t, .int .i64 n, .int .i64 o]] w fun e w' => e = .returned (.int .i64 x) ∧ Below w.heap.size w w' := by
  subst hn; exact Chk.chk_yes f a c A cc v t n o w hV hb hx
set_option maxHeartbeats 4000000 in
set_option maxRecDepth 100000 in
theorem do_r0_no {w : World} {g : Nat} {R : Nat → Nat} {X : Nat → List Int} (h : IsSlv 77 w g R X) {A : Option Addr} {cc : Nat} {v : List Int} (hn : v.length = 0) (hV : Ever (Fp g R) w (fun W => Kd.C (Kd.int .i64) W A v.length v)) {a c : Nat} {t n o : Int} (hck : Chk.chkB 1 (a : Int) (c : Int) v t n o = true) (hb : a ≤ 1000000 ∧ c ≤ 1000000) (hlt : (X 0).length < a + c) : Calls Try.prog 15 #[.pointer (some ⟨g, 0, none⟩), .agg #[.int .i64 1, .int .i64 (a : Int), .int .i64 (c : Int), .slice A 0 cc, .int .i64 t, .int .i64 n, .int .i64 o]] w fun e w' => ∃ AA cA, e = .returned (.tuple #[.agg #[.slice AA (([] : List Int)).length cA, .int .i64 2], .int .i64 0]) ∧ (([] : List Int)).length ≤ cA ∧ IsSlv 77 w' g R (X) ∧ Ext (Fp g R) w w' ∧ IsAns w w' AA (([] : List Int)) := by
  have SL : Aside0 (IsSlv 77 w g R (X)) := ⟨h⟩; have XT : Aside0 (Ext (Fp g R) w w) := ⟨Ext.refl _ _⟩; have HV := Aside0.mk hV; have HN := Aside0.mk hn
  have HCK := Aside0.mk hck
  obtain ⟨xs, hxs⟩ : ∃ xs, X 0 = xs := ⟨_, rfl⟩; obtain ⟨r, hr⟩ : ∃ r, R 0 = r := ⟨_, rfl⟩; have HXS := Aside0.mk hxs; have HR := Aside0.mk hr
  obtain ⟨L, hL⟩ : ∃ L, (X 0).length = L := ⟨_, rfl⟩; have HL := Aside0.mk hL
  obtain ⟨qq, hqq⟩ : ∃ q, L - a = q := ⟨_, rfl⟩; have HQQ := Aside0.mk hqq
  have HB := Aside0.mk hb; have HLT := Aside0.mk hlt
  clear h hV hn hck hb hlt hxs hr hL hqq
  go_enter Try.func15, Try.ntmps15
  go_wp2_with (first | ((with_reducible refine gate_dst (N := 3) rfl ?_); refine box_event ?hg (N := 3) ?hd (cs := #[.int .i64 1, .int .i64 (a : Int), .int .i64 (c : Int), .slice A 0 cc, .int .i64 t, .int .i64 n, .int .i64 o]) (t := 24) ?hr ?_; (case hd => rfl); (case hg => rfl); (case hr => first | (go_simp; done) | (go_simp; rfl)); intro q hg w1 hbox HBc; have NS_q : Aside0 (∀ k, Fp g R k → k ≠ q) := ⟨fun k hk e => by have := SL.out.lt k hk; omega⟩; have RG_q : Aside0 (w.heap.size ≤ q) := ⟨Nat.le_trans XT.out.size (Nat.le_of_eq hg.symm)⟩; clear hg; have SLn : Aside0 (IsSlv 77 w1 g R (X)) := ⟨SL.out.below HBc⟩; have XTn : Aside0 (Ext (Fp g R) w w1) := ⟨XT.out.stepB HBc⟩; have HVn : Aside0 (Ever (Fp g R) w1 (fun W => Kd.C (Kd.int .i64) W A v.length v)) := ⟨HV.out.step (.of_below HBc)⟩; clear SL XT HV; have SL := SLn; have XT := XTn; have HV := HVn; clear SLn XTn HVn; have BK_q : Aside0 (w1.heap[q]? = some (.cells #[.int .i64 1, .int .i64 (a : Int), .int .i64 (c : Int), .slice A 0 cc, .int .i64 t, .int .i64 n, .int .i64 o] 24 (0, 0))) := ⟨hbox⟩; clear hbox HBc; have lc1_0 : w1.cell? ⟨q, 0, none⟩ = some (.int .i64 1) := (blk_cell BK_q.out 0).trans rfl; have lf1_0 := blk_frozen BK_q.out 0; have lc1_1 : w1.cell? ⟨q, 1, none⟩ = some (.int .i64 (a : Int)) := (blk_cell BK_q.out 1).trans rfl; have lf1_1 := blk_frozen BK_q.out 1; have lc1_2 : w1.cell? ⟨q, 2, none⟩ = some (.int .i64 (c : Int)) := (blk_cell BK_q.out 2).trans rfl; have lf1_2 := blk_frozen BK_q.out 2; have lc1_3 : w1.cell? ⟨q, 3, none⟩ = some (.slice A 0 cc) := (blk_cell BK_q.out 3).trans rfl; have lf1_3 := blk_frozen BK_q.out 3; have lc1_4 : w1.cell? ⟨q, 4, none⟩ = some (.int .i64 t) := (blk_cell BK_q.out 4).trans rfl; have lf1_4 := blk_frozen BK_q.out 4; have lc1_5 : w1.cell? ⟨q, 5, none⟩ = some (.int .i64 n) := (blk_cell BK_q.out 5).trans rfl; have lf1_5 := blk_frozen BK_q.out 5; have lc1_6 : w1.cell? ⟨q, 6, none⟩ = some (.int .i64 o) := (blk_cell BK_q.out 6).trans rfl; have lf1_6 := blk_frozen BK_q.out 6) | ((with_reducible refine gate_dst (N := 4) rfl ?_); refine box_event ?hg (N := 4) ?hd (cs := #[.slice none 0 0, .int .i64 0]) (t := 30) ?hr ?_; (case hd => rfl); (case hg => rfl); (case hr => first | (go_simp; done) | (go_simp; rfl)); intro z hg w2 hbox HBc; have NS_z : Aside0 (∀ k, Fp g R k → k ≠ z) := ⟨fun k hk e => by have := SL.out.lt k hk; omega⟩; have RG_z : Aside0 (w.heap.size ≤ z) := ⟨Nat.le_trans XT.out.size (Nat.le_of_eq hg.symm)⟩; have NE_q_z : Aside0 (q ≠ z) := ⟨ne_born (blk_lt BK_q.out) hg⟩; clear hg; have BK_qn : Aside0 (w2.heap[q]? = some (.cells #[.int .i64 1, .int .i64 (a : Int), .int .i64 (c : Int), .slice A 0 cc, .int .i64 t, .int .i64 n, .int .i64 o] 24 (0, 0))) := ⟨blk_below BK_q.out HBc⟩; have SLn : Aside0 (IsSlv 77 w2 g R (X)) := ⟨SL.out.below HBc⟩; have XTn : Aside0 (Ext (Fp g R) w w2) := ⟨XT.out.stepB HBc⟩; have HVn : Aside0 (Ever (Fp g R) w2 (fun W => Kd.C (Kd.int .i64) W A v.length v)) := ⟨HV.out.step (.of_below HBc)⟩; clear BK_q SL XT HV; have BK_q := BK_qn; have SL := SLn; have XT := XTn; have HV := HVn; clear BK_qn SLn XTn HVn; have BK_z : Aside0 (w2.heap[z]? = some (.cells #[.slice none 0 0, .int .i64 0] 30 (0, 0))) := ⟨hbox⟩; clear hbox HBc; have lc2_0 : w2.cell? ⟨z, 0, none⟩ = some (.slice none 0 0) := (blk_cell BK_z.out 0).trans rfl; have lf2_0 := blk_frozen BK_z.out 0; have lc2_1 : w2.cell? ⟨z, 1, none⟩ = some (.int .i64 0) := (blk_cell BK_z.out 1).trans rfl; have lf2_1 := blk_frozen BK_z.out 1; have lc3_0 : w2.cell? ⟨q, 0, none⟩ = some (.int .i64 1) := (blk_cell BK_q.out 0).trans rfl; have lf3_0 := blk_frozen BK_q.out 0; have lc3_1 : w2.cell? ⟨q, 1, none⟩ = some (.int .i64 (a : Int)) := (blk_cell BK_q.out 1).trans rfl; have lf3_1 := blk_frozen BK_q.out 1; have lc3_2 : w2.cell? ⟨q, 2, none⟩ = some (.int .i64 (c : Int)) := (blk_cell BK_q.out 2).trans rfl; have lf3_2 := blk_frozen BK_q.out 2; have lc3_3 : w2.cell? ⟨q, 3, none⟩ = some (.slice A 0 cc) := (blk_cell BK_q.out 3).trans rfl; have lf3_3 := blk_frozen BK_q.out 3; have lc3_4 : w2.cell? ⟨q, 4, none⟩ = some (.int .i64 t) := (blk_cell BK_q.out 4).trans rfl; have lf3_4 := blk_frozen BK_q.out 4; have lc3_5 : w2.cell? ⟨q, 5, none⟩ = some (.int .i64 n) := (blk_cell BK_q.out 5).trans rfl; have lf3_5 := blk_frozen BK_q.out 5; have lc3_6 : w2.cell? ⟨q, 6, none⟩ = some (.int .i64 o) := (blk_cell BK_q.out 6).trans rfl; have lf3_6 := blk_frozen BK_q.out 6) | (go_at_call 29; refine (chk_n HN.out HV.out.now HCK.out rfl).mono ?_; rintro e w3 ⟨rfl, HBc⟩; have BK_qn : Aside0 (w3.heap[q]? = some (.cells #[.int .i64 1, .int .i64 (a : Int), .int .i64 (c : Int), .slice A 0 cc, .int .i64 t, .int .i64 n, .int .i64 o] 24 (0, 0))) := ⟨blk_below BK_q.out HBc⟩; have BK_zn : Aside0 (w3.heap[z]? = some (.cells #[.slice none 0 0, .int .i64 0] 30 (0, 0))) := ⟨blk_below BK_z.out HBc⟩; have SLn : Aside0 (IsSlv 77 w3 g R (X)) := ⟨SL.out.below HBc⟩; have XTn : Aside0 (Ext (Fp g R) w w3) := ⟨XT.out.stepB HBc⟩; have HVn : Aside0 (Ever (Fp g R) w3 (fun W => Kd.C (Kd.int .i64) W A v.length v)) := ⟨HV.out.step (.of_below HBc)⟩; clear BK_q BK_z SL XT HV; have BK_q := BK_qn; have BK_z := BK_zn; have SL := SLn; have XT := XTn; have HV := HVn; clear BK_qn BK_zn SLn XTn HVn; clear HBc; have lc4_0 : w3.cell? ⟨q, 0, none⟩ = some (.int .i64 1) := (blk_cell BK_q.out 0).trans rfl; have lf4_0 := blk_frozen BK_q.out 0; have lc4_1 : w3.cell? ⟨q, 1, none⟩ = some (.int .i64 (a : Int)) := (blk_cell BK_q.out 1).trans rfl; have lf4_1 := blk_frozen BK_q.out 1; have lc4_2 : w3.cell? ⟨q, 2, none⟩ = some (.int .i64 (c : Int)) := (blk_cell BK_q.out 2).trans rfl; have lf4_2 := blk_frozen BK_q.out 2; have lc4_3 : w3.cell? ⟨q, 3, none⟩ = some (.slice A 0 cc) := (blk_cell BK_q.out 3).trans rfl; have lf4_3 := blk_frozen BK_q.out 3; have lc4_4 : w3.cell? ⟨q, 4, none⟩ = some (.int .i64 t) := (blk_cell BK_q.out 4).trans rfl; have lf4_4 := blk_frozen BK_q.out 4; have lc4_5 : w3.cell? ⟨q, 5, none⟩ = some (.int .i64 n) := (blk_cell BK_q.out 5).trans rfl; have lf4_5 := blk_frozen BK_q.out 5; have lc4_6 : w3.cell? ⟨q, 6, none⟩ = some (.int .i64 o) := (blk_cell BK_q.out 6).trans rfl; have lf4_6 := blk_frozen BK_q.out 6; have lc5_0 : w3.cell? ⟨z, 0, none⟩ = some (.slice none 0 0) := (blk_cell BK_z.out 0).trans rfl; have lf5_0 := blk_frozen BK_z.out 0; have lc5_1 : w3.cell? ⟨z, 1, none⟩ = some (.int .i64 0) := (blk_cell BK_z.out 1).trans rfl; have lf5_1 := blk_frozen BK_z.out 1) | (go_at_call 41; refine (part_neg SL.out (K := 0) (by omega) HB.out HLT.out rfl).mono ?_; rintro e w' ⟨rfl, rfl⟩) | ((with_reducible refine gate_store (p := 4) rfl ?_); refine store_event (w1 := ?_) rfl (p := 4) rfl rfl ?hr ?_; rotate_left; (case hr => go_simp; rfl); intro w4 hw_; obtain ⟨hput, HEc⟩ := put2 hw_ BK_z.out; clear hw_; have BK_qn : Aside0 (w4.heap[q]? = some (.cells #[.int .i64 1, .int .i64 (a : Int), .int .i64 (c : Int), .slice A 0 cc, .int .i64 t, .int .i64 n, .int .i64 o] 24 (0, 0))) := ⟨Ext.blk HEc BK_q.out NE_q_z.out⟩; have SLn : Aside0 (IsSlv 77 w4 g R (X)) := ⟨SL.out.ext HEc (fun k hk e => NS_z.out k hk e)⟩; have XTn : Aside0 (Ext (Fp g R) w w4) := ⟨XT.out.step HEc (fun k e => .inr (by rw [show k = z from e]; exact RG_z.out))⟩; clear BK_q SL XT; have BK_q := BK_qn; have SL := SLn; have XT := XTn; clear BK_qn SLn XTn; clear BK_z HV; have BK_z : Aside0 (w4.heap[z]? = some (.cells #[.slice none 0 0, .int .i64 2] 30 (0, 0))) := ⟨hput⟩; have HST := Aside0.mk HEc; clear hput HEc))
  refine bodyPost_ret (results_ct rfl _ _ z 30 #[.slice none 0 0, .int .i64 2] (0, 0) _ rfl BK_z.out Try.underlying30 rfl (by kernel_rfl)) rfl ?_
  exact ⟨none, 0, rfl, Nat.le_refl _, SL.out, XT.out, fun M hM => Ever.nil _⟩
set_option maxHeartbeats 4000000 in
set_option maxRecDepth 100000 in
theorem do_r0_yes {w : World} {g : Nat} {R : Nat → Nat} {X : Nat → List Int} (h : IsSlv 77 w g R X) {A : Option Addr} {cc : Nat} {v : List Int} (hn : v.length = 0) (hV : Ever (Fp g R) w (fun W => Kd.C (Kd.int .i64) W A v.length v)) {a c : Nat} {t n o : Int} (hck : Chk.chkB 1 (a : Int) (c : Int) v t n o = true) (hb : a ≤ 1000000 ∧ c ≤ 1000000) (hpos : 0 < c) (hfit : a + c ≤ (X 0).length) : Calls Try.prog 15 #[.pointer (some ⟨g, 0, none⟩), .agg #[.int .i64 1, .int .i64 (a : Int), .int .i64 (c : Int), .slice A 0 cc, .int .i64 t, .int .i64 n, .int .i64 o]] w fun e w' => ∃ AA cA, e = .returned (.tuple #[.agg #[.slice AA (rdAt (X 0) a c).length cA, .int .i64 0], .int .i64 0]) ∧ (rdAt (X 0) a c).length ≤ cA ∧ IsSlv 77 w' g R (X) ∧ Ext (Fp g R) w w' ∧ IsAns w w' AA (rdAt (X 0) a c) := by
  have SL : Aside0 (IsSlv 77 w g R (X)) := ⟨h⟩; have XT : Aside0 (Ext (Fp g R) w w) := ⟨Ext.refl _ _⟩; have HV := Aside0.mk hV; have HN := Aside0.mk hn
  have HCK := Aside0.mk hck
  obtain ⟨xs, hxs⟩ : ∃ xs, X 0 = xs := ⟨_, rfl⟩; obtain ⟨r, hr⟩ : ∃ r, R 0 = r := ⟨_, rfl⟩; have HXS := Aside0.mk hxs; have HR := Aside0.mk hr
  obtain ⟨L, hL⟩ : ∃ L, (X 0).length = L := ⟨_, rfl⟩; have HL := Aside0.mk hL
  obtain ⟨qq, hqq⟩ : ∃ q, L - a = q := ⟨_, rfl⟩; have HQQ := Aside0.mk hqq
  have HB := Aside0.mk hb; have HFIT := Aside0.mk hfit; have HPOS := Aside0.mk hpos
  rw [hxs]
  clear h hV hn hck hb hfit hpos hxs hr hL hqq
  go_enter Try.func15, Try.ntmps15
  go_wp2_with (first | ((with_reducible refine gate_dst (N := 3) rfl ?_); refine box_event ?hg (N := 3) ?hd (cs := #[.int .i64 1, .int .i64 (a : Int), .int .i64 (c : Int), .slice A 0 cc, .int .i64 t, .int .i64 n, .int .i64 o]) (t := 24) ?hr ?_; (case hd => rfl); (case hg => rfl); (case hr => first | (go_simp; done) | (go_simp; rfl)); intro q hg w1 hbox HBc; have NS_q : Aside0 (∀ k, Fp g R k → k ≠ q) := ⟨fun k hk e => by have := SL.out.lt k hk; omega⟩; have RG_q : Aside0 (w.heap.size ≤ q) := ⟨Nat.le_trans XT.out.size (Nat.le_of_eq hg.symm)⟩; clear hg; have SLn : Aside0 (IsSlv 77 w1 g R (X)) := ⟨SL.out.below HBc⟩; have XTn : Aside0 (Ext (Fp g R) w w1) := ⟨XT.out.stepB HBc⟩; have HVn : Aside0 (Ever (Fp g R) w1 (fun W => Kd.C (Kd.int .i64) W A v.length v)) := ⟨HV.out.step (.of_below HBc)⟩; clear SL XT HV; have SL := SLn; have XT := XTn; have HV := HVn; clear SLn XTn HVn; have BK_q : Aside0 (w1.heap[q]? = some (.cells #[.int .i64 1, .int .i64 (a : Int), .int .i64 (c : Int), .slice A 0 cc, .int .i64 t, .int .i64 n, .int .i64 o] 24 (0, 0))) := ⟨hbox⟩; clear hbox HBc; have lc1_0 : w1.cell? ⟨q, 0, none⟩ = some (.int .i64 1) := (blk_cell BK_q.out 0).trans rfl; have lf1_0 := blk_frozen BK_q.out 0; have lc1_1 : w1.cell? ⟨q, 1, none⟩ = some (.int .i64 (a : Int)) := (blk_cell BK_q.out 1).trans rfl; have lf1_1 := blk_frozen BK_q.out 1; have lc1_2 : w1.cell? ⟨q, 2, none⟩ = some (.int .i64 (c : Int)) := (blk_cell BK_q.out 2).trans rfl; have lf1_2 := blk_frozen BK_q.out 2; have lc1_3 : w1.cell? ⟨q, 3, none⟩ = some (.slice A 0 cc) := (blk_cell BK_q.out 3).trans rfl; have lf1_3 := blk_frozen BK_q.out 3; have lc1_4 : w1.cell? ⟨q, 4, none⟩ = some (.int .i64 t) := (blk_cell BK_q.out 4).trans rfl; have lf1_4 := blk_frozen BK_q.out 4; have lc1_5 : w1.cell? ⟨q, 5, none⟩ = some (.int .i64 n) := (blk_cell BK_q.out 5).trans rfl; have lf1_5 := blk_frozen BK_q.out 5; have lc1_6 : w1.cell? ⟨q, 6, none⟩ = some (.int .i64 o) := (blk_cell BK_q.out 6).trans rfl; have lf1_6 := blk_frozen BK_q.out 6) | ((with_reducible refine gate_dst (N := 4) rfl ?_); refine box_event ?hg (N := 4) ?hd (cs := #[.slice none 0 0, .int .i64 0]) (t := 30) ?hr ?_; (case hd => rfl); (case hg => rfl); (case hr => first | (go_simp; done) | (go_simp; rfl)); intro z hg w2 hbox HBc; have NS_z : Aside0 (∀ k, Fp g R k → k ≠ z) := ⟨fun k hk e => by have := SL.out.lt k hk; omega⟩; have RG_z : Aside0 (w.heap.size ≤ z) := ⟨Nat.le_trans XT.out.size (Nat.le_of_eq hg.symm)⟩; have NE_q_z : Aside0 (q ≠ z) := ⟨ne_born (blk_lt BK_q.out) hg⟩; clear hg; have BK_qn : Aside0 (w2.heap[q]? = some (.cells #[.int .i64 1, .int .i64 (a : Int), .int .i64 (c : Int), .slice A 0 cc, .int .i64 t, .int .i64 n, .int .i64 o] 24 (0, 0))) := ⟨blk_below BK_q.out HBc⟩; have SLn : Aside0 (IsSlv 77 w2 g R (X)) := ⟨SL.out.below HBc⟩; have XTn : Aside0 (Ext (Fp g R) w w2) := ⟨XT.out.stepB HBc⟩; have HVn : Aside0 (Ever (Fp g R) w2 (fun W => Kd.C (Kd.int .i64) W A v.length v)) := ⟨HV.out.step (.of_below HBc)⟩; clear BK_q SL XT HV; have BK_q := BK_qn; have SL := SLn; have XT := XTn; have HV := HVn; clear BK_qn SLn XTn HVn; have BK_z : Aside0 (w2.heap[z]? = some (.cells #[.slice none 0 0, .int .i64 0] 30 (0, 0))) := ⟨hbox⟩; clear hbox HBc; have lc2_0 : w2.cell? ⟨z, 0, none⟩ = some (.slice none 0 0) := (blk_cell BK_z.out 0).trans rfl; have lf2_0 := blk_frozen BK_z.out 0; have lc2_1 : w2.cell? ⟨z, 1, none⟩ = some (.int .i64 0) := (blk_cell BK_z.out 1).trans rfl; have lf2_1 := blk_frozen BK_z.out 1; have lc3_0 : w2.cell? ⟨q, 0, none⟩ = some (.int .i64 1) := (blk_cell BK_q.out 0).trans rfl; have lf3_0 := blk_frozen BK_q.out 0; have lc3_1 : w2.cell? ⟨q, 1, none⟩ = some (.int .i64 (a : Int)) := (blk_cell BK_q.out 1).trans rfl; have lf3_1 := blk_frozen BK_q.out 1; have lc3_2 : w2.cell? ⟨q, 2, none⟩ = some (.int .i64 (c : Int)) := (blk_cell BK_q.out 2).trans rfl; have lf3_2 := blk_frozen BK_q.out 2; have lc3_3 : w2.cell? ⟨q, 3, none⟩ = some (.slice A 0 cc) := (blk_cell BK_q.out 3).trans rfl; have lf3_3 := blk_frozen BK_q.out 3; have lc3_4 : w2.cell? ⟨q, 4, none⟩ = some (.int .i64 t) := (blk_cell BK_q.out 4).trans rfl; have lf3_4 := blk_frozen BK_q.out 4; have lc3_5 : w2.cell? ⟨q, 5, none⟩ = some (.int .i64 n) := (blk_cell BK_q.out 5).trans rfl; have lf3_5 := blk_frozen BK_q.out 5; have lc3_6 : w2.cell? ⟨q, 6, none⟩ = some (.int .i64 o) := (blk_cell BK_q.out 6).trans rfl; have lf3_6 := blk_frozen BK_q.out 6) | (go_at_call 29; refine (chk_n HN.out HV.out.now HCK.out rfl).mono ?_; rintro e w3 ⟨rfl, HBc⟩; have BK_qn : Aside0 (w3.heap[q]? = some (.cells #[.int .i64 1, .int .i64 (a : Int), .int .i64 (c : Int), .slice A 0 cc, .int .i64 t, .int .i64 n, .int .i64 o] 24 (0, 0))) := ⟨blk_below BK_q.out HBc⟩; have BK_zn : Aside0 (w3.heap[z]? = some (.cells #[.slice none 0 0, .int .i64 0] 30 (0, 0))) := ⟨blk_below BK_z.out HBc⟩; have SLn : Aside0 (IsSlv 77 w3 g R (X)) := ⟨SL.out.below HBc⟩; have XTn : Aside0 (Ext (Fp g R) w w3) := ⟨XT.out.stepB HBc⟩; have HVn : Aside0 (Ever (Fp g R) w3 (fun W => Kd.C (Kd.int .i64) W A v.length v)) := ⟨HV.out.step (.of_below HBc)⟩; clear BK_q BK_z SL XT HV; have BK_q := BK_qn; have BK_z := BK_zn; have SL := SLn; have XT := XTn; have HV := HVn; clear BK_qn BK_zn SLn XTn HVn; clear HBc; have lc4_0 : w3.cell? ⟨q, 0, none⟩ = some (.int .i64 1) := (blk_cell BK_q.out 0).trans rfl; have lf4_0 := blk_frozen BK_q.out 0; have lc4_1 : w3.cell? ⟨q, 1, none⟩ = some (.int .i64 (a : Int)) := (blk_cell BK_q.out 1).trans rfl; have lf4_1 := blk_frozen BK_q.out 1; have lc4_2 : w3.cell? ⟨q, 2, none⟩ = some (.int .i64 (c : Int)) := (blk_cell BK_q.out 2).trans rfl; have lf4_2 := blk_frozen BK_q.out 2; have lc4_3 : w3.cell? ⟨q, 3, none⟩ = some (.slice A 0 cc) := (blk_cell BK_q.out 3).trans rfl; have lf4_3 := blk_frozen BK_q.out 3; have lc4_4 : w3.cell? ⟨q, 4, none⟩ = some (.int .i64 t) := (blk_cell BK_q.out 4).trans rfl; have lf4_4 := blk_frozen BK_q.out 4; have lc4_5 : w3.cell? ⟨q, 5, none⟩ = some (.int .i64 n) := (blk_cell BK_q.out 5).trans rfl; have lf4_5 := blk_frozen BK_q.out 5; have lc4_6 : w3.cell? ⟨q, 6, none⟩ = some (.int .i64 o) := (blk_cell BK_q.out 6).trans rfl; have lf4_6 := blk_frozen BK_q.out 6; have lc5_0 : w3.cell? ⟨z, 0, none⟩ = some (.slice none 0 0) := (blk_cell BK_z.out 0).trans rfl; have lf5_0 := blk_frozen BK_z.out 0; have lc5_1 : w3.cell? ⟨z, 1, none⟩ = some (.int .i64 0) := (blk_cell BK_z.out 1).trans rfl; have lf5_1 := blk_frozen BK_z.out 1) | (go_at_call 41; refine (part_pos SL.out (K := 0) (by omega) HB.out HFIT.out HPOS.out HR.out HL.out HQQ.out rfl).mono ?_; rintro e w' ⟨rfl, rfl⟩) | ((with_reducible refine gate_builtin (b := .copy) (xs := #[.tmp 97, .tmp 99]) rfl ?_); refine copy_none_ev (D := none) (n := 0) (c := 0) (A := A) (m := 0) (c2 := cc) rfl (.tmp 97) (.tmp 99) rfl Try.underlying22 one3 rfl rfl (by decide) ?_) | ((with_reducible refine gate_builtin (b := .append) (xs := #[.const (.slice none 0 0), .tmp 118]) rfl ?_); refine ev_append_rows (M := Mv (fun _ => False) (.slice none 0 0)) (Kd.int .i64) (w0 := w3) (w3.heap.size) rfl (.const (.slice none 0 0)) (.tmp 118) 22 3 (.int .i64 0) 8 rfl Try.underlying22 info3 rfl (by decide) (by decide) (.slice none 0 0) [] (rdAt xs a c) (some ⟨r, a, none⟩) (c) (qq) rfl rfl (OwnE.nil _ _ _ _ _) (RowE.elems (RowE.old (by have hrow := SL.out.row 0 (by omega); rw [HR.out, HXS.out] at hrow; have := C_sub hrow (a := a) (c := c) (by rw [← HXS.out]; exact HFIT.out) (by have := HB.out; omega); rw [rdAt_len (by rw [← HXS.out]; exact HFIT.out)] at this; exact this) (fun k hk => by rcases hk with (hk | hk) | hk; exact hk.elim; cases hk; cases hk))) (Below.refl _ _) (Nat.le_refl _) (by have := HB.out; simp only [List.length_nil]; omega) ?_; intro vv w4 HO_ HBc hgr_ _; obtain ⟨AA, cA, rfl, hcA, hAns⟩ := own_ints HO_; clear HO_ hgr_; rw [List.nil_append] at hcA hAns ⊢; have HCA := Aside0.mk hcA; have HANS : Aside0 (∀ M : Nat → Prop, (∀ k, M k → k < w3.heap.size) → Ever M w4 (fun W => Kd.C (Kd.int .i64) W AA (rdAt xs a c).length (rdAt xs a c))) := ⟨hAns⟩; have HZL : Aside0 (z < w3.heap.size ∧ w.heap.size ≤ w3.heap.size) := ⟨blk_lt BK_z.out, XT.out.size⟩; clear hAns hcA; have BK_qn : Aside0 (w4.heap[q]? = some (.cells #[.int .i64 1, .int .i64 (a : Int), .int .i64 (c : Int), .slice A 0 cc, .int .i64 t, .int .i64 n, .int .i64 o] 24 (0, 0))) := ⟨blk_below BK_q.out HBc⟩; have BK_zn : Aside0 (w4.heap[z]? = some (.cells #[.slice none 0 0, .int .i64 0] 30 (0, 0))) := ⟨blk_below BK_z.out HBc⟩; have SLn : Aside0 (IsSlv 77 w4 g R (X)) := ⟨SL.out.below HBc⟩; have XTn : Aside0 (Ext (Fp g R) w w4) := ⟨XT.out.stepB HBc⟩; have HVn : Aside0 (Ever (Fp g R) w4 (fun W => Kd.C (Kd.int .i64) W A v.length v)) := ⟨HV.out.step (.of_below HBc)⟩; clear BK_q BK_z SL XT HV; have BK_q := BK_qn; have BK_z := BK_zn; have SL := SLn; have XT := XTn; have HV := HVn; clear BK_qn BK_zn SLn XTn HVn; clear HBc; have lc6_0 : w4.cell? ⟨z, 0, none⟩ = some (.slice none 0 0) := (blk_cell BK_z.out 0).trans rfl; have lf6_0 := blk_frozen BK_z.out 0; have lc6_1 : w4.cell? ⟨z, 1, none⟩ = some (.int .i64 0) := (blk_cell BK_z.out 1).trans rfl; have lf6_1 := blk_frozen BK_z.out 1) | ((with_reducible refine gate_store (p := 4) rfl ?_); refine store_event (w1 := ?_) rfl (p := 4) rfl rfl ?hr ?_; rotate_left; (case hr => go_simp; rfl); intro w5 hw_; obtain ⟨hput, HEc⟩ := put2 hw_ BK_z.out; clear hw_; have BK_qn : Aside0 (w5.heap[q]? = some (.cells #[.int .i64 1, .int .i64 (a : Int), .int .i64 (c : Int), .slice A 0 cc, .int .i64 t, .int .i64 n, .int .i64 o] 24 (0, 0))) := ⟨Ext.blk HEc BK_q.out NE_q_z.out⟩; have SLn : Aside0 (IsSlv 77 w5 g R (X)) := ⟨SL.out.ext HEc (fun k hk e => NS_z.out k hk e)⟩; have XTn : Aside0 (Ext (Fp g R) w w5) := ⟨XT.out.step HEc (fun k e => .inr (by rw [show k = z from e]; exact RG_z.out))⟩; clear BK_q SL XT; have BK_q := BK_qn; have SL := SLn; have XT := XTn; clear BK_qn SLn XTn; clear BK_z HV; have BK_z : Aside0 (w5.heap[z]? = some (.cells #[.slice AA (rdAt xs a c).length cA, .int .i64 0] 30 (0, 0))) := ⟨hput⟩; have HST := Aside0.mk HEc; clear hput HEc))
  refine bodyPost_ret (results_ct rfl _ _ z 30 #[.slice AA (rdAt xs a c).length cA, .int .i64 0] (0, 0) _ rfl BK_z.out Try.underlying30 rfl (by kernel_rfl)) rfl ?_
  exact ⟨AA, cA, rfl, HCA.out, SL.out, XT.out, fun M hM => (HANS.out (fun k => M k ∨ k = z) (fun k hk => by rcases hk with hk | hk; exact Nat.lt_of_lt_of_le (hM k hk) HZL.out.2; rw [hk]; exact HZL.out.1)).grow (HST.out.sub (fun k e => .inr e)) (fun k hk => .inl (.inl hk))⟩
set_option maxHeartbeats 4000000 in
set_option maxRecDepth 100000 in
theorem do_r1_no {w : World} {g : Nat} {R : Nat → Nat} {X : Nat → List Int} (h : IsSlv 77 w g R X) {A : Option Addr} {cc : Nat} {v : List Int} (hn : v.length = 0) (hV : Ever (Fp g R) w (fun W => Kd.C (Kd.int .i64) W A v.length v)) {a c : Nat} {t n o : Int} (hck : Chk.chkB 2 (a : Int) (c : Int) v t n o = true) (hb : a ≤ 1000000 ∧ c ≤ 1000000) (hlt : (X 1).length < a + c) : Calls Try.prog 15 #[.pointer (some ⟨g, 0, none⟩), .agg #[.int .i64 2, .int .i64 (a : Int), .int .i64 (c : Int), .slice A 0 cc, .int .i64 t, .int .i64 n, .int .i64 o]] w fun e w' => ∃ AA cA, e = .returned (.tuple #[.agg #[.slice AA (([] : List Int)).length cA, .int .i64 2], .int .i64 0]) ∧ (([] : List Int)).length ≤ cA ∧ IsSlv 77 w' g R (X) ∧ Ext (Fp g R) w w' ∧ IsAns w w' AA (([] : List Int)) := by
  have SL : Aside0 (IsSlv 77 w g R (X)) := ⟨h⟩; have XT : Aside0 (Ext (Fp g R) w w) := ⟨Ext.refl _ _⟩; have HV := Aside0.mk hV; have HN := Aside0.mk hn
  have HCK := Aside0.mk hck
  obtain ⟨xs, hxs⟩ : ∃ xs, X 1 = xs := ⟨_, rfl⟩; obtain ⟨r, hr⟩ : ∃ r, R 1 = r := ⟨_, rfl⟩; have HXS := Aside0.mk hxs; have HR := Aside0.mk hr
  obtain ⟨L, hL⟩ : ∃ L, (X 1).length = L := ⟨_, rfl⟩; have HL := Aside0.mk hL
  obtain ⟨qq, hqq⟩ : ∃ q, L - a = q := ⟨_, rfl⟩; have HQQ := Aside0.mk hqq
  have HB := Aside0.mk hb; have HLT := Aside0.mk hlt
  clear h hV hn hck hb hlt hxs hr hL hqq
  go_enter Try.func15, Try.ntmps15
  go_wp2_with (first | ((with_reducible refine gate_dst (N := 3) rfl ?_); refine box_event ?hg (N := 3) ?hd (cs := #[.int .i64 2, .int .i64 (a : Int), .int .i64 (c : Int), .slice A 0 cc, .int .i64 t, .int .i64 n, .int .i64 o]) (t := 24) ?hr ?_; (case hd => rfl); (case hg => rfl); (case hr => first | (go_simp; done) | (go_simp; rfl)); intro q hg w1 hbox HBc; have NS_q : Aside0 (∀ k, Fp g R k → k ≠ q) := ⟨fun k hk e => by have := SL.out.lt k hk; omega⟩; have RG_q : Aside0 (w.heap.size ≤ q) := ⟨Nat.le_trans XT.out.size (Nat.le_of_eq hg.symm)⟩; clear hg; have SLn : Aside0 (IsSlv 77 w1 g R (X)) := ⟨SL.out.below HBc⟩; have XTn : Aside0 (Ext (Fp g R) w w1) := ⟨XT.out.stepB HBc⟩; have HVn : Aside0 (Ever (Fp g R) w1 (fun W => Kd.C (Kd.int .i64) W A v.length v)) := ⟨HV.out.step (.of_below HBc)⟩; clear SL XT HV; have SL := SLn; have XT := XTn; have HV := HVn; clear SLn XTn HVn; have BK_q : Aside0 (w1.heap[q]? = some (.cells #[.int .i64 2, .int .i64 (a : Int), .int .i64 (c : Int), .slice A 0 cc, .int .i64 t, .int .i64 n, .int .i64 o] 24 (0, 0))) := ⟨hbox⟩; clear hbox HBc; have lc1_0 : w1.cell? ⟨q, 0, none⟩ = some (.int .i64 2) := (blk_cell BK_q.out 0).trans rfl; have lf1_0 := blk_frozen BK_q.out 0; have lc1_1 : w1.cell? ⟨q, 1, none⟩ = some (.int .i64 (a : Int)) := (blk_cell BK_q.out 1).trans rfl; have lf1_1 := blk_frozen BK_q.out 1; have lc1_2 : w1.cell? ⟨q, 2, none⟩ = some (.int .i64 (c : Int)) := (blk_cell BK_q.out 2).trans rfl; have lf1_2 := blk_frozen BK_q.out 2; have lc1_3 : w1.cell? ⟨q, 3, none⟩ = some (.slice A 0 cc) := (blk_cell BK_q.out 3).trans rfl; have lf1_3 := blk_frozen BK_q.out 3; have lc1_4 : w1.cell? ⟨q, 4, none⟩ = some (.int .i64 t) := (blk_cell BK_q.out 4).trans rfl; have lf1_4 := blk_frozen BK_q.out 4; have lc1_5 : w1.cell? ⟨q, 5, none⟩ = some (.int .i64 n) := (blk_cell BK_q.out 5).trans rfl; have lf1_5 := blk_frozen BK_q.out 5; have lc1_6 : w1.cell? ⟨q, 6, none⟩ = some (.int .i64 o) := (blk_cell BK_q.out 6).trans rfl; have lf1_6 := blk_frozen BK_q.out 6) | ((with_reducible refine gate_dst (N := 4) rfl ?_); refine box_event ?hg (N := 4) ?hd (cs := #[.slice none 0 0, .int .i64 0]) (t := 30) ?hr ?_; (case hd => rfl); (case hg => rfl); (case hr => first | (go_simp; done) | (go_simp; rfl)); intro z hg w2 hbox HBc; have NS_z : Aside0 (∀ k, Fp g R k → k ≠ z) := ⟨fun k hk e => by have := SL.out.lt k hk; omega⟩; have RG_z : Aside0 (w.heap.size ≤ z) := ⟨Nat.le_trans XT.out.size (Nat.le_of_eq hg.symm)⟩; have NE_q_z : Aside0 (q ≠ z) := ⟨ne_born (blk_lt BK_q.out) hg⟩; clear hg; have BK_qn : Aside0 (w2.heap[q]? = some (.cells #[.int .i64 2, .int .i64 (a : Int), .int .i64 (c : Int), .slice A 0 cc, .int .i64 t, .int .i64 n, .int .i64 o] 24 (0, 0))) := ⟨blk_below BK_q.out HBc⟩; have SLn : Aside0 (IsSlv 77 w2 g R (X)) := ⟨SL.out.below HBc⟩; have XTn : Aside0 (Ext (Fp g R) w w2) := ⟨XT.out.stepB HBc⟩; have HVn : Aside0 (Ever (Fp g R) w2 (fun W => Kd.C (Kd.int .i64) W A v.length v)) := ⟨HV.out.step (.of_below HBc)⟩; clear BK_q SL XT HV; have BK_q := BK_qn; have SL := SLn; have XT := XTn; have HV := HVn; clear BK_qn SLn XTn HVn; have BK_z : Aside0 (w2.heap[z]? = some (.cells #[.slice none 0 0, .int .i64 0] 30 (0, 0))) := ⟨hbox⟩; clear hbox HBc; have lc2_0 : w2.cell? ⟨z, 0, none⟩ = some (.slice none 0 0) := (blk_cell BK_z.out 0).trans rfl; have lf2_0 := blk_frozen BK_z.out 0; have lc2_1 : w2.cell? ⟨z, 1, none⟩ = some (.int .i64 0) := (blk_cell BK_z.out 1).trans rfl; have lf2_1 := blk_frozen BK_z.out 1; have lc3_0 : w2.cell? ⟨q, 0, none⟩ = some (.int .i64 2) := (blk_cell BK_q.out 0).trans rfl; have lf3_0 := blk_frozen BK_q.out 0; have lc3_1 : w2.cell? ⟨q, 1, none⟩ = some (.int .i64 (a : Int)) := (blk_cell BK_q.out 1).trans rfl; have lf3_1 := blk_frozen BK_q.out 1; have lc3_2 : w2.cell? ⟨q, 2, none⟩ = some (.int .i64 (c : Int)) := (blk_cell BK_q.out 2).trans rfl; have lf3_2 := blk_frozen BK_q.out 2; have lc3_3 : w2.cell? ⟨q, 3, none⟩ = some (.slice A 0 cc) := (blk_cell BK_q.out 3).trans rfl; have lf3_3 := blk_frozen BK_q.out 3; have lc3_4 : w2.cell? ⟨q, 4, none⟩ = some (.int .i64 t) := (blk_cell BK_q.out 4).trans rfl; have lf3_4 := blk_frozen BK_q.out 4; have lc3_5 : w2.cell? ⟨q, 5, none⟩ = some (.int .i64 n) := (blk_cell BK_q.out 5).trans rfl; have lf3_5 := blk_frozen BK_q.out 5; have lc3_6 : w2.cell? ⟨q, 6, none⟩ = some (.int .i64 o) := (blk_cell BK_q.out 6).trans rfl; have lf3_6 := blk_frozen BK_q.out 6) | (go_at_call 29; refine (chk_n HN.out HV.out.now HCK.out rfl).mono ?_; rintro e w3 ⟨rfl, HBc⟩; have BK_qn : Aside0 (w3.heap[q]? = some (.cells #[.int .i64 2, .int .i64 (a : Int), .int .i64 (c : Int), .slice A 0 cc, .int .i64 t, .int .i64 n, .int .i64 o] 24 (0, 0))) := ⟨blk_below BK_q.out HBc⟩; have BK_zn : Aside0 (w3.heap[z]? = some (.cells #[.slice none 0 0, .int .i64 0] 30 (0, 0))) := ⟨blk_below BK_z.out HBc⟩; have SLn : Aside0 (IsSlv 77 w3 g R (X)) := ⟨SL.out.below HBc⟩; have XTn : Aside0 (Ext (Fp g R) w w3) := ⟨XT.out.stepB HBc⟩; have HVn : Aside0 (Ever (Fp g R) w3 (fun W => Kd.C (Kd.int .i64) W A v.length v)) := ⟨HV.out.step (.of_below HBc)⟩; clear BK_q BK_z SL XT HV; have BK_q := BK_qn; have BK_z := BK_zn; have SL := SLn; have XT := XTn; have HV := HVn; clear BK_qn BK_zn SLn XTn HVn; clear HBc; have lc4_0 : w3.cell? ⟨q, 0, none⟩ = some (.int .i64 2) := (blk_cell BK_q.out 0).trans rfl; have lf4_0 := blk_frozen BK_q.out 0; have lc4_1 : w3.cell? ⟨q, 1, none⟩ = some (.int .i64 (a : Int)) := (blk_cell BK_q.out 1).trans rfl; have lf4_1 := blk_frozen BK_q.out 1; have lc4_2 : w3.cell? ⟨q, 2, none⟩ = some (.int .i64 (c : Int)) := (blk_cell BK_q.out 2).trans rfl; have lf4_2 := blk_frozen BK_q.out 2; have lc4_3 : w3.cell? ⟨q, 3, none⟩ = some (.slice A 0 cc) := (blk_cell BK_q.out 3).trans rfl; have lf4_3 := blk_frozen BK_q.out 3; have lc4_4 : w3.cell? ⟨q, 4, none⟩ = some (.int .i64 t) := (blk_cell BK_q.out 4).trans rfl; have lf4_4 := blk_frozen BK_q.out 4; have lc4_5 : w3.cell? ⟨q, 5, none⟩ = some (.int .i64 n) := (blk_cell BK_q.out 5).trans rfl; have lf4_5 := blk_frozen BK_q.out 5; have lc4_6 : w3.cell? ⟨q, 6, none⟩ = some (.int .i64 o) := (blk_cell BK_q.out 6).trans rfl; have lf4_6 := blk_frozen BK_q.out 6; have lc5_0 : w3.cell? ⟨z, 0, none⟩ = some (.slice none 0 0) := (blk_cell BK_z.out 0).trans rfl; have lf5_0 := blk_frozen BK_z.out 0; have lc5_1 : w3.cell? ⟨z, 1, none⟩ = some (.int .i64 0) := (blk_cell BK_z.out 1).trans rfl; have lf5_1 := blk_frozen BK_z.out 1) | (go_at_call 41; refine (part_neg SL.out (K := 1) (by omega) HB.out HLT.out rfl).mono ?_; rintro e w' ⟨rfl, rfl⟩) | ((with_reducible refine gate_store (p := 4) rfl ?_); refine store_event (w1 := ?_) rfl (p := 4) rfl rfl ?hr ?_; rotate_left; (case hr => go_simp; rfl); intro w4 hw_; obtain ⟨hput, HEc⟩ := put2 hw_ BK_z.out; clear hw_; have BK_qn : Aside0 (w4.heap[q]? = some (.cells #[.int .i64 2, .int .i64 (a : Int), .int .i64 (c : Int), .slice A 0 cc, .int .i64 t, .int .i64 n, .int .i64 o] 24 (0, 0))) := ⟨Ext.blk HEc BK_q.out NE_q_z.out⟩; have SLn : Aside0 (IsSlv 77 w4 g R (X)) := ⟨SL.out.ext HEc (fun k hk e => NS_z.out k hk e)⟩; have XTn : Aside0 (Ext (Fp g R) w w4) := ⟨XT.out.step HEc (fun k e => .inr (by rw [show k = z from e]; exact RG_z.out))⟩; clear BK_q SL XT; have BK_q := BK_qn; have SL := SLn; have XT := XTn; clear BK_qn SLn XTn; clear BK_z HV; have BK_z : Aside0 (w4.heap[z]? = some (.cells #[.slice none 0 0, .int .i64 2] 30 (0, 0))) := ⟨hput⟩; have HST := Aside0.mk HEc; clear hput HEc))
  refine bodyPost_ret (results_ct rfl _ _ z 30 #[.slice none 0 0, .int .i64 2] (0, 0) _ rfl BK_z.out Try.underlying30 rfl (by kernel_rfl)) rfl ?_
  exact ⟨none, 0, rfl, Nat.le_refl _, SL.out, XT.out, fun M hM => Ever.nil _⟩
set_option maxHeartbeats 4000000 in
set_option maxRecDepth 100000 in
theorem do_r1_yes {w : World} {g : Nat} {R : Nat → Nat} {X : Nat → List Int} (h : IsSlv 77 w g R X) {A : Option Addr} {cc : Nat} {v : List Int} (hn : v.length = 0) (hV : Ever (Fp g R) w (fun W => Kd.C (Kd.int .i64) W A v.length v)) {a c : Nat} {t n o : Int} (hck : Chk.chkB 2 (a : Int) (c : Int) v t n o = true) (hb : a ≤ 1000000 ∧ c ≤ 1000000) (hpos : 0 < c) (hfit : a + c ≤ (X 1).length) : Calls Try.prog 15 #[.pointer (some ⟨g, 0, none⟩), .agg #[.int .i64 2, .int .i64 (a : Int), .int .i64 (c : Int), .slice A 0 cc, .int .i64 t, .int .i64 n, .int .i64 o]] w fun e w' => ∃ AA cA, e = .returned (.tuple #[.agg #[.slice AA (rdAt (X 1) a c).length cA, .int .i64 0], .int .i64 0]) ∧ (rdAt (X 1) a c).length ≤ cA ∧ IsSlv 77 w' g R (X) ∧ Ext (Fp g R) w w' ∧ IsAns w w' AA (rdAt (X 1) a c) := by
  have SL : Aside0 (IsSlv 77 w g R (X)) := ⟨h⟩; have XT : Aside0 (Ext (Fp g R) w w) := ⟨Ext.refl _ _⟩; have HV := Aside0.mk hV; have HN := Aside0.mk hn
  have HCK := Aside0.mk hck
  obtain ⟨xs, hxs⟩ : ∃ xs, X 1 = xs := ⟨_, rfl⟩; obtain ⟨r, hr⟩ : ∃ r, R 1 = r := ⟨_, rfl⟩; have HXS := Aside0.mk hxs; have HR := Aside0.mk hr
  obtain ⟨L, hL⟩ : ∃ L, (X 1).length = L := ⟨_, rfl⟩; have HL := Aside0.mk hL
  obtain ⟨qq, hqq⟩ : ∃ q, L - a = q := ⟨_, rfl⟩; have HQQ := Aside0.mk hqq
  have HB := Aside0.mk hb; have HFIT := Aside0.mk hfit; have HPOS := Aside0.mk hpos
  rw [hxs]
  clear h hV hn hck hb hfit hpos hxs hr hL hqq
  go_enter Try.func15, Try.ntmps15
  go_wp2_with (first | ((with_reducible refine gate_dst (N := 3) rfl ?_); refine box_event ?hg (N := 3) ?hd (cs := #[.int .i64 2, .int .i64 (a : Int), .int .i64 (c : Int), .slice A 0 cc, .int .i64 t, .int .i64 n, .int .i64 o]) (t := 24) ?hr ?_; (case hd => rfl); (case hg => rfl); (case hr => first | (go_simp; done) | (go_simp; rfl)); intro q hg w1 hbox HBc; have NS_q : Aside0 (∀ k, Fp g R k → k ≠ q) := ⟨fun k hk e => by have := SL.out.lt k hk; omega⟩; have RG_q : Aside0 (w.heap.size ≤ q) := ⟨Nat.le_trans XT.out.size (Nat.le_of_eq hg.symm)⟩; clear hg; have SLn : Aside0 (IsSlv 77 w1 g R (X)) := ⟨SL.out.below HBc⟩; have XTn : Aside0 (Ext (Fp g R) w w1) := ⟨XT.out.stepB HBc⟩; have HVn : Aside0 (Ever (Fp g R) w1 (fun W => Kd.C (Kd.int .i64) W A v.length v)) := ⟨HV.out.step (.of_below HBc)⟩; clear SL XT HV; have SL := SLn; have XT := XTn; have HV := HVn; clear SLn XTn HVn; have BK_q : Aside0 (w1.heap[q]? = some (.cells #[.int .i64 2, .int .i64 (a : Int), .int .i64 (c : Int), .slice A 0 cc, .int .i64 t, .int .i64 n, .int .i64 o] 24 (0, 0))) := ⟨hbox⟩; clear hbox HBc; have lc1_0 : w1.cell? ⟨q, 0, none⟩ = some (.int .i64 2) := (blk_cell BK_q.out 0).trans rfl; have lf1_0 := blk_frozen BK_q.out 0; have lc1_1 : w1.cell? ⟨q, 1, none⟩ = some (.int .i64 (a : Int)) := (blk_cell BK_q.out 1).trans rfl; have lf1_1 := blk_frozen BK_q.out 1; have lc1_2 : w1.cell? ⟨q, 2, none⟩ = some (.int .i64 (c : Int)) := (blk_cell BK_q.out 2).trans rfl; have lf1_2 := blk_frozen BK_q.out 2; have lc1_3 : w1.cell? ⟨q, 3, none⟩ = some (.slice A 0 cc) := (blk_cell BK_q.out 3).trans rfl; have lf1_3 := blk_frozen BK_q.out 3; have lc1_4 : w1.cell? ⟨q, 4, none⟩ = some (.int .i64 t) := (blk_cell BK_q.out 4).trans rfl; have lf1_4 := blk_frozen BK_q.out 4; have lc1_5 : w1.cell? ⟨q, 5, none⟩ = some (.int .i64 n) := (blk_cell BK_q.out 5).trans rfl; have lf1_5 := blk_frozen BK_q.out 5; have lc1_6 : w1.cell? ⟨q, 6, none⟩ = some (.int .i64 o) := (blk_cell BK_q.out 6).trans rfl; have lf1_6 := blk_frozen BK_q.out 6) | ((with_reducible refine gate_dst (N := 4) rfl ?_); refine box_event ?hg (N := 4) ?hd (cs := #[.slice none 0 0, .int .i64 0]) (t := 30) ?hr ?_; (case hd => rfl); (case hg => rfl); (case hr => first | (go_simp; done) | (go_simp; rfl)); intro z hg w2 hbox HBc; have NS_z : Aside0 (∀ k, Fp g R k → k ≠ z) := ⟨fun k hk e => by have := SL.out.lt k hk; omega⟩; have RG_z : Aside0 (w.heap.size ≤ z) := ⟨Nat.le_trans XT.out.size (Nat.le_of_eq hg.symm)⟩; have NE_q_z : Aside0 (q ≠ z) := ⟨ne_born (blk_lt BK_q.out) hg⟩; clear hg; have BK_qn : Aside0 (w2.heap[q]? = some (.cells #[.int .i64 2, .int .i64 (a : Int), .int .i64 (c : Int), .slice A 0 cc, .int .i64 t, .int .i64 n, .int .i64 o] 24 (0, 0))) := ⟨blk_below BK_q.out HBc⟩; have SLn : Aside0 (IsSlv 77 w2 g R (X)) := ⟨SL.out.below HBc⟩; have XTn : Aside0 (Ext (Fp g R) w w2) := ⟨XT.out.stepB HBc⟩; have HVn : Aside0 (Ever (Fp g R) w2 (fun W => Kd.C (Kd.int .i64) W A v.length v)) := ⟨HV.out.step (.of_below HBc)⟩; clear BK_q SL XT HV; have BK_q := BK_qn; have SL := SLn; have XT := XTn; have HV := HVn; clear BK_qn SLn XTn HVn; have BK_z : Aside0 (w2.heap[z]? = some (.cells #[.slice none 0 0, .int .i64 0] 30 (0, 0))) := ⟨hbox⟩; clear hbox HBc; have lc2_0 : w2.cell? ⟨z, 0, none⟩ = some (.slice none 0 0) := (blk_cell BK_z.out 0).trans rfl; have lf2_0 := blk_frozen BK_z.out 0; have lc2_1 : w2.cell? ⟨z, 1, none⟩ = some (.int .i64 0) := (blk_cell BK_z.out 1).trans rfl; have lf2_1 := blk_frozen BK_z.out 1; have lc3_0 : w2.cell? ⟨q, 0, none⟩ = some (.int .i64 2) := (blk_cell BK_q.out 0).trans rfl; have lf3_0 := blk_frozen BK_q.out 0; have lc3_1 : w2.cell? ⟨q, 1, none⟩ = some (.int .i64 (a : Int)) := (blk_cell BK_q.out 1).trans rfl; have lf3_1 := blk_frozen BK_q.out 1; have lc3_2 : w2.cell? ⟨q, 2, none⟩ = some (.int .i64 (c : Int)) := (blk_cell BK_q.out 2).trans rfl; have lf3_2 := blk_frozen BK_q.out 2; have lc3_3 : w2.cell? ⟨q, 3, none⟩ = some (.slice A 0 cc) := (blk_cell BK_q.out 3).trans rfl; have lf3_3 := blk_frozen BK_q.out 3; have lc3_4 : w2.cell? ⟨q, 4, none⟩ = some (.int .i64 t) := (blk_cell BK_q.out 4).trans rfl; have lf3_4 := blk_frozen BK_q.out 4; have lc3_5 : w2.cell? ⟨q, 5, none⟩ = some (.int .i64 n) := (blk_cell BK_q.out 5).trans rfl; have lf3_5 := blk_frozen BK_q.out 5; have lc3_6 : w2.cell? ⟨q, 6, none⟩ = some (.int .i64 o) := (blk_cell BK_q.out 6).trans rfl; have lf3_6 := blk_frozen BK_q.out 6) | (go_at_call 29; refine (chk_n HN.out HV.out.now HCK.out rfl).mono ?_; rintro e w3 ⟨rfl, HBc⟩; have BK_qn : Aside0 (w3.heap[q]? = some (.cells #[.int .i64 2, .int .i64 (a : Int), .int .i64 (c : Int), .slice A 0 cc, .int .i64 t, .int .i64 n, .int .i64 o] 24 (0, 0))) := ⟨blk_below BK_q.out HBc⟩; have BK_zn : Aside0 (w3.heap[z]? = some (.cells #[.slice none 0 0, .int .i64 0] 30 (0, 0))) := ⟨blk_below BK_z.out HBc⟩; have SLn : Aside0 (IsSlv 77 w3 g R (X)) := ⟨SL.out.below HBc⟩; have XTn : Aside0 (Ext (Fp g R) w w3) := ⟨XT.out.stepB HBc⟩; have HVn : Aside0 (Ever (Fp g R) w3 (fun W => Kd.C (Kd.int .i64) W A v.length v)) := ⟨HV.out.step (.of_below HBc)⟩; clear BK_q BK_z SL XT HV; have BK_q := BK_qn; have BK_z := BK_zn; have SL := SLn; have XT := XTn; have HV := HVn; clear BK_qn BK_zn SLn XTn HVn; clear HBc; have lc4_0 : w3.cell? ⟨q, 0, none⟩ = some (.int .i64 2) := (blk_cell BK_q.out 0).trans rfl; have lf4_0 := blk_frozen BK_q.out 0; have lc4_1 : w3.cell? ⟨q, 1, none⟩ = some (.int .i64 (a : Int)) := (blk_cell BK_q.out 1).trans rfl; have lf4_1 := blk_frozen BK_q.out 1; have lc4_2 : w3.cell? ⟨q, 2, none⟩ = some (.int .i64 (c : Int)) := (blk_cell BK_q.out 2).trans rfl; have lf4_2 := blk_frozen BK_q.out 2; have lc4_3 : w3.cell? ⟨q, 3, none⟩ = some (.slice A 0 cc) := (blk_cell BK_q.out 3).trans rfl; have lf4_3 := blk_frozen BK_q.out 3; have lc4_4 : w3.cell? ⟨q, 4, none⟩ = some (.int .i64 t) := (blk_cell BK_q.out 4).trans rfl; have lf4_4 := blk_frozen BK_q.out 4; have lc4_5 : w3.cell? ⟨q, 5, none⟩ = some (.int .i64 n) := (blk_cell BK_q.out 5).trans rfl; have lf4_5 := blk_frozen BK_q.out 5; have lc4_6 : w3.cell? ⟨q, 6, none⟩ = some (.int .i64 o) := (blk_cell BK_q.out 6).trans rfl; have lf4_6 := blk_frozen BK_q.out 6; have lc5_0 : w3.cell? ⟨z, 0, none⟩ = some (.slice none 0 0) := (blk_cell BK_z.out 0).trans rfl; have lf5_0 := blk_frozen BK_z.out 0; have lc5_1 : w3.cell? ⟨z, 1, none⟩ = some (.int .i64 0) := (blk_cell BK_z.out 1).trans rfl; have lf5_1 := blk_frozen BK_z.out 1) | (go_at_call 41; refine (part_pos SL.out (K := 1) (by omega) HB.out HFIT.out HPOS.out HR.out HL.out HQQ.out rfl).mono ?_; rintro e w' ⟨rfl, rfl⟩) | ((with_reducible refine gate_builtin (b := .copy) (xs := #[.tmp 97, .tmp 99]) rfl ?_); refine copy_none_ev (D := none) (n := 0) (c := 0) (A := A) (m := 0) (c2 := cc) rfl (.tmp 97) (.tmp 99) rfl Try.underlying22 one3 rfl rfl (by decide) ?_) | ((with_reducible refine gate_builtin (b := .append) (xs := #[.const (.slice none 0 0), .tmp 118]) rfl ?_); refine ev_append_rows (M := Mv (fun _ => False) (.slice none 0 0)) (Kd.int .i64) (w0 := w3) (w3.heap.size) rfl (.const (.slice none 0 0)) (.tmp 118) 22 3 (.int .i64 0) 8 rfl Try.underlying22 info3 rfl (by decide) (by decide) (.slice none 0 0) [] (rdAt xs a c) (some ⟨r, a, none⟩) (c) (qq) rfl rfl (OwnE.nil _ _ _ _ _) (RowE.elems (RowE.old (by have hrow := SL.out.row 1 (by omega); rw [HR.out, HXS.out] at hrow; have := C_sub hrow (a := a) (c := c) (by rw [← HXS.out]; exact HFIT.out) (by have := HB.out; omega); rw [rdAt_len (by rw [← HXS.out]; exact HFIT.out)] at this; exact this) (fun k hk => by rcases hk with (hk | hk) | hk; exact hk.elim; cases hk; cases hk))) (Below.refl _ _) (Nat.le_refl _) (by have := HB.out; simp only [List.length_nil]; omega) ?_; intro vv w4 HO_ HBc hgr_ _; obtain ⟨AA, cA, rfl, hcA, hAns⟩ := own_ints HO_; clear HO_ hgr_; rw [List.nil_append] at hcA hAns ⊢; have HCA := Aside0.mk hcA; have HANS : Aside0 (∀ M : Nat → Prop, (∀ k, M k → k < w3.heap.size) → Ever M w4 (fun W => Kd.C (Kd.int .i64) W AA (rdAt xs a c).length (rdAt xs a c))) := ⟨hAns⟩; have HZL : Aside0 (z < w3.heap.size ∧ w.heap.size ≤ w3.heap.size) := ⟨blk_lt BK_z.out, XT.out.size⟩; clear hAns hcA; have BK_qn : Aside0 (w4.heap[q]? = some (.cells #[.int .i64 2, .int .i64 (a : Int), .int .i64 (c : Int), .slice A 0 cc, .int .i64 t, .int .i64 n, .int .i64 o] 24 (0, 0))) := ⟨blk_below BK_q.out HBc⟩; have BK_zn : Aside0 (w4.heap[z]? = some (.cells #[.slice none 0 0, .int .i64 0] 30 (0, 0))) := ⟨blk_below BK_z.out HBc⟩; have SLn : Aside0 (IsSlv 77 w4 g R (X)) := ⟨SL.out.below HBc⟩; have XTn : Aside0 (Ext (Fp g R) w w4) := ⟨XT.out.stepB HBc⟩; have HVn : Aside0 (Ever (Fp g R) w4 (fun W => Kd.C (Kd.int .i64) W A v.length v)) := ⟨HV.out.step (.of_below HBc)⟩; clear BK_q BK_z SL XT HV; have BK_q := BK_qn; have BK_z := BK_zn; have SL := SLn; have XT := XTn; have HV := HVn; clear BK_qn BK_zn SLn XTn HVn; clear HBc; have lc6_0 : w4.cell? ⟨z, 0, none⟩ = some (.slice none 0 0) := (blk_cell BK_z.out 0).trans rfl; have lf6_0 := blk_frozen BK_z.out 0; have lc6_1 : w4.cell? ⟨z, 1, none⟩ = some (.int .i64 0) := (blk_cell BK_z.out 1).trans rfl; have lf6_1 := blk_frozen BK_z.out 1) | ((with_reducible refine gate_store (p := 4) rfl ?_); refine store_event (w1 := ?_) rfl (p := 4) rfl rfl ?hr ?_; rotate_left; (case hr => go_simp; rfl); intro w5 hw_; obtain ⟨hput, HEc⟩ := put2 hw_ BK_z.out; clear hw_; have BK_qn : Aside0 (w5.heap[q]? = some (.cells #[.int .i64 2, .int .i64 (a : Int), .int .i64 (c : Int), .slice A 0 cc, .int .i64 t, .int .i64 n, .int .i64 o] 24 (0, 0))) := ⟨Ext.blk HEc BK_q.out NE_q_z.out⟩; have SLn : Aside0 (IsSlv 77 w5 g R (X)) := ⟨SL.out.ext HEc (fun k hk e => NS_z.out k hk e)⟩; have XTn : Aside0 (Ext (Fp g R) w w5) := ⟨XT.out.step HEc (fun k e => .inr (by rw [show k = z from e]; exact RG_z.out))⟩; clear BK_q SL XT; have BK_q := BK_qn; have SL := SLn; have XT := XTn; clear BK_qn SLn XTn; clear BK_z HV; have BK_z : Aside0 (w5.heap[z]? = some (.cells #[.slice AA (rdAt xs a c).length cA, .int .i64 0] 30 (0, 0))) := ⟨hput⟩; have HST := Aside0.mk HEc; clear hput HEc))
  refine bodyPost_ret (results_ct rfl _ _ z 30 #[.slice AA (rdAt xs a c).length cA, .int .i64 0] (0, 0) _ rfl BK_z.out Try.underlying30 rfl (by kernel_rfl)) rfl ?_
  exact ⟨AA, cA, rfl, HCA.out, SL.out, XT.out, fun M hM => (HANS.out (fun k => M k ∨ k = z) (fun k hk => by rcases hk with hk | hk; exact Nat.lt_of_lt_of_le (hM k hk) HZL.out.2; rw [hk]; exact HZL.out.1)).grow (HST.out.sub (fun k e => .inr e)) (fun k hk => .inl (.inl hk))⟩
set_option maxHeartbeats 4000000 in
set_option maxRecDepth 100000 in
theorem do_r2_no {w : World} {g : Nat} {R : Nat → Nat} {X : Nat → List Int} (h : IsSlv 77 w g R X) {A : Option Addr} {cc : Nat} {v : List Int} (hn : v.length = 0) (hV : Ever (Fp g R) w (fun W => Kd.C (Kd.int .i64) W A v.length v)) {a c : Nat} {t n o : Int} (hck : Chk.chkB 3 (a : Int) (c : Int) v t n o = true) (hb : a ≤ 1000000 ∧ c ≤ 1000000) (hlt : (X 2).length < a + c) : Calls Try.prog 15 #[.pointer (some ⟨g, 0, none⟩), .agg #[.int .i64 3, .int .i64 (a : Int), .int .i64 (c : Int), .slice A 0 cc, .int .i64 t, .int .i64 n, .int .i64 o]] w fun e w' => ∃ AA cA, e = .returned (.tuple #[.agg #[.slice AA (([] : List Int)).length cA, .int .i64 2], .int .i64 0]) ∧ (([] : List Int)).length ≤ cA ∧ IsSlv 77 w' g R (X) ∧ Ext (Fp g R) w w' ∧ IsAns w w' AA (([] : List Int)) := by
  have SL : Aside0 (IsSlv 77 w g R (X)) := ⟨h⟩; have XT : Aside0 (Ext (Fp g R) w w) := ⟨Ext.refl _ _⟩; have HV := Aside0.mk hV; have HN := Aside0.mk hn
  have HCK := Aside0.mk hck
  obtain ⟨xs, hxs⟩ : ∃ xs, X 2 = xs := ⟨_, rfl⟩; obtain ⟨r, hr⟩ : ∃ r, R 2 = r := ⟨_, rfl⟩; have HXS := Aside0.mk hxs; have HR := Aside0.mk hr
  obtain ⟨L, hL⟩ : ∃ L, (X 2).length = L := ⟨_, rfl⟩; have HL := Aside0.mk hL
  obtain ⟨qq, hqq⟩ : ∃ q, L - a = q := ⟨_, rfl⟩; have HQQ := Aside0.mk hqq
  have HB := Aside0.mk hb; have HLT := Aside0.mk hlt
  clear h hV hn hck hb hlt hxs hr hL hqq
  go_enter Try.func15, Try.ntmps15
  go_wp2_with (first | ((with_reducible refine gate_dst (N := 3) rfl ?_); refine box_event ?hg (N := 3) ?hd (cs := #[.int .i64 3, .int .i64 (a : Int), .int .i64 (c : Int), .slice A 0 cc, .int .i64 t, .int .i64 n, .int .i64 o]) (t := 24) ?hr ?_; (case hd => rfl); (case hg => rfl); (case hr => first | (go_simp; done) | (go_simp; rfl)); intro q hg w1 hbox HBc; have NS_q : Aside0 (∀ k, Fp g R k → k ≠ q) := ⟨fun k hk e => by have := SL.out.lt k hk; omega⟩; have RG_q : Aside0 (w.heap.size ≤ q) := ⟨Nat.le_trans XT.out.size (Nat.le_of_eq hg.symm)⟩; clear hg; have SLn : Aside0 (IsSlv 77 w1 g R (X)) := ⟨SL.out.below HBc⟩; have XTn : Aside0 (Ext (Fp g R) w w1) := ⟨XT.out.stepB HBc⟩; have HVn : Aside0 (Ever (Fp g R) w1 (fun W => Kd.C (Kd.int .i64) W A v.length v)) := ⟨HV.out.step (.of_below HBc)⟩; clear SL XT HV; have SL := SLn; have XT := XTn; have HV := HVn; clear SLn XTn HVn; have BK_q : Aside0 (w1.heap[q]? = some (.cells #[.int .i64 3, .int .i64 (a : Int), .int .i64 (c : Int), .slice A 0 cc, .int .i64 t, .int .i64 n, .int .i64 o] 24 (0, 0))) := ⟨hbox⟩; clear hbox HBc; have lc1_0 : w1.cell? ⟨q, 0, none⟩ = some (.int .i64 3) := (blk_cell BK_q.out 0).trans rfl; have lf1_0 := blk_frozen BK_q.out 0; have lc1_1 : w1.cell? ⟨q, 1, none⟩ = some (.int .i64 (a : Int)) := (blk_cell BK_q.out 1).trans rfl; have lf1_1 := blk_frozen BK_q.out 1; have lc1_2 : w1.cell? ⟨q, 2, none⟩ = some (.int .i64 (c : Int)) := (blk_cell BK_q.out 2).trans rfl; have lf1_2 := blk_frozen BK_q.out 2; have lc1_3 : w1.cell? ⟨q, 3, none⟩ = some (.slice A 0 cc) := (blk_cell BK_q.out 3).trans rfl; have lf1_3 := blk_frozen BK_q.out 3; have lc1_4 : w1.cell? ⟨q, 4, none⟩ = some (.int .i64 t) := (blk_cell BK_q.out 4).trans rfl; have lf1_4 := blk_frozen BK_q.out 4; have lc1_5 : w1.cell? ⟨q, 5, none⟩ = some (.int .i64 n) := (blk_cell BK_q.out 5).trans rfl; have lf1_5 := blk_frozen BK_q.out 5; have lc1_6 : w1.cell? ⟨q, 6, none⟩ = some (.int .i64 o) := (blk_cell BK_q.out 6).trans rfl; have lf1_6 := blk_frozen BK_q.out 6) | ((with_reducible refine gate_dst (N := 4) rfl ?_); refine box_event ?hg (N := 4) ?hd (cs := #[.slice none 0 0, .int .i64 0]) (t := 30) ?hr ?_; (case hd => rfl); (case hg => rfl); (case hr => first | (go_simp; done) | (go_simp; rfl)); intro z hg w2 hbox HBc; have NS_z : Aside0 (∀ k, Fp g R k → k ≠ z) := ⟨fun k hk e => by have := SL.out.lt k hk; omega⟩; have RG_z : Aside0 (w.heap.size ≤ z) := ⟨Nat.le_trans XT.out.size (Nat.le_of_eq hg.symm)⟩; have NE_q_z : Aside0 (q ≠ z) := ⟨ne_born (blk_lt BK_q.out) hg⟩; clear hg; have BK_qn : Aside0 (w2.heap[q]? = some (.cells #[.int .i64 3, .int .i64 (a : Int), .int .i64 (c : Int), .slice A 0 cc, .int .i64 t, .int .i64 n, .int .i64 o] 24 (0, 0))) := ⟨blk_below BK_q.out HBc⟩; have SLn : Aside0 (IsSlv 77 w2 g R (X)) := ⟨SL.out.below HBc⟩; have XTn : Aside0 (Ext (Fp g R) w w2) := ⟨XT.out.stepB HBc⟩; have HVn : Aside0 (Ever (Fp g R) w2 (fun W => Kd.C (Kd.int .i64) W A v.length v)) := ⟨HV.out.step (.of_below HBc)⟩; clear BK_q SL XT HV; have BK_q := BK_qn; have SL := SLn; have XT := XTn; have HV := HVn; clear BK_qn SLn XTn HVn; have BK_z : Aside0 (w2.heap[z]? = some (.cells #[.slice none 0 0, .int .i64 0] 30 (0, 0))) := ⟨hbox⟩; clear hbox HBc; have lc2_0 : w2.cell? ⟨z, 0, none⟩ = some (.slice none 0 0) := (blk_cell BK_z.out 0).trans rfl; have lf2_0 := blk_frozen BK_z.out 0; have lc2_1 : w2.cell? ⟨z, 1, none⟩ = some (.int .i64 0) := (blk_cell BK_z.out 1).trans rfl; have lf2_1 := blk_frozen BK_z.out 1; have lc3_0 : w2.cell? ⟨q, 0, none⟩ = some (.int .i64 3) := (blk_cell BK_q.out 0).trans rfl; have lf3_0 := blk_frozen BK_q.out 0; have lc3_1 : w2.cell? ⟨q, 1, none⟩ = some (.int .i64 (a : Int)) := (blk_cell BK_q.out 1).trans rfl; have lf3_1 := blk_frozen BK_q.out 1; have lc3_2 : w2.cell? ⟨q, 2, none⟩ = some (.int .i64 (c : Int)) := (blk_cell BK_q.out 2).trans rfl; have lf3_2 := blk_frozen BK_q.out 2; have lc3_3 : w2.cell? ⟨q, 3, none⟩ = some (.slice A 0 cc) := (blk_cell BK_q.out 3).trans rfl; have lf3_3 := blk_frozen BK_q.out 3; have lc3_4 : w2.cell? ⟨q, 4, none⟩ = some (.int .i64 t) := (blk_cell BK_q.out 4).trans rfl; have lf3_4 := blk_frozen BK_q.out 4; have lc3_5 : w2.cell? ⟨q, 5, none⟩ = some (.int .i64 n) := (blk_cell BK_q.out 5).trans rfl; have lf3_5 := blk_frozen BK_q.out 5; have lc3_6 : w2.cell? ⟨q, 6, none⟩ = some (.int .i64 o) := (blk_cell BK_q.out 6).trans rfl; have lf3_6 := blk_frozen BK_q.out 6) | (go_at_call 29; refine (chk_n HN.out HV.out.now HCK.out rfl).mono ?_; rintro e w3 ⟨rfl, HBc⟩; have BK_qn : Aside0 (w3.heap[q]? = some (.cells #[.int .i64 3, .int .i64 (a : Int), .int .i64 (c : Int), .slice A 0 cc, .int .i64 t, .int .i64 n, .int .i64 o] 24 (0, 0))) := ⟨blk_below BK_q.out HBc⟩; have BK_zn : Aside0 (w3.heap[z]? = some (.cells #[.slice none 0 0, .int .i64 0] 30 (0, 0))) := ⟨blk_below BK_z.out HBc⟩; have SLn : Aside0 (IsSlv 77 w3 g R (X)) := ⟨SL.out.below HBc⟩; have XTn : Aside0 (Ext (Fp g R) w w3) := ⟨XT.out.stepB HBc⟩; have HVn : Aside0 (Ever (Fp g R) w3 (fun W => Kd.C (Kd.int .i64) W A v.length v)) := ⟨HV.out.step (.of_below HBc)⟩; clear BK_q BK_z SL XT HV; have BK_q := BK_qn; have BK_z := BK_zn; have SL := SLn; have XT := XTn; have HV := HVn; clear BK_qn BK_zn SLn XTn HVn; clear HBc; have lc4_0 : w3.cell? ⟨q, 0, none⟩ = some (.int .i64 3) := (blk_cell BK_q.out 0).trans rfl; have lf4_0 := blk_frozen BK_q.out 0; have lc4_1 : w3.cell? ⟨q, 1, none⟩ = some (.int .i64 (a : Int)) := (blk_cell BK_q.out 1).trans rfl; have lf4_1 := blk_frozen BK_q.out 1; have lc4_2 : w3.cell? ⟨q, 2, none⟩ = some (.int .i64 (c : Int)) := (blk_cell BK_q.out 2).trans rfl; have lf4_2 := blk_frozen BK_q.out 2; have lc4_3 : w3.cell? ⟨q, 3, none⟩ = some (.slice A 0 cc) := (blk_cell BK_q.out 3).trans rfl; have lf4_3 := blk_frozen BK_q.out 3; have lc4_4 : w3.cell? ⟨q, 4, none⟩ = some (.int .i64 t) := (blk_cell BK_q.out 4).trans rfl; have lf4_4 := blk_frozen BK_q.out 4; have lc4_5 : w3.cell? ⟨q, 5, none⟩ = some (.int .i64 n) := (blk_cell BK_q.out 5).trans rfl; have lf4_5 := blk_frozen BK_q.out 5; have lc4_6 : w3.cell? ⟨q, 6, none⟩ = some (.int .i64 o) := (blk_cell BK_q.out 6).trans rfl; have lf4_6 := blk_frozen BK_q.out 6; have lc5_0 : w3.cell? ⟨z, 0, none⟩ = some (.slice none 0 0) := (blk_cell BK_z.out 0).trans rfl; have lf5_0 := blk_frozen BK_z.out 0; have lc5_1 : w3.cell? ⟨z, 1, none⟩ = some (.int .i64 0) := (blk_cell BK_z.out 1).trans rfl; have lf5_1 := blk_frozen BK_z.out 1) | (go_at_call 41; refine (part_neg SL.out (K := 2) (by omega) HB.out HLT.out rfl).mono ?_; rintro e w' ⟨rfl, rfl⟩) | ((with_reducible refine gate_store (p := 4) rfl ?_); refine store_event (w1 := ?_) rfl (p := 4) rfl rfl ?hr ?_; rotate_left; (case hr => go_simp; rfl); intro w4 hw_; obtain ⟨hput, HEc⟩ := put2 hw_ BK_z.out; clear hw_; have BK_qn : Aside0 (w4.heap[q]? = some (.cells #[.int .i64 3, .int .i64 (a : Int), .int .i64 (c : Int), .slice A 0 cc, .int .i64 t, .int .i64 n, .int .i64 o] 24 (0, 0))) := ⟨Ext.blk HEc BK_q.out NE_q_z.out⟩; have SLn : Aside0 (IsSlv 77 w4 g R (X)) := ⟨SL.out.ext HEc (fun k hk e => NS_z.out k hk e)⟩; have XTn : Aside0 (Ext (Fp g R) w w4) := ⟨XT.out.step HEc (fun k e => .inr (by rw [show k = z from e]; exact RG_z.out))⟩; clear BK_q SL XT; have BK_q := BK_qn; have SL := SLn; have XT := XTn; clear BK_qn SLn XTn; clear BK_z HV; have BK_z : Aside0 (w4.heap[z]? = some (.cells #[.slice none 0 0, .int .i64 2] 30 (0, 0))) := ⟨hput⟩; have HST := Aside0.mk HEc; clear hput HEc))
  refine bodyPost_ret (results_ct rfl _ _ z 30 #[.slice none 0 0, .int .i64 2] (0, 0) _ rfl BK_z.out Try.underlying30 rfl (by kernel_rfl)) rfl ?_
  exact ⟨none, 0, rfl, Nat.le_refl _, SL.out, XT.out, fun M hM => Ever.nil _⟩
set_option maxHeartbeats 4000000 in
set_option maxRecDepth 100000 in
theorem do_r2_yes {w : World} {g : Nat} {R : Nat → Nat} {X : Nat → List Int} (h : IsSlv 77 w g R X) {A : Option Addr} {cc : Nat} {v : List Int} (hn : v.length = 0) (hV : Ever (Fp g R) w (fun W => Kd.C (Kd.int .i64) W A v.length v)) {a c : Nat} {t n o : Int} (hck : Chk.chkB 3 (a : Int) (c : Int) v t n o = true) (hb : a ≤ 1000000 ∧ c ≤ 1000000) (hpos : 0 < c) (hfit : a + c ≤ (X 2).length) : Calls Try.prog 15 #[.pointer (some ⟨g, 0, none⟩), .agg #[.int .i64 3, .int .i64 (a : Int), .int .i64 (c : Int), .slice A 0 cc, .int .i64 t, .int .i64 n, .int .i64 o]] w fun e w' => ∃ AA cA, e = .returned (.tuple #[.agg #[.slice AA (rdAt (X 2) a c).length cA, .int .i64 0], .int .i64 0]) ∧ (rdAt (X 2) a c).length ≤ cA ∧ IsSlv 77 w' g R (X) ∧ Ext (Fp g R) w w' ∧ IsAns w w' AA (rdAt (X 2) a c) := by
  have SL : Aside0 (IsSlv 77 w g R (X)) := ⟨h⟩; have XT : Aside0 (Ext (Fp g R) w w) := ⟨Ext.refl _ _⟩; have HV := Aside0.mk hV; have HN := Aside0.mk hn
  have HCK := Aside0.mk hck
  obtain ⟨xs, hxs⟩ : ∃ xs, X 2 = xs := ⟨_, rfl⟩; obtain ⟨r, hr⟩ : ∃ r, R 2 = r := ⟨_, rfl⟩; have HXS := Aside0.mk hxs; have HR := Aside0.mk hr
  obtain ⟨L, hL⟩ : ∃ L, (X 2).length = L := ⟨_, rfl⟩; have HL := Aside0.mk hL
  obtain ⟨qq, hqq⟩ : ∃ q, L - a = q := ⟨_, rfl⟩; have HQQ := Aside0.mk hqq
  have HB := Aside0.mk hb; have HFIT := Aside0.mk hfit; have HPOS := Aside0.mk hpos
  rw [hxs]
  clear h hV hn hck hb hfit hpos hxs hr hL hqq
  go_enter Try.func15, Try.ntmps15
  go_wp2_with (first | ((with_reducible refine gate_dst (N := 3) rfl ?_); refine box_event ?hg (N := 3) ?hd (cs := #[.int .i64 3, .int .i64 (a : Int), .int .i64 (c : Int), .slice A 0 cc, .int .i64 t, .int .i64 n, .int .i64 o]) (t := 24) ?hr ?_; (case hd => rfl); (case hg => rfl); (case hr => first | (go_simp; done) | (go_simp; rfl)); intro q hg w1 hbox HBc; have NS_q : Aside0 (∀ k, Fp g R k → k ≠ q) := ⟨fun k hk e => by have := SL.out.lt k hk; omega⟩; have RG_q : Aside0 (w.heap.size ≤ q) := ⟨Nat.le_trans XT.out.size (Nat.le_of_eq hg.symm)⟩; clear hg; have SLn : Aside0 (IsSlv 77 w1 g R (X)) := ⟨SL.out.below HBc⟩; have XTn : Aside0 (Ext (Fp g R) w w1) := ⟨XT.out.stepB HBc⟩; have HVn : Aside0 (Ever (Fp g R) w1 (fun W => Kd.C (Kd.int .i64) W A v.length v)) := ⟨HV.out.step (.of_below HBc)⟩; clear SL XT HV; have SL := SLn; have XT := XTn; have HV := HVn; clear SLn XTn HVn; have BK_q : Aside0 (w1.heap[q]? = some (.cells #[.int .i64 3, .int .i64 (a : Int), .int .i64 (c : Int), .slice A 0 cc, .int .i64 t, .int .i64 n, .int .i64 o] 24 (0, 0))) := ⟨hbox⟩; clear hbox HBc; have lc1_0 : w1.cell? ⟨q, 0, none⟩ = some (.int .i64 3) := (blk_cell BK_q.out 0).trans rfl; have lf1_0 := blk_frozen BK_q.out 0; have lc1_1 : w1.cell? ⟨q, 1, none⟩ = some (.int .i64 (a : Int)) := (blk_cell BK_q.out 1).trans rfl; have lf1_1 := blk_frozen BK_q.out 1; have lc1_2 : w1.cell? ⟨q, 2, none⟩ = some (.int .i64 (c : Int)) := (blk_cell BK_q.out 2).trans rfl; have lf1_2 := blk_frozen BK_q.out 2; have lc1_3 : w1.cell? ⟨q, 3, none⟩ = some (.slice A 0 cc) := (blk_cell BK_q.out 3).trans rfl; have lf1_3 := blk_frozen BK_q.out 3; have lc1_4 : w1.cell? ⟨q, 4, none⟩ = some (.int .i64 t) := (blk_cell BK_q.out 4).trans rfl; have lf1_4 := blk_frozen BK_q.out 4; have lc1_5 : w1.cell? ⟨q, 5, none⟩ = some (.int .i64 n) := (blk_cell BK_q.out 5).trans rfl; have lf1_5 := blk_frozen BK_q.out 5; have lc1_6 : w1.cell? ⟨q, 6, none⟩ = some (.int .i64 o) := (blk_cell BK_q.out 6).trans rfl; have lf1_6 := blk_frozen BK_q.out 6) | ((with_reducible refine gate_dst (N := 4) rfl ?_); refine box_event ?hg (N := 4) ?hd (cs := #[.slice none 0 0, .int .i64 0]) (t := 30) ?hr ?_; (case hd => rfl); (case hg => rfl); (case hr => first | (go_simp; done) | (go_simp; rfl)); intro z hg w2 hbox HBc; have NS_z : Aside0 (∀ k, Fp g R k → k ≠ z) := ⟨fun k hk e => by have := SL.out.lt k hk; omega⟩; have RG_z : Aside0 (w.heap.size ≤ z) := ⟨Nat.le_trans XT.out.size (Nat.le_of_eq hg.symm)⟩; have NE_q_z : Aside0 (q ≠ z) := ⟨ne_born (blk_lt BK_q.out) hg⟩; clear hg; have BK_qn : Aside0 (w2.heap[q]? = some (.cells #[.int .i64 3, .int .i64 (a : Int), .int .i64 (c : Int), .slice A 0 cc, .int .i64 t, .int .i64 n, .int .i64 o] 24 (0, 0))) := ⟨blk_below BK_q.out HBc⟩; have SLn : Aside0 (IsSlv 77 w2 g R (X)) := ⟨SL.out.below HBc⟩; have XTn : Aside0 (Ext (Fp g R) w w2) := ⟨XT.out.stepB HBc⟩; have HVn : Aside0 (Ever (Fp g R) w2 (fun W => Kd.C (Kd.int .i64) W A v.length v)) := ⟨HV.out.step (.of_below HBc)⟩; clear BK_q SL XT HV; have BK_q := BK_qn; have SL := SLn; have XT := XTn; have HV := HVn; clear BK_qn SLn XTn HVn; have BK_z : Aside0 (w2.heap[z]? = some (.cells #[.slice none 0 0, .int .i64 0] 30 (0, 0))) := ⟨hbox⟩; clear hbox HBc; have lc2_0 : w2.cell? ⟨z, 0, none⟩ = some (.slice none 0 0) := (blk_cell BK_z.out 0).trans rfl; have lf2_0 := blk_frozen BK_z.out 0; have lc2_1 : w2.cell? ⟨z, 1, none⟩ = some (.int .i64 0) := (blk_cell BK_z.out 1).trans rfl; have lf2_1 := blk_frozen BK_z.out 1; have lc3_0 : w2.cell? ⟨q, 0, none⟩ = some (.int .i64 3) := (blk_cell BK_q.out 0).trans rfl; have lf3_0 := blk_frozen BK_q.out 0; have lc3_1 : w2.cell? ⟨q, 1, none⟩ = some (.int .i64 (a : Int)) := (blk_cell BK_q.out 1).trans rfl; have lf3_1 := blk_frozen BK_q.out 1; have lc3_2 : w2.cell? ⟨q, 2, none⟩ = some (.int .i64 (c : Int)) := (blk_cell BK_q.out 2).trans rfl; have lf3_2 := blk_frozen BK_q.out 2; have lc3_3 : w2.cell? ⟨q, 3, none⟩ = some (.slice A 0 cc) := (blk_cell BK_q.out 3).trans rfl; have lf3_3 := blk_frozen BK_q.out 3; have lc3_4 : w2.cell? ⟨q, 4, none⟩ = some (.int .i64 t) := (blk_cell BK_q.out 4).trans rfl; have lf3_4 := blk_frozen BK_q.out 4; have lc3_5 : w2.cell? ⟨q, 5, none⟩ = some (.int .i64 n) := (blk_cell BK_q.out 5).trans rfl; have lf3_5 := blk_frozen BK_q.out 5; have lc3_6 : w2.cell? ⟨q, 6, none⟩ = some (.int .i64 o) := (blk_cell BK_q.out 6).trans rfl; have lf3_6 := blk_frozen BK_q.out 6) | (go_at_call 29; refine (chk_n HN.out HV.out.now HCK.out rfl).mono ?_; rintro e w3 ⟨rfl, HBc⟩; have BK_qn : Aside0 (w3.heap[q]? = some (.cells #[.int .i64 3, .int .i64 (a : Int), .int .i64 (c : Int), .slice A 0 cc, .int .i64 t, .int .i64 n, .int .i64 o] 24 (0, 0))) := ⟨blk_below BK_q.out HBc⟩; have BK_zn : Aside0 (w3.heap[z]? = some (.cells #[.slice none 0 0, .int .i64 0] 30 (0, 0))) := ⟨blk_below BK_z.out HBc⟩; have SLn : Aside0 (IsSlv 77 w3 g R (X)) := ⟨SL.out.below HBc⟩; have XTn : Aside0 (Ext (Fp g R) w w3) := ⟨XT.out.stepB HBc⟩; have HVn : Aside0 (Ever (Fp g R) w3 (fun W => Kd.C (Kd.int .i64) W A v.length v)) := ⟨HV.out.step (.of_below HBc)⟩; clear BK_q BK_z SL XT HV; have BK_q := BK_qn; have BK_z := BK_zn; have SL := SLn; have XT := XTn; have HV := HVn; clear BK_qn BK_zn SLn XTn HVn; clear HBc; have lc4_0 : w3.cell? ⟨q, 0, none⟩ = some (.int .i64 3) := (blk_cell BK_q.out 0).trans rfl; have lf4_0 := blk_frozen BK_q.out 0; have lc4_1 : w3.cell? ⟨q, 1, none⟩ = some (.int .i64 (a : Int)) := (blk_cell BK_q.out 1).trans rfl; have lf4_1 := blk_frozen BK_q.out 1; have lc4_2 : w3.cell? ⟨q, 2, none⟩ = some (.int .i64 (c : Int)) := (blk_cell BK_q.out 2).trans rfl; have lf4_2 := blk_frozen BK_q.out 2; have lc4_3 : w3.cell? ⟨q, 3, none⟩ = some (.slice A 0 cc) := (blk_cell BK_q.out 3).trans rfl; have lf4_3 := blk_frozen BK_q.out 3; have lc4_4 : w3.cell? ⟨q, 4, none⟩ = some (.int .i64 t) := (blk_cell BK_q.out 4).trans rfl; have lf4_4 := blk_frozen BK_q.out 4; have lc4_5 : w3.cell? ⟨q, 5, none⟩ = some (.int .i64 n) := (blk_cell BK_q.out 5).trans rfl; have lf4_5 := blk_frozen BK_q.out 5; have lc4_6 : w3.cell? ⟨q, 6, none⟩ = some (.int .i64 o) := (blk_cell BK_q.out 6).trans rfl; have lf4_6 := blk_frozen BK_q.out 6; have lc5_0 : w3.cell? ⟨z, 0, none⟩ = some (.slice none 0 0) := (blk_cell BK_z.out 0).trans rfl; have lf5_0 := blk_frozen BK_z.out 0; have lc5_1 : w3.cell? ⟨z, 1, none⟩ = some (.int .i64 0) := (blk_cell BK_z.out 1).trans rfl; have lf5_1 := blk_frozen BK_z.out 1) | (go_at_call 41; refine (part_pos SL.out (K := 2) (by omega) HB.out HFIT.out HPOS.out HR.out HL.out HQQ.out rfl).mono ?_; rintro e w' ⟨rfl, rfl⟩) | ((with_reducible refine gate_builtin (b := .copy) (xs := #[.tmp 97, .tmp 99]) rfl ?_); refine copy_none_ev (D := none) (n := 0) (c := 0) (A := A) (m := 0) (c2 := cc) rfl (.tmp 97) (.tmp 99) rfl Try.underlying22 one3 rfl rfl (by decide) ?_) | ((with_reducible refine gate_builtin (b := .append) (xs := #[.const (.slice none 0 0), .tmp 118]) rfl ?_); refine ev_append_rows (M := Mv (fun _ => False) (.slice none 0 0)) (Kd.int .i64) (w0 := w3) (w3.heap.size) rfl (.const (.slice none 0 0)) (.tmp 118) 22 3 (.int .i64 0) 8 rfl Try.underlying22 info3 rfl (by decide) (by decide) (.slice none 0 0) [] (rdAt xs a c) (some ⟨r, a, none⟩) (c) (qq) rfl rfl (OwnE.nil _ _ _ _ _) (RowE.elems (RowE.old (by have hrow := SL.out.row 2 (by omega); rw [HR.out, HXS.out] at hrow; have := C_sub hrow (a := a) (c := c) (by rw [← HXS.out]; exact HFIT.out) (by have := HB.out; omega); rw [rdAt_len (by rw [← HXS.out]; exact HFIT.out)] at this; exact this) (fun k hk => by rcases hk with (hk | hk) | hk; exact hk.elim; cases hk; cases hk))) (Below.refl _ _) (Nat.le_refl _) (by have := HB.out; simp only [List.length_nil]; omega) ?_; intro vv w4 HO_ HBc hgr_ _; obtain ⟨AA, cA, rfl, hcA, hAns⟩ := own_ints HO_; clear HO_ hgr_; rw [List.nil_append] at hcA hAns ⊢; have HCA := Aside0.mk hcA; have HANS : Aside0 (∀ M : Nat → Prop, (∀ k, M k → k < w3.heap.size) → Ever M w4 (fun W => Kd.C (Kd.int .i64) W AA (rdAt xs a c).length (rdAt xs a c))) := ⟨hAns⟩; have HZL : Aside0 (z < w3.heap.size ∧ w.heap.size ≤ w3.heap.size) := ⟨blk_lt BK_z.out, XT.out.size⟩; clear hAns hcA; have BK_qn : Aside0 (w4.heap[q]? = some (.cells #[.int .i64 3, .int .i64 (a : Int), .int .i64 (c : Int), .slice A 0 cc, .int .i64 t, .int .i64 n, .int .i64 o] 24 (0, 0))) := ⟨blk_below BK_q.out HBc⟩; have BK_zn : Aside0 (w4.heap[z]? = some (.cells #[.slice none 0 0, .int .i64 0] 30 (0, 0))) := ⟨blk_below BK_z.out HBc⟩; have SLn : Aside0 (IsSlv 77 w4 g R (X)) := ⟨SL.out.below HBc⟩; have XTn : Aside0 (Ext (Fp g R) w w4) := ⟨XT.out.stepB HBc⟩; have HVn : Aside0 (Ever (Fp g R) w4 (fun W => Kd.C (Kd.int .i64) W A v.length v)) := ⟨HV.out.step (.of_below HBc)⟩; clear BK_q BK_z SL XT HV; have BK_q := BK_qn; have BK_z := BK_zn; have SL := SLn; have XT := XTn; have HV := HVn; clear BK_qn BK_zn SLn XTn HVn; clear HBc; have lc6_0 : w4.cell? ⟨z, 0, none⟩ = some (.slice none 0 0) := (blk_cell BK_z.out 0).trans rfl; have lf6_0 := blk_frozen BK_z.out 0; have lc6_1 : w4.cell? ⟨z, 1, none⟩ = some (.int .i64 0) := (blk_cell BK_z.out 1).trans rfl; have lf6_1 := blk_frozen BK_z.out 1) | ((with_reducible refine gate_store (p := 4) rfl ?_); refine store_event (w1 := ?_) rfl (p := 4) rfl rfl ?hr ?_; rotate_left; (case hr => go_simp; rfl); intro w5 hw_; obtain ⟨hput, HEc⟩ := put2 hw_ BK_z.out; clear hw_; have BK_qn : Aside0 (w5.heap[q]? = some (.cells #[.int .i64 3, .int .i64 (a : Int), .int .i64 (c : Int), .slice A 0 cc, .int .i64 t, .int .i64 n, .int .i64 o] 24 (0, 0))) := ⟨Ext.blk HEc BK_q.out NE_q_z.out⟩; have SLn : Aside0 (IsSlv 77 w5 g R (X)) := ⟨SL.out.ext HEc (fun k hk e => NS_z.out k hk e)⟩; have XTn : Aside0 (Ext (Fp g R) w w5) := ⟨XT.out.step HEc (fun k e => .inr (by rw [show k = z from e]; exact RG_z.out))⟩; clear BK_q SL XT; have BK_q := BK_qn; have SL := SLn; have XT := XTn; clear BK_qn SLn XTn; clear BK_z HV; have BK_z : Aside0 (w5.heap[z]? = some (.cells #[.slice AA (rdAt xs a c).length cA, .int .i64 0] 30 (0, 0))) := ⟨hput⟩; have HST := Aside0.mk HEc; clear hput HEc))
  refine bodyPost_ret (results_ct rfl _ _ z 30 #[.slice AA (rdAt xs a c).length cA, .int .i64 0] (0, 0) _ rfl BK_z.out Try.underlying30 rfl (by kernel_rfl)) rfl ?_
  exact ⟨AA, cA, rfl, HCA.out, SL.out, XT.out, fun M hM => (HANS.out (fun k => M k ∨ k = z) (fun k hk => by rcases hk with hk | hk; exact Nat.lt_of_lt_of_le (hM k hk) HZL.out.2; rw [hk]; exact HZL.out.1)).grow (HST.out.sub (fun k e => .inr e)) (fun k hk => .inl (.inl hk))⟩
set_option maxHeartbeats 4000000 in
set_option maxRecDepth 100000 in
theorem do_r3_no {w : World} {g : Nat} {R : Nat → Nat} {X : Nat → List Int} (h : IsSlv 77 w g R X) {A : Option Addr} {cc : Nat} {v : List Int} (hn : v.length = 0) (hV : Ever (Fp g R) w (fun W => Kd.C (Kd.int .i64) W A v.length v)) {a c : Nat} {t n o : Int} (hck : Chk.chkB 4 (a : Int) (c : Int) v t n o = true) (hb : a ≤ 1000000 ∧ c ≤ 1000000) (hlt : (X 3).length < a + c) : Calls Try.prog 15 #[.pointer (some ⟨g, 0, none⟩), .agg #[.int .i64 4, .int .i64 (a : Int), .int .i64 (c : Int), .slice A 0 cc, .int .i64 t, .int .i64 n, .int .i64 o]] w fun e w' => ∃ AA cA, e = .returned (.tuple #[.agg #[.slice AA (([] : List Int)).length cA, .int .i64 2], .int .i64 0]) ∧ (([] : List Int)).length ≤ cA ∧ IsSlv 77 w' g R (X) ∧ Ext (Fp g R) w w' ∧ IsAns w w' AA (([] : List Int)) := by
  have SL : Aside0 (IsSlv 77 w g R (X)) := ⟨h⟩; have XT : Aside0 (Ext (Fp g R) w w) := ⟨Ext.refl _ _⟩; have HV := Aside0.mk hV; have HN := Aside0.mk hn
  have HCK := Aside0.mk hck
  obtain ⟨xs, hxs⟩ : ∃ xs, X 3 = xs := ⟨_, rfl⟩; obtain ⟨r, hr⟩ : ∃ r, R 3 = r := ⟨_, rfl⟩; have HXS := Aside0.mk hxs; have HR := Aside0.mk hr
  obtain ⟨L, hL⟩ : ∃ L, (X 3).length = L := ⟨_, rfl⟩; have HL := Aside0.mk hL
  obtain ⟨qq, hqq⟩ : ∃ q, L - a = q := ⟨_, rfl⟩; have HQQ := Aside0.mk hqq
  have HB := Aside0.mk hb; have HLT := Aside0.mk hlt
  clear h hV hn hck hb hlt hxs hr hL hqq
  go_enter Try.func15, Try.ntmps15
  go_wp2_with (first | ((with_reducible refine gate_dst (N := 3) rfl ?_); refine box_event ?hg (N := 3) ?hd (cs := #[.int .i64 4, .int .i64 (a : Int), .int .i64 (c : Int), .slice A 0 cc, .int .i64 t, .int .i64 n, .int .i64 o]) (t := 24) ?hr ?_; (case hd => rfl); (case hg => rfl); (case hr => first | (go_simp; done) | (go_simp; rfl)); intro q hg w1 hbox HBc; have NS_q : Aside0 (∀ k, Fp g R k → k ≠ q) := ⟨fun k hk e => by have := SL.out.lt k hk; omega⟩; have RG_q : Aside0 (w.heap.size ≤ q) := ⟨Nat.le_trans XT.out.size (Nat.le_of_eq hg.symm)⟩; clear hg; have SLn : Aside0 (IsSlv 77 w1 g R (X)) := ⟨SL.out.below HBc⟩; have XTn : Aside0 (Ext (Fp g R) w w1) := ⟨XT.out.stepB HBc⟩; have HVn : Aside0 (Ever (Fp g R) w1 (fun W => Kd.C (Kd.int .i64) W A v.length v)) := ⟨HV.out.step (.of_below HBc)⟩; clear SL XT HV; have SL := SLn; have XT := XTn; have HV := HVn; clear SLn XTn HVn; have BK_q : Aside0 (w1.heap[q]? = some (.cells #[.int .i64 4, .int .i64 (a : Int), .int .i64 (c : Int), .slice A 0 cc, .int .i64 t, .int .i64 n, .int .i64 o] 24 (0, 0))) := ⟨hbox⟩; clear hbox HBc; have lc1_0 : w1.cell? ⟨q, 0, none⟩ = some (.int .i64 4) := (blk_cell BK_q.out 0).trans rfl; have lf1_0 := blk_frozen BK_q.out 0; have lc1_1 : w1.cell? ⟨q, 1, none⟩ = some (.int .i64 (a : Int)) := (blk_cell BK_q.out 1).trans rfl; have lf1_1 := blk_frozen BK_q.out 1; have lc1_2 : w1.cell? ⟨q, 2, none⟩ = some (.int .i64 (c : Int)) := (blk_cell BK_q.out 2).trans rfl; have lf1_2 := blk_frozen BK_q.out 2; have lc1_3 : w1.cell? ⟨q, 3, none⟩ = some (.slice A 0 cc) := (blk_cell BK_q.out 3).trans rfl; have lf1_3 := blk_frozen BK_q.out 3; have lc1_4 : w1.cell? ⟨q, 4, none⟩ = some (.int .i64 t) := (blk_cell BK_q.out 4).trans rfl; have lf1_4 := blk_frozen BK_q.out 4; have lc1_5 : w1.cell? ⟨q, 5, none⟩ = some (.int .i64 n) := (blk_cell BK_q.out 5).trans rfl; have lf1_5 := blk_frozen BK_q.out 5; have lc1_6 : w1.cell? ⟨q, 6, none⟩ = some (.int .i64 o) := (blk_cell BK_q.out 6).trans rfl; have lf1_6 := blk_frozen BK_q.out 6) | ((with_reducible refine gate_dst (N := 4) rfl ?_); refine box_event ?hg (N := 4) ?hd (cs := #[.slice none 0 0, .int .i64 0]) (t := 30) ?hr ?_; (case hd => rfl); (case hg => rfl); (case hr => first | (go_simp; done) | (go_simp; rfl)); intro z hg w2 hbox HBc; have NS_z : Aside0 (∀ k, Fp g R k → k ≠ z) := ⟨fun k hk e => by have := SL.out.lt k hk; omega⟩; have RG_z : Aside0 (w.heap.size ≤ z) := ⟨Nat.le_trans XT.out.size (Nat.le_of_eq hg.symm)⟩; have NE_q_z : Aside0 (q ≠ z) := ⟨ne_born (blk_lt BK_q.out) hg⟩; clear hg; have BK_qn : Aside0 (w2.heap[q]? = some (.cells #[.int .i64 4, .int .i64 (a : Int), .int .i64 (c : Int), .slice A 0 cc, .int .i64 t, .int .i64 n, .int .i64 o] 24 (0, 0))) := ⟨blk_below BK_q.out HBc⟩; have SLn : Aside0 (IsSlv 77 w2 g R (X)) := ⟨SL.out.below HBc⟩; have XTn : Aside0 (Ext (Fp g R) w w2) := ⟨XT.out.stepB HBc⟩; have HVn : Aside0 (Ever (Fp g R) w2 (fun W => Kd.C (Kd.int .i64) W A v.length v)) := ⟨HV.out.step (.of_below HBc)⟩; clear BK_q SL XT HV; have BK_q := BK_qn; have SL := SLn; have XT := XTn; have HV := HVn; clear BK_qn SLn XTn HVn; have BK_z : Aside0 (w2.heap[z]? = some (.cells #[.slice none 0 0, .int .i64 0] 30 (0, 0))) := ⟨hbox⟩; clear hbox HBc; have lc2_0 : w2.cell? ⟨z, 0, none⟩ = some (.slice none 0 0) := (blk_cell BK_z.out 0).trans rfl; have lf2_0 := blk_frozen BK_z.out 0; have lc2_1 : w2.cell? ⟨z, 1, none⟩ = some (.int .i64 0) := (blk_cell BK_z.out 1).trans rfl; have lf2_1 := blk_frozen BK_z.out 1; have lc3_0 : w2.cell? ⟨q, 0, none⟩ = some (.int .i64 4) := (blk_cell BK_q.out 0).trans rfl; have lf3_0 := blk_frozen BK_q.out 0; have lc3_1 : w2.cell? ⟨q, 1, none⟩ = some (.int .i64 (a : Int)) := (blk_cell BK_q.out 1).trans rfl; have lf3_1 := blk_frozen BK_q.out 1; have lc3_2 : w2.cell? ⟨q, 2, none⟩ = some (.int .i64 (c : Int)) := (blk_cell BK_q.out 2).trans rfl; have lf3_2 := blk_frozen BK_q.out 2; have lc3_3 : w2.cell? ⟨q, 3, none⟩ = some (.slice A 0 cc) := (blk_cell BK_q.out 3).trans rfl; have lf3_3 := blk_frozen BK_q.out 3; have lc3_4 : w2.cell? ⟨q, 4, none⟩ = some (.int .i64 t) := (blk_cell BK_q.out 4).trans rfl; have lf3_4 := blk_frozen BK_q.out 4; have lc3_5 : w2.cell? ⟨q, 5, none⟩ = some (.int .i64 n) := (blk_cell BK_q.out 5).trans rfl; have lf3_5 := blk_frozen BK_q.out 5; have lc3_6 : w2.cell? ⟨q, 6, none⟩ = some (.int .i64 o) := (blk_cell BK_q.out 6).trans rfl; have lf3_6 := blk_frozen BK_q.out 6) | (go_at_call 29; refine (chk_n HN.out HV.out.now HCK.out rfl).mono ?_; rintro e w3 ⟨rfl, HBc⟩; have BK_qn : Aside0 (w3.heap[q]? = some (.cells #[.int .i64 4, .int .i64 (a : Int), .int .i64 (c : Int), .slice A 0 cc, .int .i64 t, .int .i64 n, .int .i64 o] 24 (0, 0))) := ⟨blk_below BK_q.out HBc⟩; have BK_zn : Aside0 (w3.heap[z]? = some (.cells #[.slice none 0 0, .int .i64 0] 30 (0, 0))) := ⟨blk_below BK_z.out HBc⟩; have SLn : Aside0 (IsSlv 77 w3 g R (X)) := ⟨SL.out.below HBc⟩; have XTn : Aside0 (Ext (Fp g R) w w3) := ⟨XT.out.stepB HBc⟩; have HVn : Aside0 (Ever (Fp g R) w3 (fun W => Kd.C (Kd.int .i64) W A v.length v)) := ⟨HV.out.step (.of_below HBc)⟩; clear BK_q BK_z SL XT HV; have BK_q := BK_qn; have BK_z := BK_zn; have SL := SLn; have XT := XTn; have HV := HVn; clear BK_qn BK_zn SLn XTn HVn; clear HBc; have lc4_0 : w3.cell? ⟨q, 0, none⟩ = some (.int .i64 4) := (blk_cell BK_q.out 0).trans rfl; have lf4_0 := blk_frozen BK_q.out 0; have lc4_1 : w3.cell? ⟨q, 1, none⟩ = some (.int .i64 (a : Int)) := (blk_cell BK_q.out 1).trans rfl; have lf4_1 := blk_frozen BK_q.out 1; have lc4_2 : w3.cell? ⟨q, 2, none⟩ = some (.int .i64 (c : Int)) := (blk_cell BK_q.out 2).trans rfl; have lf4_2 := blk_frozen BK_q.out 2; have lc4_3 : w3.cell? ⟨q, 3, none⟩ = some (.slice A 0 cc) := (blk_cell BK_q.out 3).trans rfl; have lf4_3 := blk_frozen BK_q.out 3; have lc4_4 : w3.cell? ⟨q, 4, none⟩ = some (.int .i64 t) := (blk_cell BK_q.out 4).trans rfl; have lf4_4 := blk_frozen BK_q.out 4; have lc4_5 : w3.cell? ⟨q, 5, none⟩ = some (.int .i64 n) := (blk_cell BK_q.out 5).trans rfl; have lf4_5 := blk_frozen BK_q.out 5; have lc4_6 : w3.cell? ⟨q, 6, none⟩ = some (.int .i64 o) := (blk_cell BK_q.out 6).trans rfl; have lf4_6 := blk_frozen BK_q.out 6; have lc5_0 : w3.cell? ⟨z, 0, none⟩ = some (.slice none 0 0) := (blk_cell BK_z.out 0).trans rfl; have lf5_0 := blk_frozen BK_z.out 0; have lc5_1 : w3.cell? ⟨z, 1, none⟩ = some (.int .i64 0) := (blk_cell BK_z.out 1).trans rfl; have lf5_1 := blk_frozen BK_z.out 1) | (go_at_call 41; refine (part_neg SL.out (K := 3) (by omega) HB.out HLT.out rfl).mono ?_; rintro e w' ⟨rfl, rfl⟩) | ((with_reducible refine gate_store (p := 4) rfl ?_); refine store_event (w1 := ?_) rfl (p := 4) rfl rfl ?hr ?_; rotate_left; (case hr => go_simp; rfl); intro w4 hw_; obtain ⟨hput, HEc⟩ := put2 hw_ BK_z.out; clear hw_; have BK_qn : Aside0 (w4.heap[q]? = some (.cells #[.int .i64 4, .int .i64 (a : Int), .int .i64 (c : Int), .slice A 0 cc, .int .i64 t, .int .i64 n, .int .i64 o] 24 (0, 0))) := ⟨Ext.blk HEc BK_q.out NE_q_z.out⟩; have SLn : Aside0 (IsSlv 77 w4 g R (X)) := ⟨SL.out.ext HEc (fun k hk e => NS_z.out k hk e)⟩; have XTn : Aside0 (Ext (Fp g R) w w4) := ⟨XT.out.step HEc (fun k e => .inr (by rw [show k = z from e]; exact RG_z.out))⟩; clear BK_q SL XT; have BK_q := BK_qn; have SL := SLn; have XT := XTn; clear BK_qn SLn XTn; clear BK_z HV; have BK_z : Aside0 (w4.heap[z]? = some (.cells #[.slice none 0 0, .int .i64 2] 30 (0, 0))) := ⟨hput⟩; have HST := Aside0.mk HEc; clear hput HEc))
  refine bodyPost_ret (results_ct rfl _ _ z 30 #[.slice none 0 0, .int .i64 2] (0, 0) _ rfl BK_z.out Try.underlying30 rfl (by kernel_rfl)) rfl ?_
  exact ⟨none, 0, rfl, Nat.le_refl _, SL.out, XT.out, fun M hM => Ever.nil _⟩
set_option maxHeartbeats 4000000 in
set_option maxRecDepth 100000 in
theorem do_r3_yes {w : World} {g : Nat} {R : Nat → Nat} {X : Nat → List Int} (h : IsSlv 77 w g R X) {A : Option Addr} {cc : Nat} {v : List Int} (hn : v.length = 0) (hV : Ever (Fp g R) w (fun W => Kd.C (Kd.int .i64) W A v.length v)) {a c : Nat} {t n o : Int} (hck : Chk.chkB 4 (a : Int) (c : Int) v t n o = true) (hb : a ≤ 1000000 ∧ c ≤ 1000000) (hpos : 0 < c) (hfit : a + c ≤ (X 3).length) : Calls Try.prog 15 #[.pointer (some ⟨g, 0, none⟩), .agg #[.int .i64 4, .int .i64 (a : Int), .int .i64 (c : Int), .slice A 0 cc, .int .i64 t, .int .i64 n, .int .i64 o]] w fun e w' => ∃ AA cA, e = .returned (.tuple #[.agg #[.slice AA (rdAt (X 3) a c).length cA, .int .i64 0], .int .i64 0]) ∧ (rdAt (X 3) a c).length ≤ cA ∧ IsSlv 77 w' g R (X) ∧ Ext (Fp g R) w w' ∧ IsAns w w' AA (rdAt (X 3) a c) := by
  have SL : Aside0 (IsSlv 77 w g R (X)) := ⟨h⟩; have XT : Aside0 (Ext (Fp g R) w w) := ⟨Ext.refl _ _⟩; have HV := Aside0.mk hV; have HN := Aside0.mk hn
  have HCK := Aside0.mk hck
  obtain ⟨xs, hxs⟩ : ∃ xs, X 3 = xs := ⟨_, rfl⟩; obtain ⟨r, hr⟩ : ∃ r, R 3 = r := ⟨_, rfl⟩; have HXS := Aside0.mk hxs; have HR := Aside0.mk hr
  obtain ⟨L, hL⟩ : ∃ L, (X 3).length = L := ⟨_, rfl⟩; have HL := Aside0.mk hL
  obtain ⟨qq, hqq⟩ : ∃ q, L - a = q := ⟨_, rfl⟩; have HQQ := Aside0.mk hqq
  have HB := Aside0.mk hb; have HFIT := Aside0.mk hfit; have HPOS := Aside0.mk hpos
  rw [hxs]
  clear h hV hn hck hb hfit hpos hxs hr hL hqq
  go_enter Try.func15, Try.ntmps15
  go_wp2_with (first | ((with_reducible refine gate_dst (N := 3) rfl ?_); refine box_event ?hg (N := 3) ?hd (cs := #[.int .i64 4, .int .i64 (a : Int), .int .i64 (c : Int), .slice A 0 cc, .int .i64 t, .int .i64 n, .int .i64 o]) (t := 24) ?hr ?_; (case hd => rfl); (case hg => rfl); (case hr => first | (go_simp; done) | (go_simp; rfl)); intro q hg w1 hbox HBc; have NS_q : Aside0 (∀ k, Fp g R k → k ≠ q) := ⟨fun k hk e => by have := SL.out.lt k hk; omega⟩; have RG_q : Aside0 (w.heap.size ≤ q) := ⟨Nat.le_trans XT.out.size (Nat.le_of_eq hg.symm)⟩; clear hg; have SLn : Aside0 (IsSlv 77 w1 g R (X)) := ⟨SL.out.below HBc⟩; have XTn : Aside0 (Ext (Fp g R) w w1) := ⟨XT.out.stepB HBc⟩; have HVn : Aside0 (Ever (Fp g R) w1 (fun W => Kd.C (Kd.int .i64) W A v.length v)) := ⟨HV.out.step (.of_below HBc)⟩; clear SL XT HV; have SL := SLn; have XT := XTn; have HV := HVn; clear SLn XTn HVn; have BK_q : Aside0 (w1.heap[q]? = some (.cells #[.int .i64 4, .int .i64 (a : Int), .int .i64 (c : Int), .slice A 0 cc, .int .i64 t, .int .i64 n, .int .i64 o] 24 (0, 0))) := ⟨hbox⟩; clear hbox HBc; have lc1_0 : w1.cell? ⟨q, 0, none⟩ = some (.int .i64 4) := (blk_cell BK_q.out 0).trans rfl; have lf1_0 := blk_frozen BK_q.out 0; have lc1_1 : w1.cell? ⟨q, 1, none⟩ = some (.int .i64 (a : Int)) := (blk_cell BK_q.out 1).trans rfl; have lf1_1 := blk_frozen BK_q.out 1; have lc1_2 : w1.cell? ⟨q, 2, none⟩ = some (.int .i64 (c : Int)) := (blk_cell BK_q.out 2).trans rfl; have lf1_2 := blk_frozen BK_q.out 2; have lc1_3 : w1.cell? ⟨q, 3, none⟩ = some (.slice A 0 cc) := (blk_cell BK_q.out 3).trans rfl; have lf1_3 := blk_frozen BK_q.out 3; have lc1_4 : w1.cell? ⟨q, 4, none⟩ = some (.int .i64 t) := (blk_cell BK_q.out 4).trans rfl; have lf1_4 := blk_frozen BK_q.out 4; have lc1_5 : w1.cell? ⟨q, 5, none⟩ = some (.int .i64 n) := (blk_cell BK_q.out 5).trans rfl; have lf1_5 := blk_frozen BK_q.out 5; have lc1_6 : w1.cell? ⟨q, 6, none⟩ = some (.int .i64 o) := (blk_cell BK_q.out 6).trans rfl; have lf1_6 := blk_frozen BK_q.out 6) | ((with_reducible refine gate_dst (N := 4) rfl ?_); refine box_event ?hg (N := 4) ?hd (cs := #[.slice none 0 0, .int .i64 0]) (t := 30) ?hr ?_; (case hd => rfl); (case hg => rfl); (case hr => first | (go_simp; done) | (go_simp; rfl)); intro z hg w2 hbox HBc; have NS_z : Aside0 (∀ k, Fp g R k → k ≠ z) := ⟨fun k hk e => by have := SL.out.lt k hk; omega⟩; have RG_z : Aside0 (w.heap.size ≤ z) := ⟨Nat.le_trans XT.out.size (Nat.le_of_eq hg.symm)⟩; have NE_q_z : Aside0 (q ≠ z) := ⟨ne_born (blk_lt BK_q.out) hg⟩; clear hg; have BK_qn : Aside0 (w2.heap[q]? = some (.cells #[.int .i64 4, .int .i64 (a : Int), .int .i64 (c : Int), .slice A 0 cc, .int .i64 t, .int .i64 n, .int .i64 o] 24 (0, 0))) := ⟨blk_below BK_q.out HBc⟩; have SLn : Aside0 (IsSlv 77 w2 g R (X)) := ⟨SL.out.below HBc⟩; have XTn : Aside0 (Ext (Fp g R) w w2) := ⟨XT.out.stepB HBc⟩; have HVn : Aside0 (Ever (Fp g R) w2 (fun W => Kd.C (Kd.int .i64) W A v.length v)) := ⟨HV.out.step (.of_below HBc)⟩; clear BK_q SL XT HV; have BK_q := BK_qn; have SL := SLn; have XT := XTn; have HV := HVn; clear BK_qn SLn XTn HVn; have BK_z : Aside0 (w2.heap[z]? = some (.cells #[.slice none 0 0, .int .i64 0] 30 (0, 0))) := ⟨hbox⟩; clear hbox HBc; have lc2_0 : w2.cell? ⟨z, 0, none⟩ = some (.slice none 0 0) := (blk_cell BK_z.out 0).trans rfl; have lf2_0 := blk_frozen BK_z.out 0; have lc2_1 : w2.cell? ⟨z, 1, none⟩ = some (.int .i64 0) := (blk_cell BK_z.out 1).trans rfl; have lf2_1 := blk_frozen BK_z.out 1; have lc3_0 : w2.cell? ⟨q, 0, none⟩ = some (.int .i64 4) := (blk_cell BK_q.out 0).trans rfl; have lf3_0 := blk_frozen BK_q.out 0; have lc3_1 : w2.cell? ⟨q, 1, none⟩ = some (.int .i64 (a : Int)) := (blk_cell BK_q.out 1).trans rfl; have lf3_1 := blk_frozen BK_q.out 1; have lc3_2 : w2.cell? ⟨q, 2, none⟩ = some (.int .i64 (c : Int)) := (blk_cell BK_q.out 2).trans rfl; have lf3_2 := blk_frozen BK_q.out 2; have lc3_3 : w2.cell? ⟨q, 3, none⟩ = some (.slice A 0 cc) := (blk_cell BK_q.out 3).trans rfl; have lf3_3 := blk_frozen BK_q.out 3; have lc3_4 : w2.cell? ⟨q, 4, none⟩ = some (.int .i64 t) := (blk_cell BK_q.out 4).trans rfl; have lf3_4 := blk_frozen BK_q.out 4; have lc3_5 : w2.cell? ⟨q, 5, none⟩ = some (.int .i64 n) := (blk_cell BK_q.out 5).trans rfl; have lf3_5 := blk_frozen BK_q.out 5; have lc3_6 : w2.cell? ⟨q, 6, none⟩ = some (.int .i64 o) := (blk_cell BK_q.out 6).trans rfl; have lf3_6 := blk_frozen BK_q.out 6) | (go_at_call 29; refine (chk_n HN.out HV.out.now HCK.out rfl).mono ?_; rintro e w3 ⟨rfl, HBc⟩; have BK_qn : Aside0 (w3.heap[q]? = some (.cells #[.int .i64 4, .int .i64 (a : Int), .int .i64 (c : Int), .slice A 0 cc, .int .i64 t, .int .i64 n, .int .i64 o] 24 (0, 0))) := ⟨blk_below BK_q.out HBc⟩; have BK_zn : Aside0 (w3.heap[z]? = some (.cells #[.slice none 0 0, .int .i64 0] 30 (0, 0))) := ⟨blk_below BK_z.out HBc⟩; have SLn : Aside0 (IsSlv 77 w3 g R (X)) := ⟨SL.out.below HBc⟩; have XTn : Aside0 (Ext (Fp g R) w w3) := ⟨XT.out.stepB HBc⟩; have HVn : Aside0 (Ever (Fp g R) w3 (fun W => Kd.C (Kd.int .i64) W A v.length v)) := ⟨HV.out.step (.of_below HBc)⟩; clear BK_q BK_z SL XT HV; have BK_q := BK_qn; have BK_z := BK_zn; have SL := SLn; have XT := XTn; have HV := HVn; clear BK_qn BK_zn SLn XTn HVn; clear HBc; have lc4_0 : w3.cell? ⟨q, 0, none⟩ = some (.int .i64 4) := (blk_cell BK_q.out 0).trans rfl; have lf4_0 := blk_frozen BK_q.out 0; have lc4_1 : w3.cell? ⟨q, 1, none⟩ = some (.int .i64 (a : Int)) := (blk_cell BK_q.out 1).trans rfl; have lf4_1 := blk_frozen BK_q.out 1; have lc4_2 : w3.cell? ⟨q, 2, none⟩ = some (.int .i64 (c : Int)) := (blk_cell BK_q.out 2).trans rfl; have lf4_2 := blk_frozen BK_q.out 2; have lc4_3 : w3.cell? ⟨q, 3, none⟩ = some (.slice A 0 cc) := (blk_cell BK_q.out 3).trans rfl; have lf4_3 := blk_frozen BK_q.out 3; have lc4_4 : w3.cell? ⟨q, 4, none⟩ = some (.int .i64 t) := (blk_cell BK_q.out 4).trans rfl; have lf4_4 := blk_frozen BK_q.out 4; have lc4_5 : w3.cell? ⟨q, 5, none⟩ = some (.int .i64 n) := (blk_cell BK_q.out 5).trans rfl; have lf4_5 := blk_frozen BK_q.out 5; have lc4_6 : w3.cell? ⟨q, 6, none⟩ = some (.int .i64 o) := (blk_cell BK_q.out 6).trans rfl; have lf4_6 := blk_frozen BK_q.out 6; have lc5_0 : w3.cell? ⟨z, 0, none⟩ = some (.slice none 0 0) := (blk_cell BK_z.out 0).trans rfl; have lf5_0 := blk_frozen BK_z.out 0; have lc5_1 : w3.cell? ⟨z, 1, none⟩ = some (.int .i64 0) := (blk_cell BK_z.out 1).trans rfl; have lf5_1 := blk_frozen BK_z.out 1) | (go_at_call 41; refine (part_pos SL.out (K := 3) (by omega) HB.out HFIT.out HPOS.out HR.out HL.out HQQ.out rfl).mono ?_; rintro e w' ⟨rfl, rfl⟩) | ((with_reducible refine gate_builtin (b := .copy) (xs := #[.tmp 97, .tmp 99]) rfl ?_); refine copy_none_ev (D := none) (n := 0) (c := 0) (A := A) (m := 0) (c2 := cc) rfl (.tmp 97) (.tmp 99) rfl Try.underlying22 one3 rfl rfl (by decide) ?_) | ((with_reducible refine gate_builtin (b := .append) (xs := #[.const (.slice none 0 0), .tmp 118]) rfl ?_); refine ev_append_rows (M := Mv (fun _ => False) (.slice none 0 0)) (Kd.int .i64) (w0 := w3) (w3.heap.size) rfl (.const (.slice none 0 0)) (.tmp 118) 22 3 (.int .i64 0) 8 rfl Try.underlying22 info3 rfl (by decide) (by decide) (.slice none 0 0) [] (rdAt xs a c) (some ⟨r, a, none⟩) (c) (qq) rfl rfl (OwnE.nil _ _ _ _ _) (RowE.elems (RowE.old (by have hrow := SL.out.row 3 (by omega); rw [HR.out, HXS.out] at hrow; have := C_sub hrow (a := a) (c := c) (by rw [← HXS.out]; exact HFIT.out) (by have := HB.out; omega); rw [rdAt_len (by rw [← HXS.out]; exact HFIT.out)] at this; exact this) (fun k hk => by rcases hk with (hk | hk) | hk; exact hk.elim; cases hk; cases hk))) (Below.refl _ _) (Nat.le_refl _) (by have := HB.out; simp only [List.length_nil]; omega) ?_; intro vv w4 HO_ HBc hgr_ _; obtain ⟨AA, cA, rfl, hcA, hAns⟩ := own_ints HO_; clear HO_ hgr_; rw [List.nil_append] at hcA hAns ⊢; have HCA := Aside0.mk hcA; have HANS : Aside0 (∀ M : Nat → Prop, (∀ k, M k → k < w3.heap.size) → Ever M w4 (fun W => Kd.C (Kd.int .i64) W AA (rdAt xs a c).length (rdAt xs a c))) := ⟨hAns⟩; have HZL : Aside0 (z < w3.heap.size ∧ w.heap.size ≤ w3.heap.size) := ⟨blk_lt BK_z.out, XT.out.size⟩; clear hAns hcA; have BK_qn : Aside0 (w4.heap[q]? = some (.cells #[.int .i64 4, .int .i64 (a : Int), .int .i64 (c : Int), .slice A 0 cc, .int .i64 t, .int .i64 n, .int .i64 o] 24 (0, 0))) := ⟨blk_below BK_q.out HBc⟩; have BK_zn : Aside0 (w4.heap[z]? = some (.cells #[.slice none 0 0, .int .i64 0] 30 (0, 0))) := ⟨blk_below BK_z.out HBc⟩; have SLn : Aside0 (IsSlv 77 w4 g R (X)) := ⟨SL.out.below HBc⟩; have XTn : Aside0 (Ext (Fp g R) w w4) := ⟨XT.out.stepB HBc⟩; have HVn : Aside0 (Ever (Fp g R) w4 (fun W => Kd.C (Kd.int .i64) W A v.length v)) := ⟨HV.out.step (.of_below HBc)⟩; clear BK_q BK_z SL XT HV; have BK_q := BK_qn; have BK_z := BK_zn; have SL := SLn; have XT := XTn; have HV := HVn; clear BK_qn BK_zn SLn XTn HVn; clear HBc; have lc6_0 : w4.cell? ⟨z, 0, none⟩ = some (.slice none 0 0) := (blk_cell BK_z.out 0).trans rfl; have lf6_0 := blk_frozen BK_z.out 0; have lc6_1 : w4.cell? ⟨z, 1, none⟩ = some (.int .i64 0) := (blk_cell BK_z.out 1).trans rfl; have lf6_1 := blk_frozen BK_z.out 1) | ((with_reducible refine gate_store (p := 4) rfl ?_); refine store_event (w1 := ?_) rfl (p := 4) rfl rfl ?hr ?_; rotate_left; (case hr => go_simp; rfl); intro w5 hw_; obtain ⟨hput, HEc⟩ := put2 hw_ BK_z.out; clear hw_; have BK_qn : Aside0 (w5.heap[q]? = some (.cells #[.int .i64 4, .int .i64 (a : Int), .int .i64 (c : Int), .slice A 0 cc, .int .i64 t, .int .i64 n, .int .i64 o] 24 (0, 0))) := ⟨Ext.blk HEc BK_q.out NE_q_z.out⟩; have SLn : Aside0 (IsSlv 77 w5 g R (X)) := ⟨SL.out.ext HEc (fun k hk e => NS_z.out k hk e)⟩; have XTn : Aside0 (Ext (Fp g R) w w5) := ⟨XT.out.step HEc (fun k e => .inr (by rw [show k = z from e]; exact RG_z.out))⟩; clear BK_q SL XT; have BK_q := BK_qn; have SL := SLn; have XT := XTn; clear BK_qn SLn XTn; clear BK_z HV; have BK_z : Aside0 (w5.heap[z]? = some (.cells #[.slice AA (rdAt xs a c).length cA, .int .i64 0] 30 (0, 0))) := ⟨hput⟩; have HST := Aside0.mk HEc; clear hput HEc))
  refine bodyPost_ret (results_ct rfl _ _ z 30 #[.slice AA (rdAt xs a c).length cA, .int .i64 0] (0, 0) _ rfl BK_z.out Try.underlying30 rfl (by kernel_rfl)) rfl ?_
  exact ⟨AA, cA, rfl, HCA.out, SL.out, XT.out, fun M hM => (HANS.out (fun k => M k ∨ k = z) (fun k hk => by rcases hk with hk | hk; exact Nat.lt_of_lt_of_le (hM k hk) HZL.out.2; rw [hk]; exact HZL.out.1)).grow (HST.out.sub (fun k e => .inr e)) (fun k hk => .inl (.inl hk))⟩
end Go.Proofs.Ytocicifgglkaeaa.SlvG
end

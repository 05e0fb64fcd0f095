/- The words, contracts and walks that this claim leans on, put together by a program of this session (part 6). -/
import Derived.Test.YtocicifgglkaeaaZD5
section
namespace Go.Proofs.Ytocicifgglkaeaa.SlvN
open Go.RowKit Go.Proofs.YtocicifgglkaeaaW.PrintWords Go.Proofs.YtocicifgglkaeaaW.PrintLast Go.Proofs.YtocicifgglkaeaaW.PrintMore Go.Proofs.Ytocicifgglkaeaa.Core Go.Proofs.Ytocicifgglkaeaa.Wk Go.Proofs.Ytocicifgglkaeaa.Chk Go.Proofs.Ytocicifgglkaeaa.SlvA Go.Proofs.Ytocicifgglkaeaa.SlvB Go.Proofs.Ytocicifgglkaeaa.SlvE Go.Proofs.Ytocicifgglkaeaa.SlvW Go.Proofs.Ytocicifgglkaeaa.SlvF Go.Proofs.Ytocicifgglkaeaa.SlvG Go.Proofs.Ytocicifgglkaeaa.SlvH Go.Proofs.Ytocicifgglkaeaa.SlvM Go.Proofs.Ytocicifgglkaeaa.SlvI Go.Proofs.Ytocicifgglkaeaa.SlvJ Go.Proofs.Ytocicifgglkaeaa.SlvK Go.Proofs.Ytocicifgglkaeaa.SlvD Go.Proofs.Ytocicifgglkaeaa.SlvL
set_option linter.unusedVariables false
set_option linter.unusedSimpArgs false
attribute [local go_sem] max2_int min2_int max_two min_two
theorem IsSlv.congr {T : TypeId} {W : World} {g : Nat} {R : Nat → Nat} {X Y : Nat → List Int} (h : IsSlv T W g R X) (e : ∀ k, k < 4 → X k = Y k) : IsSlv T W g R Y := by
  refine ⟨?_, fun k hk => by rw [← e k hk]; exact h.row k hk, h.inj, h.ne, fun k hk => by rw [← e k hk]; exact h.len k hk⟩
  have hs : ∀ k, k < 4 → sl R Y k = sl R X k := fun k hk => by unfold sl; rw [e k hk]
  rw [hs 0 (by omega), hs 1 (by omega), hs 2 (by omega), hs 3 (by omega)]
  exact h.blk
theorem getR_at {X : Nat → List Int} {K i : Nat} (hK : K < 4) (hi : i < (X K).length) {x : Int} (hx : (X K).getD i 0 = x) : getR X ((K : Int) + 1) (i : Int) = (x, 0) := by
  have e1 : ((K : Int) + 1 - 1).toNat = K := by rw [Int.add_sub_cancel]; exact Int.toNat_natCast K
  have hh : has X ((K : Int) + 1) (i : Int) := ⟨by omega, by omega, by omega, by rw [e1]; omega⟩
  unfold getR
  rw [if_pos hh, e1, Int.toNat_natCast, hx]
set_option maxHeartbeats 4000000 in
set_option maxRecDepth 100000 in
theorem all_c {w : World} {g g2 : Nat} {R R2 : Nat → Nat} {X : Nat → List Int} (h : IsSlv 77 w g R X) (h2 : IsSlv 51 w g2 R2 X) : Calls Try.prog 26 #[.pointer (some ⟨g, 0, none⟩), .pointer (some ⟨g2, 0, none⟩)] w fun e w' => e = .returned (.bool true) ∧ w = w' := by
  have H := Aside0.mk h; have H2 := Aside0.mk h2
  clear h h2
  go_enter Try.func26, Try.ntmps26
  go_wp2
  go_loopw [5] (fun v wr => ∃ K : Nat, K ≤ 4 ∧ v = .int .i64 ((K : Int) + 1) ∧ Aside0 (w = wr)) (fun v _ => 5 - (intOf v).toNat)
  case atStart => exact ⟨0, by omega, rfl, ⟨rfl⟩⟩
  case round =>
    obtain ⟨K, hK, rfl, HW⟩ := hrel
    have hw := HW.out; subst hw; clear HW
    by_cases hlt : K < 4
    · have t1 : decide ((K : Int) + 1 ≤ 4) = true := decide_eq_true (by omega)
      have t1' : decide ((K : Int) ≤ 3) = true := decide_eq_true (by omega)
      have HK : Aside0 (K < 4) := ⟨hlt⟩
      have hlK := H.out.len K hlt
      obtain ⟨n, hn⟩ : ∃ n, (X K).length = n := ⟨_, rfl⟩
      obtain ⟨r, hr⟩ : ∃ r, R2 K = r := ⟨_, rfl⟩
      have hcg : w.cell? ⟨g2, K, none⟩ = some (.slice (some ⟨r, 0, none⟩) n n) := by
        have h1 := H2.out.cell hlt
        unfold sl at h1
        rw [hn, hr] at h1
        exact h1
      rw [hn] at hlK
      have HN := Aside0.mk hn; have HR := Aside0.mk hr
      have hK0 : (0 : Int) ≤ (K : Int) := (by omega); have hK1 : (K : Int) < 4 := (by omega); have hK2 : (K < 4) = True := eq_true hlt
      clear hn hr hlt hK
      go_wp2
      go_loopw [6] (fun v wr => ∃ i : Nat, i ≤ n ∧ v = .int .i64 (i : Int) ∧ Aside0 (w = wr)) (fun v _ => n - (intOf v).toNat)
      case atStart => exact ⟨0, by omega, rfl, ⟨rfl⟩⟩
      case round =>
        obtain ⟨i, hi, rfl, HW⟩ := hrel
        have hw := HW.out; subst hw; clear HW
        by_cases hil : i < n
        · have s1 : decide (i < n) = true := decide_eq_true hil
          have s2 : decide ((i : Int) < (n : Int)) = true := decide_eq_true (by omega)
          obtain ⟨x, hx⟩ : ∃ x, (X K).getD i 0 = x := ⟨_, rfl⟩
          have G : Aside0 (getR X ((K : Int) + 1) (i : Int) = (x, 0)) := ⟨getR_at HK.out (by rw [HN.out]; exact hil) hx⟩
          have hcr : w.cell? ⟨r, i, none⟩ = some (.int .i64 x) := by
            have h1 := H2.out.at_ (k := K) (i := i) HK.out (by rw [HN.out]; exact hil)
            rw [hx, HR.out] at h1
            exact h1
          have hi0 : (0 : Int) ≤ (i : Int) := (by omega); have hi1 : (i : Int) < (n : Int) := (by omega); have hi2 : (i < n) = True := eq_true hil
          have HI : Aside0 (i < n) := ⟨hil⟩
          have bx : (x != x) = false := bne_self_eq_false x
          clear hx hil hi
          go_wp2_with (go_at_call 24; refine (get_c H.out _ _ G.out).mono ?_; rintro e w' ⟨rfl, rfl⟩)
          go_roundw
          case rel => exact ⟨i + 1, by have := HI.out; omega, by go_num, ⟨trivial⟩⟩
          case measure => have := HI.out; simp [intOf]; omega
        · have s1 : decide (i < n) = false := decide_eq_false hil
          have s2 : decide ((i : Int) < (n : Int)) = false := decide_eq_false (by omega)
          go_wp2
          go_roundw
          case rel => exact ⟨K + 1, by have := HK.out; omega, by first | go_num | (congr 1; omega), ⟨trivial⟩⟩
          case measure => have := HK.out; simp [intOf]; omega
    · have t1 : decide ((K : Int) + 1 ≤ 4) = false := decide_eq_false (by omega)
      have t1' : decide ((K : Int) ≤ 3) = false := decide_eq_false (by omega)
      go_wp2
      go_ret
      exact ⟨rfl, rfl⟩
end Go.Proofs.Ytocicifgglkaeaa.SlvN
end

section
namespace Go.Proofs.Ytocicifgglkaeaa.SlvO
open Go.RowKit Go.Proofs.YtocicifgglkaeaaW.PrintWords Go.Proofs.YtocicifgglkaeaaW.PrintLast Go.Proofs.YtocicifgglkaeaaW.PrintMore Go.Proofs.Ytocicifgglkaeaa.Core Go.Proofs.Ytocicifgglkaeaa.Wk Go.Proofs.Ytocicifgglkaeaa.Chk Go.Proofs.Ytocicifgglkaeaa.SlvA Go.Proofs.Ytocicifgglkaeaa.SlvB Go.Proofs.Ytocicifgglkaeaa.SlvE Go.Proofs.Ytocicifgglkaeaa.SlvW Go.Proofs.Ytocicifgglkaeaa.SlvF Go.Proofs.Ytocicifgglkaeaa.SlvG Go.Proofs.Ytocicifgglkaeaa.SlvH Go.Proofs.Ytocicifgglkaeaa.SlvM Go.Proofs.Ytocicifgglkaeaa.SlvI Go.Proofs.Ytocicifgglkaeaa.SlvJ Go.Proofs.Ytocicifgglkaeaa.SlvK Go.Proofs.Ytocicifgglkaeaa.SlvD Go.Proofs.Ytocicifgglkaeaa.SlvL Go.Proofs.Ytocicifgglkaeaa.SlvN
set_option linter.unusedVariables false
set_option linter.unusedSimpArgs false
attribute [local go_sem] max2_int min2_int max_two min_two
structure Opc where
  call : Int
  kind : Int
  addr : Int
  val : Int
  f : Int
  a : Int
  c : Int
  v : List Int
  t : Int
  n : Int
  o : Int
def z42 : Opc := ⟨0, 0, 0, 0, 0, 0, 0, [], 0, 0, 0⟩
def k42 : Kd Opc := Kd.iso (Kd.pair (Kd.int .i64) (Kd.pair (Kd.int .i64) (Kd.pair (Kd.int .i64) (Kd.pair (Kd.int .i64) (Kd.pair (Kd.int .i64) (Kd.pair (Kd.int .i64) (Kd.pair (Kd.int .i64) (Kd.pair (Kd.slice 3 (Kd.int .i64)) (Kd.pair (Kd.int .i64) (Kd.pair (Kd.int .i64) (Kd.int .i64))))))))))) (fun x : Opc => (x.call, x.kind, x.addr, x.val, x.f, x.a, x.c, x.v, x.t, x.n, x.o))
theorem k42_open {w : World} {x : Opc} {cs : List Value} (h : k42.K w x cs) : ∃ A c, cs = [.int .i64 x.call, .int .i64 x.kind, .int .i64 x.addr, .int .i64 x.val, .int .i64 x.f, .int .i64 x.a, .int .i64 x.c, .slice A x.v.length c, .int .i64 x.t, .int .i64 x.n, .int .i64 x.o] ∧ x.v.length ≤ c ∧ Kd.C (Kd.int .i64) w A x.v.length x.v := by
  obtain ⟨_, _, rfl, rfl, ⟨_, _, rfl, rfl, ⟨_, _, rfl, rfl, ⟨_, _, rfl, rfl, ⟨_, _, rfl, rfl, ⟨_, _, rfl, rfl, ⟨_, _, rfl, rfl, ⟨_, _, rfl, ⟨A, c, rfl, l2, g2⟩, ⟨_, _, rfl, rfl, ⟨_, _, rfl, rfl, rfl⟩⟩⟩⟩⟩⟩⟩⟩⟩⟩ := h
  exact ⟨A, c, rfl, l2, g2⟩
theorem k42_mk (w : World) (x : Opc) {A : Option Addr} {c : Nat} (l2 : x.v.length ≤ c) (g2 : Kd.C (Kd.int .i64) w A x.v.length x.v) : k42.K w x [.int .i64 x.call, .int .i64 x.kind, .int .i64 x.addr, .int .i64 x.val, .int .i64 x.f, .int .i64 x.a, .int .i64 x.c, .slice A x.v.length c, .int .i64 x.t, .int .i64 x.n, .int .i64 x.o] := ⟨[.int .i64 x.call], [.int .i64 x.kind, .int .i64 x.addr, .int .i64 x.val, .int .i64 x.f, .int .i64 x.a, .int .i64 x.c, .slice A x.v.length c, .int .i64 x.t, .int .i64 x.n, .int .i64 x.o], rfl, rfl, ⟨[.int .i64 x.kind], [.int .i64 x.addr, .int .i64 x.val, .int .i64 x.f, .int .i64 x.a, .int .i64 x.c, .slice A x.v.length c, .int .i64 x.t, .int .i64 x.n, .int .i64 x.o], rfl, rfl, ⟨[.int .i64 x.addr], [.int .i64 x.val, .int .i64 x.f, .int .i64 x.a, .int .i64 x.c, .slice A x.v.length c, .int .i64 x.t, .int .i64 x.n, .int .i64 x.o], rfl, rfl, ⟨[.int .i64 x.val], [.int .i64 x.f, .int .i64 x.a, .int .i64 x.c, .slice A x.v.length c, .int .i64 x.t, .int .i64 x.n, .int .i64 x.o], rfl, rfl, ⟨[.int .i64 x.f], [.int .i64 x.a, .int .i64 x.c, .slice A x.v.length c, .int .i64 x.t, .int .i64 x.n, .int .i64 x.o], rfl, rfl, ⟨[.int .i64 x.a], [.int .i64 x.c, .slice A x.v.length c, .int .i64 x.t, .int .i64 x.n, .int .i64 x.o], rfl, rfl, ⟨[.int .i64 x.c], [.slice A x.v.length c, .int .i64 x.t, .int .i64 x.n, .int .i64 x.o], rfl, rfl, ⟨[.slice A x.v.length c], [.int .i64 x.t, .int .i64 x.n, .int .i64 x.o], rfl, ⟨A, c, rfl, l2, g2⟩, ⟨[.int .i64 x.t], [.int .i64 x.n, .int .i64 x.o], rfl, rfl, ⟨[.int .i64 x.n], [.int .i64 x.o], rfl, rfl, rfl⟩⟩⟩⟩⟩⟩⟩⟩⟩⟩
theorem row_elem {M : Nat → Prop} {W : World} {A : Option Addr} {n : Nat} {xs : List Opc} (h : RowE k42 M W A n xs) {j : Nat} (hj : j < n) : ∃ ad A0 cc, A = some ad ∧ (xs.getD j z42).v.length ≤ cc ∧ Ever M W (fun W => Kd.C (Kd.int .i64) W A0 (xs.getD j z42).v.length (xs.getD j z42).v) ∧
    ∀ i u, ([.int .i64 (xs.getD j z42).call, .int .i64 (xs.getD j z42).kind, .int .i64 (xs.getD j z42).addr, .int .i64 (xs.getD j z42).val, .int .i64 (xs.getD j z42).f, .int .i64 (xs.getD j z42).a, .int .i64 (xs.getD j z42).c, .slice A0 (xs.getD j z42).v.length cc, .int .i64 (xs.getD j z42).t, .int .i64 (xs.getD j z42).n, .int .i64 (xs.getD j z42).o] : List Value)[i]? = some u → W.cell? (ad.add (j * 11 + i)) = some u := by
  obtain ⟨ad, inner, rfl, h1, h2⟩ := h.2.2 (by omega)
  have hx : xs[j]? = some (xs.getD j z42) := by rw [List.getD_eq_getElem?_getD, List.getElem?_eq_getElem (by rw [h.1]; exact hj)]; rfl
  have hr := h1.2 j _ hx
  obtain ⟨A0, cc, hcs, hl, _⟩ := k42_open hr.2.now
  refine ⟨ad, A0, cc, rfl, hl, ⟨fun W' k => ?_⟩, fun i u hu => ?_⟩
  · have hK := hr.2.at_ W' k
    obtain ⟨A1, c1, hcs1, _, hv⟩ := k42_open hK
    rw [hcs] at hcs1
    simp only [List.cons.injEq, Value.slice.injEq, and_true, true_and] at hcs1
    rw [hcs1.1]
    exact hv
  · refine h2.now _ u ?_
    rw [← hcs] at hu
    have hi : i < k42.sz := by
      have := (List.getElem?_eq_some_iff.1 hu).1
      rw [hr.1.1] at this
      exact this
    rw [List.getElem?_take, if_pos hi, List.getElem?_drop] at hu
    exact hu
set_option maxHeartbeats 4000000 in
set_option maxRecDepth 100000 in
theorem put11 {W W' : World} {g : Nat} {v0 v1 v2 v3 v4 v5 v6 v7 v8 v9 v10 a0 a1 a2 a3 a4 a5 a6 a7 a8 a9 a10 : Value} {T : TypeId} (hw : W' = (((((((((((W.setCell ⟨g, 0, none⟩ v0).setCell ⟨g, 1, none⟩ v1).setCell ⟨g, 2, none⟩ v2).setCell ⟨g, 3, none⟩ v3).setCell ⟨g, 4, none⟩ v4).setCell ⟨g, 5, none⟩ v5).setCell ⟨g, 6, none⟩ v6).setCell ⟨g, 7, none⟩ v7).setCell ⟨g, 8, none⟩ v8).setCell ⟨g, 9, none⟩ v9).setCell ⟨g, 10, none⟩ v10)) (hb : W.heap[g]? = some (.cells #[a0, a1, a2, a3, a4, a5, a6, a7, a8, a9, a10] T (0, 0))) : W'.heap[g]? = some (.cells #[v0, v1, v2, v3, v4, v5, v6, v7, v8, v9, v10] T (0, 0)) ∧ Ext (fun k => k = g) W W' := by
  obtain ⟨W1, e1⟩ : ∃ X, X = W.setCell ⟨g, 0, none⟩ v0 := ⟨_, rfl⟩
  rw [← e1] at hw
  obtain ⟨h1, E1⟩ := put1 (cs' := #[v0, a1, a2, a3, a4, a5, a6, a7, a8, a9, a10]) e1 hb rfl
  obtain ⟨W2, e2⟩ : ∃ X, X = W1.setCell ⟨g, 1, none⟩ v1 := ⟨_, rfl⟩
  rw [← e2] at hw
  obtain ⟨h2, E2⟩ := put1 (cs' := #[v0, v1, a2, a3, a4, a5, a6, a7, a8, a9, a10]) e2 h1 rfl
  obtain ⟨W3, e3⟩ : ∃ X, X = W2.setCell ⟨g, 2, none⟩ v2 := ⟨_, rfl⟩
  rw [← e3] at hw
  obtain ⟨h3, E3⟩ := put1 (cs' := #[v0, v1, v2, a3, a4, a5, a6, a7, a8, a9, a10]) e3 h2 rfl
  obtain ⟨W4, e4⟩ : ∃ X, X = W3.setCell ⟨g, 3, none⟩ v3 := ⟨_, rfl⟩
  rw [← e4] at hw
  obtain ⟨h4, E4⟩ := put1 (cs' := #[v0, v1, v2, v3, a4, a5, a6, a7, a8, a9, a10]) e4 h3 rfl
  obtain ⟨W5, e5⟩ : ∃ X, X = W4.setCell ⟨g, 4, none⟩ v4 := ⟨_, rfl⟩
  rw [← e5] at hw
  obtain ⟨h5, E5⟩ := put1 (cs' := #[v0, v1, v2, v3, v4, a5, a6, a7, a8, a9, a10]) e5 h4 rfl
  obtain ⟨W6, e6⟩ : ∃ X, X = W5.setCell ⟨g, 5, none⟩ v5 := ⟨_, rfl⟩
  rw [← e6] at hw
  obtain ⟨h6, E6⟩ := put1 (cs' := #[v0, v1, v2, v3, v4, v5, a6, a7, a8, a9, a10]) e6 h5 rfl
  obtain ⟨W7, e7⟩ : ∃ X, X = W6.setCell ⟨g, 6, none⟩ v6 := ⟨_, rfl⟩
  rw [← e7] at hw
  obtain ⟨h7, E7⟩ := put1 (cs' := #[v0, v1, v2, v3, v4, v5, v6, a7, a8, a9, a10]) e7 h6 rfl
  obtain ⟨W8, e8⟩ : ∃ X, X = W7.setCell ⟨g, 7, none⟩ v7 := ⟨_, rfl⟩
  rw [← e8] at hw
  obtain ⟨h8, E8⟩ := put1 (cs' := #[v0, v1, v2, v3, v4, v5, v6, v7, a8, a9, a10]) e8 h7 rfl
  obtain ⟨W9, e9⟩ : ∃ X, X = W8.setCell ⟨g, 8, none⟩ v8 := ⟨_, rfl⟩
  rw [← e9] at hw
  obtain ⟨h9, E9⟩ := put1 (cs' := #[v0, v1, v2, v3, v4, v5, v6, v7, v8, a9, a10]) e9 h8 rfl
  obtain ⟨W10, e10⟩ : ∃ X, X = W9.setCell ⟨g, 9, none⟩ v9 := ⟨_, rfl⟩
  rw [← e10] at hw
  obtain ⟨h10, E10⟩ := put1 (cs' := #[v0, v1, v2, v3, v4, v5, v6, v7, v8, v9, a10]) e10 h9 rfl
  obtain ⟨h11, E11⟩ := put1 (cs' := #[v0, v1, v2, v3, v4, v5, v6, v7, v8, v9, v10]) hw h10 rfl
  exact ⟨h11, ((((((((((E1.trans E2).trans E3).trans E4).trans E5).trans E6).trans E7).trans E8).trans E9).trans E10).trans E11)⟩
def fewV (n : Nat) (xs : List Opc) : Prop := n ≤ 100 ∧ ∀ j, j < n → (xs.getD j z42).v.length ≤ 300
set_option maxHeartbeats 4000000 in
set_option maxRecDepth 100000 in
theorem few_c {M : Nat → Prop} {A : Option Addr} {cc n : Nat} {xs : List Opc} {w : World} (h : RowE k42 M w A n xs) : Calls Try.prog 18 #[.slice A n cc] w fun e w' => (fewV n xs → e = .returned (.bool true)) ∧ (¬ fewV n xs → e = .returned (.bool false)) ∧ w = w' := by
  have H := Aside0.mk h
  by_cases hn : 100 < n
  · have t1 : decide (100 < (n : Int)) = true := decide_eq_true (by omega)
    have t2 : decide (100 < n) = true := decide_eq_true hn
    have HNO : Aside0 (¬ fewV n xs) := ⟨fun q => by have := q.1; omega⟩
    clear h hn
    go_enter Try.func18, Try.ntmps18
    go_wp2
    go_ret
    exact ⟨fun q => absurd q HNO.out, fun _ => rfl, rfl⟩
  · have t1 : decide (100 < (n : Int)) = false := decide_eq_false (by omega)
    have t2 : decide (100 < n) = false := decide_eq_false hn
    clear h
    go_enter Try.func18, Try.ntmps18
    go_wp2
    go_loopw [3] (fun v wr => ∃ k : Nat, k ≤ n ∧ v = .int .i64 k ∧ Aside0 ((∀ q, q < k → (xs.getD q z42).v.length ≤ 300) ∧ w = wr)) (fun v _ => n - (intOf v).toNat)
    case atStart => exact ⟨0, by omega, rfl, ⟨fun q hq => by omega, rfl⟩⟩
    case round =>
      obtain ⟨k, hk, rfl, HW⟩ := hrel
      obtain ⟨hq_, hw⟩ := HW.out; subst hw; clear HW; have HQ := Aside0.mk hq_; clear hq_
      by_cases hlt : k < n
      · have s1 : decide (k < n) = true := decide_eq_true hlt
        have s2 : decide ((k : Int) < (n : Int)) = true := decide_eq_true (by omega)
        obtain ⟨ad, A0, c0, e_, hl, hv, hc⟩ := row_elem H.out hlt
        cases e_
        have hcv := hc 7 _ rfl
        clear hc hv hl
        rw [add_field _ _ 7 (by omega)] at hcv
        have hk0 : (0 : Int) ≤ (k : Int) := (by omega); have hk1 : (k : Int) < (n : Int) := (by omega); have hk2 : (k < n) = True := eq_true hlt
        obtain ⟨m, hm⟩ : ∃ m, (xs.getD k z42).v.length = m := ⟨_, rfl⟩
        rw [hm] at hcv
        have HM := Aside0.mk hm
        have HK := Aside0.mk hlt
        clear hm
        by_cases h3 : 300 < m
        · have u1 : decide (300 < (m : Int)) = true := decide_eq_true (by omega)
          have u2 : decide (300 < m) = true := decide_eq_true h3
          have HNO : Aside0 (¬ fewV n xs) := ⟨fun q => by have := q.2 k HK.out; rw [HM.out] at this; omega⟩
          go_wp2
          go_ret
          exact ⟨fun q => absurd q HNO.out, fun _ => rfl, rfl⟩
        · have u1 : decide (300 < (m : Int)) = false := decide_eq_false (by omega)
          have u2 : decide (300 < m) = false := decide_eq_false h3
          go_wp2
          go_roundw
          case rel => exact ⟨k + 1, by omega, by go_num, ⟨fun q hq => by by_cases e : q = k; (rw [e, HM.out]; omega); exact HQ.out q (by omega), trivial⟩⟩
          case measure => simp [intOf]; omega
      · have s1 : decide (k < n) = false := decide_eq_false hlt
        have s2 : decide ((k : Int) < (n : Int)) = false := decide_eq_false (by omega)
        have HYES : Aside0 (fewV n xs) := ⟨by omega, fun q hq => HQ.out q (by omega)⟩
        go_wp2
        go_ret
        exact ⟨fun _ => rfl, fun q => absurd HYES.out q, rfl⟩
theorem fewB {M : Nat → Prop} {A : Option Addr} {cc n : Nat} {xs : List Opc} {w : World} (h : RowE k42 M w A n xs) : ∃ b, Calls Try.prog 18 #[.slice A n cc] w fun e w' => e = .returned (.bool b) ∧ w = w' := by
  by_cases hf : fewV n xs
  · exact ⟨true, (few_c h).mono fun e w' q => ⟨q.1 hf, q.2.2⟩⟩
  · exact ⟨false, (few_c h).mono fun e w' q => ⟨q.2.1 hf, q.2.2⟩⟩
set_option maxHeartbeats 4000000 in
set_option maxRecDepth 100000 in
theorem rnew_1 (a b : Int) (h : a < 0) (w : World) : Calls Try.prog 19 #[.int .i64 a, .int .i64 b] w fun e w' => e = .returned (.tuple #[.pointer none, .bool false]) ∧ w = w' := by
  have d0 : decide (a < 0) = true := decide_eq_true (by omega)
  clear h
  go_enter Try.func19, Try.ntmps19
  go_wp2
  go_ret2
  exact ⟨rfl, rfl⟩
set_option maxHeartbeats 4000000 in
set_option maxRecDepth 100000 in
theorem rnew_2 (a b : Int) (h : 65536 < a) (w : World) : Calls Try.prog 19 #[.int .i64 a, .int .i64 b] w fun e w' => e = .returned (.tuple #[.pointer none, .bool false]) ∧ w = w' := by
  have d0 : decide (a < 0) = false := decide_eq_false (by omega)
  have d1 : decide (65536 < a) = true := decide_eq_true (by omega)
  clear h
  go_enter Try.func19, Try.ntmps19
  go_wp2
  go_ret2
  exact ⟨rfl, rfl⟩
set_option maxHeartbeats 4000000 in
set_option maxRecDepth 100000 in
theorem rnew_3 (a b : Int) (h0 : 0 ≤ a) (h1 : a ≤ 65536) (h : b < 0) (w : World) : Calls Try.prog 19 #[.int .i64 a, .int .i64 b] w fun e w' => e = .returned (.tuple #[.pointer none, .bool false]) ∧ w = w' := by
  have d0 : decide (a < 0) = false := decide_eq_false (by omega)
  have d1 : decide (65536 < a) = false := decide_eq_false (by omega)
  have d2 : decide (b < 0) = true := decide_eq_true (by omega)
  clear h0 h1 h
  go_enter Try.func19, Try.ntmps19
  go_wp2
  go_ret2
  exact ⟨rfl, rfl⟩
set_option maxHeartbeats 4000000 in
set_option maxRecDepth 100000 in
theorem rnew_4 (a b : Int) (h0 : 0 ≤ a) (h1 : a ≤ 65536) (h : 65536 < b) (w : World) : Calls Try.prog 19 #[.int .i64 a, .int .i64 b] w fun e w' => e = .returned (.tuple #[.pointer none, .bool false]) ∧ w = w' := by
  have d0 : decide (a < 0) = false := decide_eq_false (by omega)
  have d1 : decide (65536 < a) = false := decide_eq_false (by omega)
  have d2 : decide (b < 0) = false := decide_eq_false (by omega)
  have d3 : decide (65536 < b) = true := decide_eq_true (by omega)
  clear h0 h1 h
  go_enter Try.func19, Try.ntmps19
  go_wp2
  go_ret2
  exact ⟨rfl, rfl⟩
theorem rnew_no (a b : Int) (h : ¬ (0 ≤ a ∧ a ≤ 65536 ∧ 0 ≤ b ∧ b ≤ 65536)) (w : World) : Calls Try.prog 19 #[.int .i64 a, .int .i64 b] w fun e w' => e = .returned (.tuple #[.pointer none, .bool false]) ∧ w = w' := by
  by_cases h1 : a < 0
  · exact rnew_1 a b h1 w
  by_cases h2 : 65536 < a
  · exact rnew_2 a b h2 w
  by_cases h3 : b < 0
  · exact rnew_3 a b (by omega) (by omega) h3 w
  exact rnew_4 a b (by omega) (by omega) (by omega) w
end Go.Proofs.Ytocicifgglkaeaa.SlvO
end

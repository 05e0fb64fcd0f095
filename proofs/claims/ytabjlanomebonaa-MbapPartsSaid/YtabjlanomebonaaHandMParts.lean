/- The walk, with its plain words (MthR, OpenS, HandMParts laid into one text). -/
import Derived.Test.YtabjlanomebonaaMthL
import Derived.Test.YtabjlanomebonaaOpen
import Derived.Deep.Slices
import Derived.Deep.Fields
import Derived.Test.YtabjlanomebonaaAwakeB
import Derived.Test.YtabjlanomebonaaStrC
namespace Go.Proofs.Ytabjlanomebonaa.MthR
open Go.RowKit Go.Proofs.YtabjlanomebonaaW.PrintWords Go.Proofs.Ytabjlanomebonaa.Ext Go.Proofs.Ytabjlanomebonaa.ExtC Go.Proofs.Ytabjlanomebonaa.StrA Go.Proofs.Ytabjlanomebonaa.StrB Go.Proofs.Ytabjlanomebonaa.PZ Go.Proofs.Ytabjlanomebonaa.MthF Go.Proofs.Ytabjlanomebonaa.MthG Go.Proofs.Ytabjlanomebonaa.MthL
set_option linter.unusedVariables false
def catB : List S37 → List Int
  | [] => []
  | x :: l => frameB x.f0 x.f1 x.f2 ++ catB l
theorem catB_app (a b : List S37) : catB (a ++ b) = catB a ++ catB b := by
  induction a with
  | nil => rfl
  | cons x a ih => show _ ++ catB (a ++ b) = _; rw [ih]; show _ = (_ ++ catB a) ++ catB b; rw [List.append_assoc]
theorem catB_snoc (l : List S37) (i : Nat) (h : i < l.length) : catB (l.take (i + 1)) = catB (l.take i) ++ frameB (rd_T37 l i).f0 (rd_T37 l i).f1 (rd_T37 l i).f2 := by
  have e : l.take (i + 1) = l.take i ++ [rd_T37 l i] := by
    rw [List.take_add_one, List.getElem?_eq_getElem h]
    congr 1
    show [l[i]] = [l.getD (i : Int).toNat _]
    rw [Int.toNat_natCast, List.getD_eq_getElem?_getD, List.getElem?_eq_getElem h]; rfl
  rw [e, catB_app]
  show _ ++ (_ ++ []) = _
  rw [List.append_nil]
theorem frame_len {t u : Int} {p : List Int} : (frameB t u p).length = 7 + p.length := by simp [frameB]; omega
theorem allF_cons (k : Nat) {t u : Int} {p : List Int} (r : List Int) (h : mayA t u p) : allF (k + 1) (frameB t u p ++ r) = (⟨t, u, p⟩ :: (allF k r).1, (allF k r).2) := by
  obtain ⟨h1, h2, h3, h4, h5, h6⟩ := h
  have hl := frame_len (t := t) (u := u) (p := p)
  have w0 : wd (frameB t u p ++ r) 0 = t := by show 256 * (t / 256) + t % 256 = t; omega
  have w2 : wd (frameB t u p ++ r) 2 = 0 := rfl
  have w4 : wd (frameB t u p ++ r) 4 = (p.length : Int) + 1 := by show 256 * (((p.length : Int) + 1) / 256) + ((p.length : Int) + 1) % 256 = _; omega
  have r6 : rd (frameB t u p ++ r) 6 = u := rfl
  have hn : (6 + wd (frameB t u p ++ r) 4).toNat = (frameB t u p).length := by rw [w4, hl]; omega
  conv => lhs; unfold allF
  rw [if_neg (by rw [List.length_append, hl]; omega), if_neg (by unfold bad; rw [w2, w4]; omega), if_neg (by rw [List.length_append, hl, w4]; push_cast; omega)]
  have e1 : pduOf (frameB t u p ++ r) = p := by
    unfold pduOf
    rw [hn, List.take_left' rfl]
    rfl
  have e2 : restOf (frameB t u p ++ r) = r := by
    unfold restOf
    rw [hn, List.drop_left' rfl]
  rw [w0, r6, e1, e2]
theorem allF_cat : ∀ (k : Nat) (l : List S37), l.length < k → (∀ x ∈ l, mayA x.f0 x.f1 x.f2) → allF k (catB l) = (l, [], false)
  | 0, _, h, _ => by omega
  | k + 1, [], _, _ => rfl
  | k + 1, x :: l, h, hm => by
    show allF (k + 1) (frameB x.f0 x.f1 x.f2 ++ catB l) = _
    rw [allF_cons k (catB l) (hm x (by simp)), allF_cat k l (by simp at h; omega) (fun y hy => hm y (by simp [hy]))]
theorem allF_idem : ∀ (k : Nat) (b : List Int) (f : List S37) (r : List Int), b.length < k → allF k b = (f, r, false) → ∀ k', r.length < k' → allF k' r = ([], r, false)
  | 0, _, _, _, h, _ => by omega
  | k + 1, b, f, r, h, he => by
    intro k' hk'
    have he0 := he
    unfold allF at he
    by_cases h6 : b.length < 6
    · rw [if_pos h6] at he
      simp only [Prod.mk.injEq] at he
      obtain ⟨rfl, rfl, _⟩ := he
      rw [← he0]; exact allF_fuel k' (k + 1) _ hk' h
    rw [if_neg h6] at he
    by_cases hb : bad b
    · rw [if_pos hb] at he
      simp only [Prod.mk.injEq] at he
      exact absurd he.2.2 (by simp)
    rw [if_neg hb] at he
    by_cases hs : (b.length : Int) < 6 + wd b 4
    · rw [if_pos hs] at he
      simp only [Prod.mk.injEq] at he
      obtain ⟨rfl, rfl, _⟩ := he
      rw [← he0]; exact allF_fuel k' (k + 1) _ hk' h
    rw [if_neg hs] at he
    have hlt := rest_lt h6 hb hs
    obtain ⟨fs', r', br', he'⟩ : ∃ fs' r' br', allF k (restOf b) = (fs', r', br') := ⟨_, _, _, rfl⟩
    rw [he'] at he
    simp only [Prod.mk.injEq] at he
    obtain ⟨rfl, rfl, rfl⟩ := he
    exact allF_idem k (restOf b) fs' r' (by omega) he' k' hk'
theorem catB_bytes (l : List S37) (hm : ∀ x ∈ l, mayA x.f0 x.f1 x.f2) (hb : ∀ x ∈ l, Bytes x.f2) : Bytes (catB l) := by
  induction l with
  | nil => intro x hx; simp [catB] at hx
  | cons x l ih =>
    intro y hy
    rcases List.mem_append.1 hy with a | a
    · obtain ⟨h1, h2, h3, h4, h5, h6⟩ := hm x (by simp)
      rcases List.mem_append.1 a with c | c
      · simp only [List.mem_cons, List.not_mem_nil, or_false] at c
        rcases c with c | c | c | c | c | c | c <;> omega
      · exact hb x (by simp) y c
    · exact ih (fun z hz => hm z (by simp [hz])) (fun z hz => hb z (by simp [hz])) y a
/-- A step: what is fed next of what is there. -/
theorem allF_next (K n : Nat) (rs rest : List Int) (ft : List S37) (hK : rs.length + rest.length < K) (hn : n ≤ rest.length) (h : allF K (rs ++ rest) = (ft, [], false)) :
    ∃ f1 r1, allF K (rs ++ rest.take n) = (f1, r1, false) ∧ r1.length ≤ rs.length + n ∧ ∃ ft', f1 ++ ft' = ft ∧ allF K (r1 ++ rest.drop n) = (ft', [], false) := by
  have hlt : (rest.take n).length = n := by rw [List.length_take]; omega
  have hld : (rest.drop n).length + n = rest.length := by rw [List.length_drop]; omega
  obtain ⟨f1, r1, br, he⟩ : ∃ f1 r1 br, allF K (rs ++ rest.take n) = (f1, r1, br) := ⟨_, _, _, rfl⟩
  have hp := allF_parts K (rs ++ rest.take n) (rest.drop n) f1 r1 br (by rw [List.length_append]; omega) he
  rw [List.append_assoc, List.take_append_drop] at hp
  cases br with
  | true =>
    have := (hp.1 rfl).2 K (by rw [List.length_append]; omega)
    rw [this] at h
    simp only [Prod.mk.injEq] at h
    exact absurd h.2.2 (by simp)
  | false =>
    obtain ⟨h1, h2⟩ := hp.2 rfl
    have h3 := h2 K (by rw [List.length_append]; omega)
    rw [h] at h3
    simp only [Prod.mk.injEq] at h3
    rw [List.length_append, hlt] at h1
    exact ⟨f1, r1, he, h1, _, h3.1.symm, Prod.ext rfl h3.2.symm⟩
end Go.Proofs.Ytabjlanomebonaa.MthR

/- A parameter that is a row of frames, opened. -/
namespace Go.Proofs.Ytabjlanomebonaa.OpenS
open Go.ChangeShapes Go.WideShapes Go.ChangeAt Go.RowKit Go.Joins Go.Deep Go.Proofs.Ytabjlanomebonaa.Open Go.Proofs.Ytabjlanomebonaa.PZ Go.Proofs.YtabjlanomebonaaW.PrintWords
set_option linter.unusedVariables false
section
variable {H : Type} {enc : TypeId × Value → H} {w : World} {base : Nat} {held : Bool}
theorem one37 {fuel : Nat} {cs : List Value} {x : DataW H × List MemPlace} (h : DataW.trod enc Try.prog w base (fun _ => true) held fuel 37 cs = some x) (hl : cs.length = 3) :
    ∃ (s : S37) (A2 : Option Addr) (c2 : Nat), cs = [.int .i64 s.f0, .int .i64 s.f1, .slice A2 s.f2.length c2] ∧ s.f2.length ≤ c2 ∧ Kd.C (Kd.int .u8) w A2 s.f2.length s.f2 ∧ ∀ y ∈ s.f2, 0 ≤ y ∧ y < 256 := by
  match cs, hl with
  | [v0, v1, v2], _ =>
    obtain ⟨ys, n', hn', hy, hlen, hyl, hf⟩ := DataW.trod_struct Try.underlying37 h
    have h0 := hf 0 _ rfl
    have h1 := hf 1 _ rfl
    have h2 := hf 2 _ rfl
    match ys, hyl with
    | [y0, y1, y2], _ =>
      have g0 : DataW.trod enc Try.prog w base (fun _ => true) held n' 3 [v0] = some y0 := h0
      have g1 : DataW.trod enc Try.prog w base (fun _ => true) held n' 3 [v1] = some y1 := h1
      have g2 : DataW.trod enc Try.prog w base (fun _ => true) held n' 22 [v2] = some y2 := h2
      obtain ⟨a, rfl, _⟩ := open_int1 Try.underlying3 g0
      obtain ⟨b, rfl, _⟩ := open_int1 Try.underlying3 g1
      obtain ⟨A2, c2, l, rfl, hc, hv, hw⟩ := open_nums Try.underlying22 Try.underlying5 (by kernel_rfl) g2
      exact ⟨⟨a, b, l⟩, A2, c2, rfl, hc, hv, fun y hy => wf_u8 (hw y hy)⟩
theorem open_T37 {fuel : Nat} {v : Value} {x : DataW H × List MemPlace} (hf : DataW.trod enc Try.prog w base (fun _ => true) held fuel 45 [v] = some x) :
    ∃ (A : Option Addr) (c : Nat) (ls : List S37), v = .slice A ls.length c ∧ ls.length ≤ c ∧ Kd.C k37 w A ls.length ls ∧ ∀ s ∈ ls, ∀ y ∈ s.f2, 0 ≤ y ∧ y < 256 := by
  rcases open_slice Try.underlying45 hf with ⟨hcs, _⟩ | ⟨a, len, cap, m, n, D, Pl, hcs, hb, hl, hm, hmm, hx, hi⟩
  · exact ⟨none, 0, [], by simpa using hcs, Nat.le_refl _, Kd.C_nil _ _, fun s hs => by simp at hs⟩
  have h3 : Try.prog.cellsOf 37 = 3 := by kernel_rfl
  simp only [if_true] at hmm
  have each : ∀ r, r < len → ∃ s : S37, ∃ (A2 : Option Addr) (c2 : Nat), (∀ (j : Nat) (u : Value), ([.int .i64 s.f0, .int .i64 s.f1, .slice A2 s.f2.length c2] : List Value)[j]? = some u → w.cell? (a.add (r * 3 + j)) = some u) ∧ s.f2.length ≤ c2 ∧ Kd.C (Kd.int .u8) w A2 s.f2.length s.f2 ∧ ∀ y ∈ s.f2, 0 ≤ y ∧ y < 256 := by
    intro r hr
    obtain ⟨cs', hc, ht'⟩ := hi r (by omega)
    rw [h3] at hc
    obtain ⟨_, hcl, hat⟩ := World.cells?_some hc
    obtain ⟨s, A2, c2, rfl, g1, g2, g3⟩ := one37 ht' hcl
    refine ⟨s, A2, c2, fun j u hu => ?_, g1, g2, g3⟩
    have hj : j < 3 := (List.getElem?_eq_some_iff.1 hu).1
    rw [← Go.Deep.add_add, hat j hj, hu]
  have ex : ∃ f : Nat → S37, ∀ r, r < len → ∃ (A2 : Option Addr) (c2 : Nat), (∀ (j : Nat) (u : Value), ([.int .i64 (f r).f0, .int .i64 (f r).f1, .slice A2 (f r).f2.length c2] : List Value)[j]? = some u → w.cell? (a.add (r * 3 + j)) = some u) ∧ (f r).f2.length ≤ c2 ∧ Kd.C (Kd.int .u8) w A2 (f r).f2.length (f r).f2 ∧ ∀ y ∈ (f r).f2, 0 ≤ y ∧ y < 256 := by
    refine ⟨fun r => if h : r < len then (each r h).choose else ⟨0, 0, []⟩, fun r hr => ?_⟩
    have e := (each r hr).choose_spec
    simp only [dif_pos hr]
    exact e
  obtain ⟨f, hf'⟩ := ex
  have hle : ((List.range len).map f).length = len := by simp
  refine ⟨some a, cap, (List.range len).map f, by rw [hle]; simpa using hcs, by omega, ?_, fun s hs => ?_⟩
  · rw [hle]
    refine ⟨hle, by unfold maxLen at hm; omega, fun _ => ⟨a, rfl, fun j p hj => ?_⟩⟩
    have hj' : j < len := by have := (List.getElem?_eq_some_iff.1 hj).1; omega
    have hp : f j = p := by simpa [List.getElem?_map, List.getElem?_range hj'] using hj
    obtain ⟨A2, c2, e1, e2, e3, _⟩ := hf' j hj'
    rw [hp] at e1 e2 e3
    exact ⟨_, rfl, k37_mk w p e2 e3, fun i u hu => e1 i u hu⟩
  · obtain ⟨r, hr', rfl⟩ := List.mem_map.1 hs
    obtain ⟨_, _, _, _, _, e4⟩ := hf' r (by simpa using hr')
    exact e4
end
end Go.Proofs.Ytabjlanomebonaa.OpenS

/- The walk of MbapParts. (printed by gen_mparts.py) -/
namespace Go.Proofs.Ytabjlanomebonaa.HandMParts
open Go.RowKit Go.Proofs.YtabjlanomebonaaW.PrintWords Go.Proofs.YtabjlanomebonaaW.PrintLast Go.Proofs.YtabjlanomebonaaW.PrintMore Go.Proofs.Ytabjlanomebonaa.Core Go.Proofs.Ytabjlanomebonaa.Ext Go.Proofs.Ytabjlanomebonaa.ExtC Go.Proofs.Ytabjlanomebonaa.PB Go.Proofs.Ytabjlanomebonaa.StrA Go.Proofs.Ytabjlanomebonaa.StrB Go.Proofs.Ytabjlanomebonaa.StrC Go.Proofs.Ytabjlanomebonaa.MthF Go.Proofs.Ytabjlanomebonaa.MthG Go.Proofs.Ytabjlanomebonaa.MthL Go.Proofs.Ytabjlanomebonaa.MthR Go.Proofs.Ytabjlanomebonaa.AwakeA Go.Proofs.Ytabjlanomebonaa.AwakeB
set_option linter.unusedVariables false
set_option linter.unusedSimpArgs false
def lenV : Value → Nat | .slice _ n _ => n | _ => 0
theorem own_ever {M : Nat → Prop} {W : World} {base c : Nat} {A : Option Addr} {ys : List Int} (h : W.ownsRow base 5 1 (.slice A ys.length c) ys.length (nums .u8 ys)) (hM : ∀ k, M k → k < base) : Ever M W (fun W => Kd.C (Kd.int .u8) W A ys.length ys) := ⟨fun w1 h1 => by
  have h2 := own_move h (fun k hk => h1.block k (own_lt h k hk) (fun a => by have := own_base h k hk; have := hM k a; omega))
  obtain ⟨A', c', e, hr⟩ := own_reads h2
  simp only [Value.slice.injEq] at e
  obtain ⟨rfl, _, _⟩ := e
  exact Kd.C_of_reads (d := (0 : Int)) (h1 := fun _ => rfl) hr⟩
theorem take_snoc (l : List PZ.S37) (i : Nat) (h : i < l.length) : l.take (i + 1) = l.take i ++ [PZ.rd_T37 l i] := by
  rw [List.take_add_one, List.getElem?_eq_getElem h]
  congr 1
  show [l[i]] = [l.getD (i : Int).toNat _]
  rw [Int.toNat_natCast, List.getD_eq_getElem?_getD, List.getElem?_eq_getElem h]; rfl
theorem may_snoc (l : List PZ.S37) (i : Nat) (h : i < l.length) (hm : ∀ x ∈ l.take i, mayA x.f0 x.f1 x.f2) (h1 : mayA (PZ.rd_T37 l i).f0 (PZ.rd_T37 l i).f1 (PZ.rd_T37 l i).f2) : ∀ x ∈ l.take (i + 1), mayA x.f0 x.f1 x.f2 := by
  intro x hx
  rw [take_snoc l i h] at hx
  rcases List.mem_append.1 hx with a | a
  · exact hm x a
  · rw [List.mem_singleton] at a; rw [a]; exact h1
set_option maxHeartbeats 20000000 in
set_option maxRecDepth 100000 in
theorem mp_main (A0 : Option Addr) (c0 : Nat) (fr : List PZ.S37) (A1 : Option Addr) (c1 : Nat) (pl : List Int) (w : World) (HV0 : Aside0 (Kd.C PZ.k37 w A0 fr.length fr)) (HC0 : Aside0 (fr.length ≤ c0)) (HBF : Aside0 (∀ x ∈ fr, Bytes x.f2)) (HV1 : Aside0 (Kd.C (Kd.int .i64) w A1 pl.length pl)) (HC1 : Aside0 (pl.length ≤ c1)) (hpm : pl.length ≤ 9223372036854775807)
    (K : Nat) (hK : 20000 ≤ K) (hf : fr.length ≤ 30) :
    Calls Try.prog 7 #[.slice A0 fr.length c0, .slice A1 pl.length c1] w fun e w' => e = .returned (.bool true) ∧ Below w.heap.size w w' := by
  have g1 : decide (30 < (fr.length : Int)) = false := decide_eq_false (by omega)
  have g1n : decide (30 < fr.length) = false := decide_eq_false (by omega)
  have HA0 : Aside0 ((w.alloc (.cells #[.slice none 0 0, .bool false] 72)).heap[w.heap.size]? = some (.cells #[.slice none 0 0, .bool false] 72 (0, 0))) := ⟨new_blk rfl⟩
  have BA : Aside0 (Below w.heap.size w (w.alloc (.cells #[.slice none 0 0, .bool false] 72))) := ⟨below_alloc (Below.refl _ _) _⟩
  have hgA : (w.alloc (.cells #[.slice none 0 0, .bool false] 72)).heap.size = w.heap.size + 1 := by simp
  have HGA := Aside0.mk hgA; clear hgA
  go_enter Try.func7, Try.ntmps7
  go_wp2_with (go_at_call 23; (refine (stream_new _).mono ?_; rintro e w' ⟨rfl, rfl⟩))
  generalize (w.alloc (.cells #[.slice none 0 0, .bool false] 72)) = wa at *
  go_loopw [6, 7] (fun v6 v7 wr => ∃ (i : Nat) (ys : List Int), v7 = .int .i64 i ∧ i ≤ fr.length ∧ ys.length ≤ 310 * i ∧ Aside0 (ys = catB (fr.take i)) ∧ Aside0 (∀ x ∈ fr.take i, mayA x.f0 x.f1 x.f2) ∧ Aside0 (wr.ownsRow wa.heap.size 5 1 v6 ys.length (nums .u8 ys)) ∧ Aside0 (Below wa.heap.size wa wr)) (fun _ v7 _ => fr.length - (intOf v7).toNat)
  case atStart => exact ⟨0, [], rfl, by omega, by simp, ⟨rfl⟩, ⟨fun x hx => by simp at hx⟩, ⟨own_nil _ _ _ _⟩, ⟨Below.refl _ _⟩⟩
  case round =>
    obtain ⟨i, ys, rfl, hi, hyl, HYS, HMA, HO, HB⟩ := hrel
    have HBW : Aside0 (Below w.heap.size w wr) := ⟨below_step BA.out HB.out⟩
    by_cases hlt : i < fr.length
    · have hltb : decide ((i : Int) < (fr.length : Int)) = true := decide_eq_true (by omega)
      have hltn : decide (i < fr.length) = true := decide_eq_true hlt
      obtain ⟨ad, A2, c2, rfl, x0, x1, x2, hc2, HC2⟩ := PZ.at_T37 HV0.out (i : Int) (by omega) (by omega)
      simp only [Int.toNat_natCast] at x0 x1 x2
      have HSN : Aside0 (catB (fr.take (i + 1)) = catB (fr.take i) ++ frameB (PZ.rd_T37 fr i).f0 (PZ.rd_T37 fr i).f1 (PZ.rd_T37 fr i).f2) := ⟨catB_snoc fr i hlt⟩
      have HMN : Aside0 (mayA (PZ.rd_T37 fr i).f0 (PZ.rd_T37 fr i).f1 (PZ.rd_T37 fr i).f2 → ∀ x ∈ fr.take (i + 1), mayA x.f0 x.f1 x.f2) := ⟨fun h => may_snoc fr i hlt HMA.out h⟩
      generalize (PZ.rd_T37 fr i).f0 = t at *; generalize (PZ.rd_T37 fr i).f1 = u at *; generalize (PZ.rd_T37 fr i).f2 = p at *
      have X0 := Aside0.mk x0; have X1 := Aside0.mk x1; have X2 := Aside0.mk x2; have XC := Aside0.mk HC2; have hc2 := Aside0.mk hc2; clear HC2
      have k0 := (HBW.out.cell (World.block_lt_of_cell? w _ X0.out)).trans X0.out; have k1 := (HBW.out.cell (World.block_lt_of_cell? w _ X1.out)).trans X1.out; have k2 := (HBW.out.cell (World.block_lt_of_cell? w _ X2.out)).trans X2.out
      clear x0 x1 x2
      by_cases h3 : 300 < p.length
      · have h3b : decide (300 < (p.length : Int)) = true := decide_eq_true (by omega)
        have h3n : decide (300 < p.length) = true := decide_eq_true h3
        go_wp2
        go_ret
        exact ⟨rfl, HBW.out⟩
      have h3b : decide (300 < (p.length : Int)) = false := decide_eq_false (by omega)
      have h3n : decide (300 < p.length) = false := decide_eq_false h3
      by_cases hm : mayA t u p
      · have F1 : Aside0 (mbap_Frame.f 2 t u p = some (frameB t u p, 0)) := ⟨frame_yes 1 hm⟩
        have HMM := Aside0.mk (HMN.out hm)
        have hyy : (frameB t u p).length = 7 + p.length := frame_len
        generalize frameB t u p = y at *
        have hyz : y.length ≤ 307 := by omega
        clear hyy hm HMN
        go_wp2_with (first | (go_at_call 18; (refine (mbap_Frame.calls 2 t u A2 c2 p y 0 _ (Kd.C_below XC.out HBW.out) hc2.out F1.out).mono ?_; rintro e w4 ⟨v4, rfl, HR4, HBc⟩; obtain ⟨A4, c4, rfl, hc4, HC4⟩ := Kd.R_reads HR4; have HV4 := Aside0.mk HC4; have HB4 := Aside0.mk (below_step HB.out HBc); have HO4 := Aside0.mk (pw_own_below HO.out HBc); clear HR4 hc4 HC4 HBc k0 k1 k2)) | ((with_reducible refine gate_builtin (b := .append) (xs := #[.tmp 53, .tmp 54]) rfl ?_); (refine print_append_row (w0 := wa) wa.heap.size rfl (.tmp 53) (.tmp 54) 22 5 .u8 1 rfl Try.underlying22 PZ.info5 (by decide) u6 ys y A4 y.length c4 rfl rfl HO4.out (Kd.reads_of_C HV4.out) HB4.out HB4.out.size (by omega) ?_; intro v5 w5 HO5 HB5 hg5 hat5; have HO5 := Aside0.mk HO5; have HB5 := Aside0.mk HB5; clear hg5 hat5 HO4 HB4 HV4)))
        go_roundw
        case measure => simp [intOf]; omega
        case rel => exact ⟨i + 1, ys ++ y, by go_num, by omega, by rw [List.length_append]; omega, ⟨by rw [HYS.out]; exact HSN.out.symm⟩, HMM, HO5, HB5⟩
      · have F1 : Aside0 (mbap_Frame.f 2 t u p = some ([], 1)) := ⟨frame_no 1 hm⟩
        have F2 : Aside0 (basculeref06_May.f t u p = some false) := ⟨by rw [may_f, decide_eq_false hm]⟩
        clear hm HMN HSN
        go_wp2_with (first | (go_at_call 18; (refine (mbap_Frame.calls 2 t u A2 c2 p [] 1 _ (Kd.C_below XC.out HBW.out) hc2.out F1.out).mono ?_; rintro e w4 ⟨v4, rfl, HR4, HBc⟩; obtain ⟨A4, c4, rfl, hc4, HC4⟩ := Kd.R_reads HR4; have HV4 := Aside0.mk HC4; have HB4 := Aside0.mk (below_step HB.out HBc); have HO4 := Aside0.mk (pw_own_below HO.out HBc); clear HR4 hc4 HC4 HBc k0 k1 k2)) | (go_at_call 20; (refine (awake6 _).mono ?_; rintro e w5 ⟨rfl, HBa⟩; have HB5 := Aside0.mk (below_step BA.out (below_step HB4.out HBa)); have q0 := (HB5.out.cell (World.block_lt_of_cell? w _ X0.out)).trans X0.out; have q1 := (HB5.out.cell (World.block_lt_of_cell? w _ X1.out)).trans X1.out; have q2 := (HB5.out.cell (World.block_lt_of_cell? w _ X2.out)).trans X2.out; clear HBa)) | (go_at_call 19; (refine (basculeref06_May.calls t u A2 c2 p false _ (Kd.C_below XC.out HB5.out) hc2.out F2.out).mono ?_; rintro e w6 ⟨rfl, HBa⟩; have HB6 := Aside0.mk (below_step HB5.out HBa); clear HBa)))
        go_ret
        exact ⟨rfl, HB6.out⟩
    · obtain rfl : i = fr.length := by omega
      have hltb : decide ((fr.length : Int) < (fr.length : Int)) = false := decide_eq_false (by omega)
      have hltn : decide (fr.length < fr.length) = false := decide_eq_false (by omega)
      have hys : ys = catB fr := by rw [HYS.out, List.take_length]
      have hma : ∀ x ∈ fr, mayA x.f0 x.f1 x.f2 := by have := HMA.out; rw [List.take_length] at this; exact this
      have HAL : Aside0 (allF K ([] ++ ys) = (fr, [], false)) := ⟨by rw [List.nil_append, hys]; exact allF_cat K fr (by omega) hma⟩
      have HBY : Aside0 (Bytes ys) := ⟨by rw [hys]; exact catB_bytes fr hma HBF.out⟩
      have HA0n : Aside0 (allF K [] = ([], [], false)) := ⟨by obtain ⟨k, rfl⟩ : ∃ k, K = k + 1 := ⟨K - 1, by omega⟩; rfl⟩
      clear hys hma HYS HMA
      obtain ⟨A6, c6, rfl, _⟩ := own_reads HO.out
      have HL6 := Aside0.mk (own_le HO.out)
      have HE6 : Aside0 (Ever (Mv (fun k => k = w.heap.size) (.slice none 0 0)) wr (fun W => Kd.C (Kd.int .u8) W A6 ys.length ys)) := ⟨own_ever HO.out (fun k hk => hk.elim (fun e => by have e' : k = w.heap.size := e; have := HGA.out; omega) (fun e => by simp [Value.ownBlock] at e))⟩
      have HSr : Aside0 (IsStream (Mv (fun k => k = w.heap.size) (.slice none 0 0)) wr w.heap.size [] false) := ⟨⟨none, 0, blk_below HA0.out HB.out, Nat.le_refl _, Ever.nil _⟩⟩
      have hgr : w.heap.size < wr.heap.size := by have := HB.out.size; have := HGA.out; omega
      have HGR := Aside0.mk hgr; clear hgr
      have hyb : ys.length ≤ 9300 := by omega
      clear HO hyl HB hltb hltn hlt hi
      obtain ⟨B0, hB0⟩ : ∃ B0, B0 = wr.heap.size := ⟨_, rfl⟩
      have HGR0 : Aside0 (w.heap.size < B0) := ⟨by rw [hB0]; exact HGR.out⟩; have HSZ0 : Aside0 (B0 ≤ wr.heap.size) := ⟨by omega⟩; clear HGR hB0; have HGR := HGR0; clear HGR0
      go_wp2_with (fail)
      go_loopw [6, 10, 11] (fun v6 v10 v11 wr => ∃ (i : Nat) (ts ft : List PZ.S37) (rs rest : List Int) (A : Option Addr) (c : Nat), v6 = .slice A rest.length c ∧ v11 = .int .i64 i ∧ i + rest.length ≤ 9300 ∧ rs.length + rest.length ≤ 9300 ∧ Aside0 (rest.length ≤ c) ∧ Aside0 (allF K (rs ++ rest) = (ft, [], false)) ∧ Aside0 (allF K rs = ([], rs, false)) ∧ Aside0 (ts ++ ft = fr) ∧ Aside0 (Bytes rs) ∧ Aside0 (Bytes rest) ∧ Aside0 (Ever (Mv (fun k => k = w.heap.size) v10) wr (fun W => Kd.C (Kd.int .u8) W A rest.length rest)) ∧ Aside0 (OwnE PZ.k37 (fun k => k = w.heap.size) 37 B0 wr v10 ts) ∧ Aside0 (IsStream (Mv (fun k => k = w.heap.size) v10) wr w.heap.size rs false) ∧ Aside0 (Below w.heap.size w wr) ∧ Aside0 (B0 ≤ wr.heap.size)) (fun v6 _ _ _ => lenV v6)
      case atStart => exact ⟨0, [], fr, [], ys, A6, c6, rfl, rfl, by omega, by simp; omega, HL6, HAL, HA0n, ⟨rfl⟩, ⟨fun x hx => by simp at hx⟩, HBY, HE6, ⟨OwnE.nil _ _ _ _ _⟩, HSr, HBW, HSZ0⟩
      case round =>
        clear HL6 HAL HBY HE6 HSr HBW HSZ0
        have hrel2 := hrel; clear hrel
        obtain ⟨j, ts, ft, rs, rest, A, c, rfl, rfl, hj, hrr, HCC, HAL, HIR, HTS, HBR, HBY, HE, HO, HSr, HB, HSZ⟩ := hrel2
        have HTL : Aside0 (ts.length + ft.length ≤ 30) := ⟨by have := congrArg List.length HTS.out; rw [List.length_append] at this; omega⟩
        by_cases h0 : 0 < rest.length
        · have h0b : decide (0 < (rest.length : Int)) = true := decide_eq_true (by omega)
          have h0n : decide (0 < rest.length) = true := decide_eq_true h0
          go_upto_region 21 with (fail)
          go_cut [81] (fun v81 wc => ∃ q : Bool, v81 = .bool q ∧ (q = true → j < pl.length ∧ 0 < rd pl (j : Int) ∧ rd pl (j : Int) < (rest.length : Int)) ∧ wr = wc)
          case first =>
            by_cases hip : j < pl.length
            · have hipb : decide ((j : Int) < (pl.length : Int)) = true := decide_eq_true (by omega)
              have hipn : decide (j < pl.length) = true := decide_eq_true hip
              obtain ⟨ad1, rfl, hx1⟩ := Kd.at_int HV1.out (j : Int) (by omega) (by omega)
              rw [Int.toNat_natCast] at hx1
              have hx2 : wr.cell? (ad1.add j) = some (.int .i64 (rd pl (j : Int))) := (HB.out.cell (World.block_lt_of_cell? w _ hx1)).trans hx1
              by_cases hp : 0 < rd pl (j : Int)
              · have hpb : decide (0 < rd pl (j : Int)) = true := decide_eq_true hp
                by_cases hq : rd pl (j : Int) < (rest.length : Int)
                · have hqb : decide (rd pl (j : Int) < (rest.length : Int)) = true := decide_eq_true hq
                  go_wp2_with (fail)
                  go_meet
                  case rel => exact ⟨true, rfl, fun _ => ⟨hip, hp, hq⟩, rfl⟩
                · have hqb : decide (rd pl (j : Int) < (rest.length : Int)) = false := decide_eq_false hq
                  go_wp2_with (fail)
                  go_meet
                  case rel => exact ⟨false, rfl, fun e => absurd e (by simp), rfl⟩
              · have hpb : decide (0 < rd pl (j : Int)) = false := decide_eq_false hp
                go_wp2_with (fail)
                go_meet
                case rel => exact ⟨false, rfl, fun e => absurd e (by simp), rfl⟩
            · have hipb : decide ((j : Int) < (pl.length : Int)) = false := decide_eq_false (by omega)
              have hipn : decide (j < pl.length) = false := decide_eq_false hip
              go_wp2_with (fail)
              go_meet
              case rel => exact ⟨false, rfl, fun e => absurd e (by simp), rfl⟩
          case rest =>
            obtain ⟨q, rfl, hq, rfl⟩ := hcut
            have HQ := Aside0.mk hq; clear hq
            go_upto_if 81 with (fail)
            go_cut [12] (fun v12 wc => ∃ n : Nat, v12 = .int .i64 n ∧ 1 ≤ n ∧ n ≤ rest.length ∧ wr = wc)
            case first =>
              cases q with
              | true =>
                obtain ⟨hip, hp, hq⟩ := HQ.out rfl
                obtain ⟨ad1, rfl, hx1⟩ := Kd.at_int HV1.out (j : Int) (by omega) (by omega)
                rw [Int.toNat_natCast] at hx1
                have hx2 : wr.cell? (ad1.add j) = some (.int .i64 (rd pl (j : Int))) := (HB.out.cell (World.block_lt_of_cell? w _ hx1)).trans hx1
                have hz : rd pl (j : Int) = ((rd pl (j : Int)).toNat : Int) := by omega
                have HZ := Aside0.mk hz; clear hz
                go_wp2_with (fail)
                go_meet
                case rel => exact ⟨(rd pl (j : Int)).toNat, by rw [← HZ.out], by omega, by omega, rfl⟩
              | false =>
                go_wp2_with (fail)
                go_meet
                case rel => exact ⟨rest.length, rfl, by omega, by omega, rfl⟩
            case rest =>
              obtain ⟨n, rfl, hn1, hn2, rfl⟩ := hcut
              clear HQ
              obtain ⟨i0, hi0, hz0_, hz1_, hz2_⟩ := info_parts PZ.info5
              obtain ⟨hcA, hcAr, hcAl⟩ := print_take_int (P := Try.prog) (k := .u8) 22 5 Try.underlying22 hi0 hz1_ A c rest (n : Int) (by omega) (by omega) HCC.out
              obtain ⟨AB, hcB, hcBr, hcBl⟩ := print_drop_of (P := Try.prog) (Value.int .u8) 0 22 5 .i64 Try.underlying22 hi0 hz1_ A c rest (n : Int) (by omega) (by omega) HCC.out
              rw [Int.toNat_natCast] at hcAr hcAl hcBr hcBl; simp only [Int.toNat_natCast] at hcA hcB
              obtain ⟨f1, r1, hF, hr1, ft', hft, hF'⟩ := allF_next K n rs rest ft (by omega) hn2 HAL.out
              have hlab : (rest.take n).length = n := by rw [List.length_take]; omega
              have hlbb : (rest.drop n).length + n = rest.length := by rw [List.length_drop]; omega
              have HID : Aside0 (allF K r1 = ([], r1, false)) := ⟨allF_idem K _ f1 r1 (by rw [List.length_append, hlab]; omega) hF K (by omega)⟩
              have HBA : Aside0 (Bytes (rest.take n)) := ⟨fun x hx => HBY.out x (List.mem_of_mem_take hx)⟩; have HBB : Aside0 (Bytes (rest.drop n)) := ⟨fun x hx => HBY.out x (List.mem_of_mem_drop hx)⟩
              have HBR1 : Aside0 (Bytes r1) := ⟨by have h := allF_bytes K (rs ++ rest.take n) (fun x hx => (List.mem_append.1 hx).elim (HBR.out x) (HBA.out x)); rw [hF] at h; exact h⟩
              have HF := Aside0.mk hF; have HF' := Aside0.mk hF'; have HFT := Aside0.mk hft; clear hF hF' hft
              have HEA : Aside0 (Ever (Mv (fun k => k = w.heap.size) u10) wr (fun W => Kd.C (Kd.int .u8) W A (rest.take n).length (rest.take n))) := ⟨HE.out.imp (fun W hW => Kd.C_of_reads (d := (0 : Int)) (h1 := fun _ => rfl) (hcAr W (Kd.reads_of_C hW)))⟩
              have HEB : Aside0 (Ever (Mv (fun k => k = w.heap.size) u10) wr (fun W => Kd.C (Kd.int .u8) W AB (rest.drop n).length (rest.drop n))) := ⟨HE.out.imp (fun W hW => Kd.C_of_reads (d := (0 : Int)) (h1 := fun _ => rfl) (hcBr W (Kd.reads_of_C hW)))⟩
              clear hcAr hcAl hcBr hi0 hz0_ hz1_ hz2_ HE HAL HBY HIR
              have HCB := Aside0.mk hcBl; clear hcBl
              generalize rest.take n = ya at *; generalize rest.drop n = yb at *
              have HLA := Aside0.mk hlab; clear hlab; have HLB := Aside0.mk hlbb; clear hlbb
              have HFL : Aside0 (ts.length + f1.length ≤ 30) := ⟨by have := HTL.out; have h := congrArg List.length HFT.out; rw [List.length_append] at h; omega⟩
              go_wp2_with (first | (go_at_call 24; (refine (sfeed (Mv (fun k => k = w.heap.size) u10) w.heap.size rs ya A _ _ (.inl rfl) (fun k hk => hk.elim (fun e => by have e' : k = w.heap.size := e; rw [e']; exact isStream_lt HSr.out) (fun e => HO.out.lt k e.symm)) HSr.out HEA.out HBR.out HBA.out (by omega) (by have := HLA.out; omega) K (by have := HLA.out; omega) f1 r1 false HF.out).mono ?_; rintro e w3 ⟨v', rfl, HR3, HS3, HX3⟩; obtain ⟨A3, c3, rfl, hc3, HR3⟩ := HR3; have HB3 : Aside0 (Below w.heap.size w w3) := ⟨⟨HX3.os.trans HB.out.os, HX3.tape.trans HB.out.tape, HX3.output.trans HB.out.output, Nat.le_trans HB.out.size HX3.size, fun k hk => (HX3.block k (Nat.lt_of_lt_of_le hk HB.out.size) (fun e => by have e' : k = w.heap.size := e; omega)).trans (HB.out.block k hk)⟩⟩; have HO3 : Aside0 (OwnE PZ.k37 (fun k => k = w.heap.size) 37 B0 w3 u10 ts) := ⟨HO.out.step (HX3.mono (fun k _ e => .inl e)) (fun b hb => HX3.block b (HO.out.lt b hb) (fun e => by have := HO.out.base_le b hb; have e' : b = w.heap.size := e; have := HGR.out; omega))⟩; have HEB3 := Aside0.mk (HEB.out.step (HX3.mono (fun k _ e => .inl e))); have HR3 := Aside0.mk HR3; have HS3 := Aside0.mk HS3; have HSZ3 : Aside0 (B0 ≤ w3.heap.size) := ⟨Nat.le_trans HSZ.out HX3.size⟩; clear HX3 hc3 HO HEB HSr HB HSZ HEA HF)) | ((with_reducible refine gate_builtin (b := .append) (xs := #[.tmp 96, .tmp 97]) rfl ?_); (refine ev_append_rows PZ.k37 (M := (fun k => k = w.heap.size)) (w0 := w3) B0 rfl (.tmp 96) (.tmp 97) 45 37 (.agg #[(.int .i64 0), (.int .i64 0), (.slice none 0 0)]) 40 rfl Try.underlying45 PZ.info37 rfl (by decide) (by decide) u10 ts f1 A3 f1.length c3 rfl rfl HO3.out HR3.out.elems (Below.refl _ _) ?aS (by have := HFL.out; omega) ?_; (case aS => exact HSZ3.out); intro v4 w4 HO4 HB4 hg4 hat4; have HB4' : Aside0 (Below w.heap.size w w4) := ⟨HB3.out.grown hg4 (Nat.le_trans HB3.out.size (Nat.le_refl _)) (fun k hk => by have := HO3.out.base_le k hk; have := HGR.out; omega)⟩; have HEB4 := Aside0.mk (HEB3.out.grow (Ext.of_grown hg4) (Mv_grow (w1 := w4) hat4)); have HS4 := Aside0.mk (isStream_grow HS3.out (Ext.of_grown hg4) (Mv_grow (w1 := w4) hat4) (hg4.block w.heap.size (isStream_lt HS3.out) (fun e => by have := HO3.out.base_le _ e.symm; have := HGR.out; omega))); have HSZ4 : Aside0 (B0 ≤ w4.heap.size) := ⟨Nat.le_trans HSZ3.out hg4.size⟩; have HO4 := Aside0.mk HO4; clear HB4 hg4 hat4 HO3 HEB3 HS3 HSZ3 HB3 HR3)))
              go_roundw
              case measure => simp [lenV]; have := HLB.out; omega
              case rel => exact ⟨j + 1, ts ++ f1, ft', r1, yb, AB, c - n, rfl, by go_num, by have := HLB.out; omega, by have := HLB.out; omega, HCB, HF', HID, ⟨by rw [List.append_assoc, HFT.out, HTS.out]⟩, HBR1, HBB, HEB4, HO4, HS4, HB4', HSZ4⟩
        · obtain rfl : rest = [] := List.length_eq_zero_iff.1 (by omega)
          have hal := HAL.out; rw [List.append_nil, HIR.out] at hal; simp only [Prod.mk.injEq] at hal; obtain ⟨rfl, rfl, _⟩ := hal
          have hts := HTS.out; rw [List.append_nil] at hts; subst hts
          clear HAL HIR HTS HE
          go_wp2_with (first | (go_at_call 20; (refine (awake6 _).mono ?_; rintro e w8 ⟨rfl, HBa⟩; have HO8 := HO.out.below HBa; have HS8 := Aside0.mk (isStream_below HSr.out HBa); obtain ⟨A8, c8, rfl, _, HR8⟩ := (HO8.moreM (M' := fun _ => False) (fun k hk => hk.elim)).row (fun k _ h => h); have HR8 := Aside0.mk HR8.ever.now; have HB8 := Aside0.mk (below_step HB.out HBa); have HV8 := Aside0.mk (Kd.C_below HV0.out HB8.out); clear HBa HO8 HO HSr)) | (go_at_call 28; (refine (same_true A8 A0 c8 c0 ts _ HR8 HV8).mono ?_; rintro e w' ⟨rfl, ⟨nd, rfl⟩⟩)) | (go_at_call 25; (refine (left_any _ w.heap.size [] false _ (isStream_below HS8.out (pw_below_drewN (Below.refl _ _) _))).mono ?_; rintro e w' ⟨rfl, hw_⟩; rw [hw_]; clear hw_ w')))
          go_ret
          exact ⟨rfl, pw_below_drewN HB8.out _⟩
set_option maxHeartbeats 8000000 in
set_option maxRecDepth 100000 in
theorem mp_walk (A0 : Option Addr) (c0 : Nat) (fr : List PZ.S37) (A1 : Option Addr) (c1 : Nat) (pl : List Int) (w : World) (HV0 : Aside0 (Kd.C PZ.k37 w A0 fr.length fr)) (HC0 : Aside0 (fr.length ≤ c0)) (hbf : ∀ x ∈ fr, ∀ y ∈ x.f2, 0 ≤ y ∧ y < 256) (HV1 : Aside0 (Kd.C (Kd.int .i64) w A1 pl.length pl)) (HC1 : Aside0 (pl.length ≤ c1)) (hpb : ∀ x ∈ pl, -9223372036854775808 ≤ x ∧ x ≤ 9223372036854775807) :
    Calls Try.prog 7 #[.slice A0 fr.length c0, .slice A1 pl.length c1] w fun e w' => e = .returned (.bool true) ∧ Below w.heap.size w w' := by
  have hm0 := HV0.out.2.1
  have hm1 := HV1.out.2.1
  clear hpb
  by_cases h1 : 30 < fr.length
  · have g1 : decide (30 < (fr.length : Int)) = true := decide_eq_true (by omega)
    have g1n : decide (30 < fr.length) = true := decide_eq_true h1
    clear hbf
    go_enter Try.func7, Try.ntmps7
    go_wp2
    go_ret
    exact ⟨rfl, Below.refl _ _⟩
  exact mp_main A0 c0 fr A1 c1 pl w HV0 HC0 ⟨hbf⟩ HV1 HC1 hm1 20000 (Nat.le_refl _) (by omega)

end Go.Proofs.Ytabjlanomebonaa.HandMParts

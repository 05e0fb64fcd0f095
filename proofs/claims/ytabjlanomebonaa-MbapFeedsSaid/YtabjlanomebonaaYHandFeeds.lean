/- MbapFeeds, walked. (printed by gen_feeds.py) -/
import Derived.Test.YtabjlanomebonaaZF1
import Derived.Deep.LoopGhost
namespace Go.Proofs.Ytabjlanomebonaa.HandFeeds
open Go.RowKit Go.Proofs.YtabjlanomebonaaW.PrintWords Go.Proofs.YtabjlanomebonaaW.PrintLast Go.Proofs.YtabjlanomebonaaW.PrintMore Go.Proofs.Ytabjlanomebonaa.Core Go.Proofs.Ytabjlanomebonaa.Wk Go.Proofs.Ytabjlanomebonaa.Ext Go.Proofs.Ytabjlanomebonaa.ExtC Go.Proofs.Ytabjlanomebonaa.ExtG Go.Proofs.Ytabjlanomebonaa.StrA Go.Proofs.Ytabjlanomebonaa.StrB Go.Proofs.Ytabjlanomebonaa.StrC Go.Proofs.Ytabjlanomebonaa.FdA Go.Proofs.Ytabjlanomebonaa.FdB Go.Proofs.Ytabjlanomebonaa.PB Go.Proofs.Ytabjlanomebonaa.MthF Go.Proofs.Ytabjlanomebonaa.HandAll
set_option linter.unusedVariables false
set_option linter.unusedSimpArgs false
theorem rowR2 {M : Nat → Prop} {W : World} {A : Option Addr} {n : Nat} {ls : List (List Int)} (h : RowE (Kd.slice 5 (Kd.int .u8)) M W A n ls) {j : Nat} (hj : j < n) : ∃ ad A0 cc, A = some ad ∧ (ls.getD j []).length ≤ cc ∧ Ever M W (fun W => Kd.C (Kd.int .u8) W A0 (ls.getD j []).length (ls.getD j [])) ∧ Ever M W (fun W => W.cell? (ad.add j) = some (.slice A0 (ls.getD j []).length cc)) := by
  obtain ⟨ad, inner, rfl, h1, h2⟩ := h.2.2 (by omega)
  have hx : ls[j]? = some (ls.getD j []) := by rw [List.getD_eq_getElem?_getD, List.getElem?_eq_getElem (by rw [h.1]; exact hj)]; rfl
  have hr := h1.2 j _ hx
  obtain ⟨A0, cc, hcs, hl, _⟩ := hr.2.now
  refine ⟨ad, A0, cc, rfl, hl, ⟨fun W' k => ?_⟩, ⟨fun W' k => ?_⟩⟩
  · obtain ⟨A1, c1, hcs1, _, hv⟩ := hr.2.at_ W' k
    rw [hcs] at hcs1
    simp only [List.cons.injEq, Value.slice.injEq, and_true, true_and] at hcs1
    rw [hcs1.1]
    exact hv
  · have hq := h2.at_ W' k (j * 1) (.slice A0 (ls.getD j []).length cc) (by
      have e := congrArg (fun l => l[0]?) hcs
      simp only [List.getElem?_cons_zero] at e
      rw [List.getElem?_take, if_pos (by decide), List.getElem?_drop] at e
      exact e)
    rwa [Nat.mul_one] at hq
theorem put_at {W w1 : World} {bo k : Nat} {cur : Array Value} {v : Value} (hw : w1 = W.setCells bo k [v]) (hh : W.heap[bo]? = some (.cells cur 5 (0, 0))) (hk : k + 1 ≤ cur.size) : ∃ cur', w1.heap[bo]? = some (.cells cur' 5 (0, 0)) ∧ cur'.size = cur.size ∧ Ext (fun j => j = bo) W w1 := by
  subst hw
  obtain ⟨cur', h1, h2, _⟩ := setCells_row [v] k W cur hh hk
  obtain ⟨s1, s2, s3, s4⟩ := setCells_same bo [v] k W
  exact ⟨cur', h1, h2, s1, s2, s3, by rw [s4]; exact Nat.le_refl _, fun i _ hi => setCells_far _ _ i hi⟩
theorem cut_rows {M : Nat → Prop} {W0 : World} {Aw : Option Addr} {cw : Nat} {ws fs zs : List PZ.S37} (hz : ws ++ fs = zs) (h : Ever M W0 (fun W => Kd.C PZ.k37 W Aw zs.length zs)) (hc : zs.length ≤ cw) : ∃ As cs, (∀ W : World, (Instr.slice 45 (.slice Aw zs.length cw) (some (.int .i64 (ws.length : Int))) none none).run Try.prog W = .ok (.slice As fs.length cs) W) ∧ Ever M W0 (fun W => Kd.C PZ.k37 W As fs.length fs) := by
  have hl : ws.length ≤ zs.length := by rw [← hz, List.length_append]; omega
  have hd : zs.drop ws.length = fs := by rw [← hz]; simp
  have hn : zs.length - ws.length = fs.length := by rw [← hz, List.length_append]; omega
  refine ⟨if cw = ws.length then Aw else Aw.map (·.add (ws.length * 3)), cw - ws.length, fun W => ?_, ⟨fun W k => ?_⟩⟩
  · obtain ⟨i, hi, ei⟩ := Option.map_eq_some_iff.1 PZ.info37
    have h1 := cut_from (P := Try.prog) 45 37 .i64 Try.underlying45 hi 3 (congrArg (fun t => t.2.1) ei) Aw zs.length cw (ws.length : Int) (by omega) (by omega) W
    rw [Int.toNat_natCast, hn] at h1
    exact h1
  · have h2 := Kd.C_drop (h.at_ W k) hl hc
    rw [hd] at h2
    exact h2
theorem ne_self_i (n : Int) : (n != n) = false := by simp
theorem bcont {Ao : Option Addr} {bo n k : Nat} {W : World} (h : 0 < n → ∃ cur, Ao = some ⟨bo, 0, none⟩ ∧ W.heap[bo]? = some (.cells cur 5 (0, 0)) ∧ n ≤ cur.size) (hk : k < n) : ∃ cur, Ao = some ⟨bo, 0, none⟩ ∧ W.heap[bo]? = some (.cells cur 5 (0, 0)) ∧ n ≤ cur.size ∧ (∃ u, W.cell? ⟨bo, k, none⟩ = some u) ∧ W.frozen? ⟨bo, k, none⟩ = false := by
  obtain ⟨cur, h1, h2, h3⟩ := h (by omega)
  refine ⟨cur, h1, h2, h3, ⟨cur[k]'(by omega), ?_⟩, blk_frozen h2 _⟩
  rw [cell_of_row W bo _ cur 5 (0, 0) h2]
  exact Array.getElem?_eq_getElem (by omega)
set_option maxHeartbeats 8000000 in
set_option maxRecDepth 100000 in
theorem feeds_no (Ap : Option Addr) (cp n : Nat) (w : World) (hf : Calls Try.prog 22 #[.slice Ap n cp] w fun e w' => e = .returned (.bool false) ∧ w = w') : Calls Try.prog 6 #[.slice Ap n cp] w fun e w' => e = .returned (.bool true) ∧ Below w.heap.size w w' := by
  have HFW := Aside0.mk hf; clear hf
  go_enter Try.func6, Try.ntmps6
  go_wp2_with (go_at_call 22; refine HFW.out.mono ?_; rintro e w' ⟨rfl, rfl⟩)
  go_ret
  exact ⟨rfl, Below.refl _ _⟩
set_option maxHeartbeats 40000000 in
set_option maxRecDepth 100000 in
theorem feeds_yes (Ap : Option Addr) (cp : Nat) (ls : List (List Int)) (n : Nat) (w : World) (hp : RowE (Kd.slice 5 (Kd.int .u8)) (fun k => w.heap.size ≤ k) w Ap n ls) (hn : ls.length = n) (hby : ∀ l ∈ ls, ∀ x ∈ l, 0 ≤ x ∧ x < 256) (hf : Calls Try.prog 22 #[.slice Ap n cp] w fun e w' => e = .returned (.bool true) ∧ w = w') (hv : fewV ls) : Calls Try.prog 6 #[.slice Ap n cp] w fun e w' => e = .returned (.bool true) ∧ Below w.heap.size w w' := by
  have HFW := Aside0.mk hf; have HN := Aside0.mk hn; have HBY := Aside0.mk hby; have HFV := Aside0.mk hv; have RP : Aside0 (RowE (Kd.slice 5 (Kd.int .u8)) (fun k => w.heap.size ≤ k) w Ap n ls) := ⟨hp⟩; have HML : Aside0 (n ≤ 200) := ⟨by rw [← hn]; exact hv.1⟩
  obtain ⟨K, hK⟩ : ∃ K, 20000 ≤ K := ⟨20000, Nat.le_refl _⟩
  have HK := Aside0.mk hK
  clear hf hn hby hv hp hK
  go_enter Try.func6, Try.ntmps6
  go_wp2_with (first | (go_at_call 22; refine HFW.out.mono ?_; rintro e w' ⟨rfl, rfl⟩) | (go_at_call 23; refine (stream_new _).mono ?_; rintro e w1 ⟨rfl, hw_⟩; have hbx : w1.heap[w.heap.size]? = some (.cells #[.slice none 0 0, .bool false] 72 (0, 0)) := (by rw [hw_]; exact heap_alloc_new w _); have XB : Aside0 (Below w.heap.size w w1) := ⟨by rw [hw_]; exact below_alloc (Below.refl _ _) _⟩; clear hw_; obtain ⟨g, hg⟩ : ∃ g, g = w.heap.size := ⟨_, rfl⟩; rw [← hg] at hbx ⊢; have RG : Aside0 (w.heap.size ≤ g) := ⟨Nat.le_of_eq hg.symm⟩; clear hg; have ST : Aside0 (St (fun k => k = g) w1 g [] false) := ⟨⟨none, 0, hbx, Nat.le_refl _, Ever.nil _⟩⟩; have RPn : Aside0 (RowE (Kd.slice 5 (Kd.int .u8)) (fun k => w.heap.size ≤ k) w1 Ap n ls) := ⟨RP.out.step (.of_below XB.out)⟩; clear RP hbx; have RP := RPn; clear RPn))
  go_loopw [4, 5, 6, 7] (fun v4 v5 v6 v7 wr => ∃ (j : Nat) (A4 : Option Addr) (c4 : Nat) (a rest : List Int) (ws : List PZ.S37) (br : Bool) (Q : Nat → Prop), j ≤ n ∧ v4 = .slice A4 a.length c4 ∧ v5 = .int .i64 (ws.length : Int) ∧ v6 = .bool br ∧ v7 = .int .i64 j ∧ Aside0 (a.length ≤ c4) ∧ Aside0 (Inv ls K j a ws rest br) ∧ Aside0 (RowE (Kd.slice 5 (Kd.int .u8)) (fun k => w.heap.size ≤ k) wr Ap n ls) ∧ Aside0 (St (fun k => k = g) wr g rest br) ∧ Aside0 (Ever (Q) wr (fun W => Kd.C (Kd.int .u8) W A4 (a).length (a))) ∧ Aside0 ((Q) g ∧ ∀ k, wr.heap.size ≤ k → (Q) k) ∧ Aside0 (Below w.heap.size w wr)) (fun _ _ _ v7 _ => n - (intOf v7).toNat)
  case atStart => exact ⟨0, none, 0, [], [], [], false, fun _ => True, by omega, rfl, rfl, rfl, rfl, ⟨Nat.le_refl _⟩, ⟨Inv.start ls (by have := HK.out; omega)⟩, RP, ST, ⟨Ever.nil _⟩, ⟨trivial, fun _ _ => trivial⟩, XB⟩
  case round =>
    clear RP ST XB
    obtain ⟨j, A4, c4, a, rest, ws, br, Q, hj, rfl, rfl, rfl, rfl, HC4, HI, RP, ST, AV, AQ, XB⟩ := hrel
    by_cases hlt : j < n
    · have t1 : decide (j < n) = true := decide_eq_true hlt
      have t2 : decide ((j : Int) < (n : Int)) = true := decide_eq_true (by omega)
      have HJ : Aside0 (j < n) := ⟨hlt⟩
      have hj0 : (0 : Int) ≤ (j : Int) := (by omega); have hj1 : (j : Int) < (n : Int) := (by omega); have hj2 : (j < n) = True := eq_true hlt
      obtain ⟨ad, A0, cc0, e_, hle, hev, hcev⟩ := rowR2 RP.out hlt
      cases e_
      obtain ⟨p, hp⟩ : ∃ p, ls.getD j [] = p := ⟨_, rfl⟩
      rw [hp] at hle hev hcev
      have hcell := hcev.now
      have HCL := Aside0.mk hcev
      have HBP : Aside0 (Bytes p) := ⟨fun x hx => HBY.out p (by rw [← hp, List.getD_eq_getElem?_getD, List.getElem?_eq_getElem (by rw [HN.out]; exact hlt)]; exact List.getElem_mem _) x hx⟩
      have HP := Aside0.mk hp; have HLE := Aside0.mk hle; have HEV : Aside0 (Ever (fun k => w.heap.size ≤ k) wr (fun W => Kd.C (Kd.int .u8) W A0 p.length p)) := ⟨hev⟩
      have hp5 : p.length ≤ 5000 := (by have h1 := lens_part (ls := ls) (k := j) (by rw [HN.out]; exact hlt); rw [hp] at h1; have := HFV.out.2; omega)
      have HP5 := Aside0.mk hp5
      clear hp hle hev hlt hj hp5 hcev
      cases br with
      | true =>
        have hr0 : rest = [] := HI.out.2.2.1 rfl
        subst hr0
        go_upto_region 14 with (first | ((with_reducible refine gate_dst (N := 27) rfl ?_); refine bs_event ?hg (N := 27) ?hd (cs := #[]) (t := 5) (n := 0) ?hr ?_; (case hd => rfl); (case hg => rfl); (case hr => first | (go_simp; done) | (go_simp; rfl)); intro e0 he0 wa hbox HBc; have hcw : wa.cell? (ad.add j) = some (.slice A0 p.length cc0) := (HBc.cell (World.block_lt_of_cell? wr _ hcell)).trans hcell; have HEA : Aside0 (Ever (fun k => w.heap.size ≤ k) wa (fun W => Kd.C (Kd.int .u8) W A0 p.length p)) := ⟨HEV.out.step (.of_below HBc)⟩; have HBX := Aside0.mk hbox; have HBC := Aside0.mk HBc; have HE0 := Aside0.mk he0; clear hbox HBc he0) | ((with_reducible refine gate_builtin (b := .append) (xs := #[.tmp 27, .tmp 31]) rfl ?_); refine ev_append_rows (M := fun _ => False) (Kd.int .u8) (w0 := wa) e0 rfl (.tmp 27) (.tmp 31) 22 5 (.int .u8 0) 1 rfl Try.underlying22 PZ.info5 rfl (by decide) (by decide) (.slice (some ⟨e0, 0, none⟩) 0 0) [] p A0 p.length cc0 rfl rfl (OwnE_empty _ _ 5 e0 HBX.out (Nat.le_refl _)) (RowE.elems ((rowE_int HEA.out).grow (Ext.refl _ _) (fun k hk => by rcases hk with (hk | hk); exact hk.elim; exact .inl (by have hk2 : k = e0 := (by simpa [Value.ownBlock] using hk); rw [hk2, HE0.out]; exact below_size XB.out)))) (Below.refl _ _) (Nat.le_of_lt (blk_lt HBX.out)) (by have := HP5.out; simp only [List.length_nil]; omega) ?_; intro v1 wb HO1 HB1 _ _; rw [List.nil_append] at HO1; have hBB : Below wr.heap.size wr wb := below_tr HBC.out (by have h := HB1; rw [HE0.out] at h; exact h); obtain ⟨bo, Ao, co, rfl, hco, hbo, hbl, hcur⟩ := own_blk HO1 (by have h1 := blk_lt HBX.out; have h2 := HB1.size; omega); obtain ⟨Ao', co', e_, _, hov⟩ := own_view HO1 (fun k => k = g) (fun k e => by rw [e, HE0.out]; exact ST.out.lt); cases e_; have hgb : g ≠ bo := (fun e => by have h1 := ST.out.lt; have h2 := HE0.out; omega); have NGB := Aside0.mk hgb; have HOV := Aside0.mk hov; have HCO := Aside0.mk hco; have HCUR := Aside0.mk hcur; have HBO : Aside0 (w.heap.size ≤ bo ∧ wr.heap.size ≤ bo) := ⟨by have h1 := below_size XB.out; have h2 := HE0.out; constructor <;> omega⟩; have HBL := Aside0.mk hbl; have HPV := HEV; clear HEV; have HEV := HPV; clear HPV; have STg : Aside0 (St (fun k => k = g ∨ k = bo) wr g [] true) := ⟨ST.out.grow (fun k e => e.elim .inl (fun e => .inr (by rw [e]; exact HBO.out.2)))⟩; clear ST; have ST := STg; clear STg; have RPn : Aside0 (RowE (Kd.slice 5 (Kd.int .u8)) (fun k => w.heap.size ≤ k) wb (some ad) n ls) := ⟨RP.out.step (.of_below hBB)⟩; have STn : Aside0 (St (fun k => k = g ∨ k = bo) wb g [] true) := ⟨ST.out.below hBB⟩; have AVn : Aside0 (Ever (Q) wb (fun W => Kd.C (Kd.int .u8) W A4 (a).length (a))) := ⟨AV.out.step (.of_below hBB)⟩; have AQn : Aside0 ((Q) g ∧ ∀ k, wb.heap.size ≤ k → (Q) k) := ⟨⟨AQ.out.1, fun k h => AQ.out.2 k (Nat.le_trans hBB.size h)⟩⟩; have XBn : Aside0 (Below w.heap.size w wb) := ⟨below_step XB.out hBB⟩; have HEVn : Aside0 (Ever (fun k => w.heap.size ≤ k) wb (fun W => Kd.C (Kd.int .u8) W A0 p.length p)) := ⟨HEV.out.step (.of_below hBB)⟩; have HCLn : Aside0 (Ever (fun k => w.heap.size ≤ k) wb (fun W => W.cell? (ad.add j) = some (.slice A0 p.length cc0))) := ⟨HCL.out.step (.of_below hBB)⟩; clear RP ST AV AQ XB HEV HCL; have RP := RPn; have ST := STn; have AV := AVn; have AQ := AQn; have XB := XBn; have HEV := HEVn; have HCL := HCLn; clear RPn STn AVn AQn XBn HEVn HCLn; have hcell2 : wb.cell? (ad.add j) = some (.slice A0 p.length cc0) := HCL.out.now; clear hcw hcell hBB HB1 HO1 hov hco hcur hgb hbl hbo HEA) | (go_at_call 24; refine (sfeed_broken _ g [] _ _ ST.out.out).mono ?_; rintro e w' ⟨rfl, hw_⟩; rw [hw_]; clear hw_; have HOC : Aside0 (Kd.C (Kd.int .u8) wb Ao p.length p) := ⟨HOV.out.now⟩))
        refine start_ (n := 8) (S := fun W => Sem.run Try.prog (convert 22 9 (.slice Ao p.length co)) W = .ok (.string (strOfNums p)) W ∧ W.cell? (ad.add j) = some (.slice A0 p.length cc0) ∧ Sem.run Try.prog (convert 22 9 (.slice A0 p.length cc0)) W = .ok (.string (strOfNums p)) W) (ds := []) #[false, false, false, false, false, false, false, false] (by kernel_rfl) rfl rfl ?_ (fun hHeld => ?_)
        · exact ⟨string_of_reads (P := Try.prog) (c := co) Try.underlying22 Try.underlying5 Try.underlying9 (Kd.reads_of_C (Kd.C_drew HOC.out)), HCL.out.now, string_of_reads (P := Try.prog) (c := cc0) Try.underlying22 Try.underlying5 Try.underlying9 (Kd.reads_of_C (Kd.C_drew HEV.out.now))⟩
        refine pure_ (i := 0) (N := some 39) (v := ?_) (a' := ?_) #[true, false, false, false, false, false, false, false] rfl rfl (by kernel_rfl) (fun _ _ _ h => h) (Or.inl ⟨by rfl, ?_⟩) ?_ ?_
        rotate_left
        · intro w'
          go_simp
          with_reducible rfl
        rotate_left
        · simp only [Act.put, List.setIfInBounds_toArray, List.set_cons_zero, List.set_cons_succ, i64_w, i32_w]
          rfl
        refine take_ (i := 1) (N := some 40) (v := ?_) (a' := ?_) #[true, true, false, false, false, false, false, false] rfl rfl (by kernel_rfl) (fun _ _ _ h => h) (Or.inl ⟨by rfl, ?_⟩) hHeld ?_ ?_
        rotate_left
        · rintro w' ⟨s0, s1, s2⟩
          go_simp
          with_reducible rfl
        rotate_left
        · simp only [Act.put, List.setIfInBounds_toArray, List.set_cons_zero, List.set_cons_succ, i64_w, i32_w]
          rfl
        refine pure_ (i := 2) (N := some 41) (v := ?_) (a' := ?_) #[true, true, true, false, false, false, false, false] rfl rfl (by kernel_rfl) (fun _ _ _ h => h) (Or.inl ⟨by rfl, ?_⟩) ?_ ?_
        rotate_left
        · intro w'
          go_simp
          with_reducible rfl
        rotate_left
        · simp only [Act.put, List.setIfInBounds_toArray, List.set_cons_zero, List.set_cons_succ, i64_w, i32_w]
          rfl
        refine pure_ (i := 3) (N := some 42) (v := ?_) (a' := ?_) #[true, true, true, true, false, false, false, false] rfl rfl (by kernel_rfl) (fun _ _ _ h => h) (Or.inl ⟨by rfl, ?_⟩) ?_ ?_
        rotate_left
        · intro w'
          go_simp
          with_reducible rfl
        rotate_left
        · simp only [Act.put, List.setIfInBounds_toArray, List.set_cons_zero, List.set_cons_succ, i64_w, i32_w]
          rfl
        refine take_ (i := 4) (N := some 43) (v := ?_) (a' := ?_) #[true, true, true, true, true, false, false, false] rfl rfl (by kernel_rfl) (fun _ _ _ h => h) (Or.inl ⟨by rfl, ?_⟩) hHeld ?_ ?_
        rotate_left
        · rintro w' ⟨s0, s1, s2⟩
          go_simp
          with_reducible rfl
        rotate_left
        · simp only [Act.put, List.setIfInBounds_toArray, List.set_cons_zero, List.set_cons_succ, i64_w, i32_w]
          rfl
        refine take_ (i := 5) (N := some 44) (v := ?_) (a' := ?_) #[true, true, true, true, true, true, false, false] rfl rfl (by kernel_rfl) (fun _ _ _ h => h) (Or.inl ⟨by rfl, ?_⟩) hHeld ?_ ?_
        rotate_left
        · rintro w' ⟨s0, s1, s2⟩
          go_simp
          with_reducible rfl
        rotate_left
        · simp only [Act.put, List.setIfInBounds_toArray, List.set_cons_zero, List.set_cons_succ, i64_w, i32_w]
          rfl
        refine take_ (i := 6) (N := some 45) (v := ?_) (a' := ?_) #[true, true, true, true, true, true, true, false] rfl rfl (by kernel_rfl) (fun _ _ _ h => h) (Or.inl ⟨by rfl, ?_⟩) hHeld ?_ ?_
        rotate_left
        · rintro w' ⟨s0, s1, s2⟩
          go_simp
          with_reducible rfl
        rotate_left
        · simp only [Act.put, List.setIfInBounds_toArray, List.set_cons_zero, List.set_cons_succ, i64_w, i32_w]
          rfl
        refine pure_ (i := 7) (N := some 46) (v := ?_) (a' := ?_) #[true, true, true, true, true, true, true, true] rfl rfl (by kernel_rfl) (fun _ _ _ h => h) (Or.inl ⟨by rfl, ?_⟩) ?_ ?_
        rotate_left
        · intro w'
          go_simp
          with_reducible rfl
        rotate_left
        · simp only [Act.put, List.setIfInBounds_toArray, List.set_cons_zero, List.set_cons_succ, i64_w, i32_w]
          rfl
        refine done_ (by kernel_rfl) ?_
        have HBD : Below wb.heap.size wb wb.drew := below_drew1 (Below.refl _ _)
        have RPn : Aside0 (RowE (Kd.slice 5 (Kd.int .u8)) (fun k => w.heap.size ≤ k) wb.drew (some ad) n ls) := ⟨RP.out.step (.of_below HBD)⟩
        have STn : Aside0 (St (fun k => k = g ∨ k = bo) wb.drew g [] true) := ⟨ST.out.below HBD⟩
        have AVn : Aside0 (Ever (Q) wb.drew (fun W => Kd.C (Kd.int .u8) W A4 (a).length (a))) := ⟨AV.out.step (.of_below HBD)⟩
        have AQn : Aside0 ((Q) g ∧ ∀ k, wb.drew.heap.size ≤ k → (Q) k) := ⟨⟨AQ.out.1, fun k h => AQ.out.2 k (Nat.le_trans HBD.size h)⟩⟩
        have XBn : Aside0 (Below w.heap.size w wb.drew) := ⟨below_step XB.out HBD⟩
        have HEVn : Aside0 (Ever (fun k => w.heap.size ≤ k) wb.drew (fun W => Kd.C (Kd.int .u8) W A0 p.length p)) := ⟨HEV.out.step (.of_below HBD)⟩
        have HCLn : Aside0 (Ever (fun k => w.heap.size ≤ k) wb.drew (fun W => W.cell? (ad.add j) = some (.slice A0 p.length cc0))) := ⟨HCL.out.step (.of_below HBD)⟩
        clear RP ST AV AQ XB HEV HCL
        have RP := RPn
        have ST := STn
        have AV := AVn
        have AQ := AQn
        have XB := XBn
        have HEV := HEVn
        have HCL := HCLn
        clear RPn STn AVn AQn XBn HEVn HCLn
        have hcell3 : wb.drew.cell? (ad.add j) = some (.slice A0 p.length cc0) := HCL.out.now
        go_wp2_with (go_at_call 25; refine (left_any _ g [] true _ ST.out.out).mono ?_; rintro e w' ⟨rfl, hw_⟩; rw [hw_]; clear hw_)
        go_roundw
        case rel => exact ⟨j + 1, A4, c4, a, [], ws, true, Q, by have := HJ.out; omega, rfl, rfl, rfl, (by first | exact relb HJ.out (by have := HML.out; omega) | go_num), HC4, ⟨HI.out.1, HI.out.2.1, fun _ => rfl, fun h => by cases h⟩, RP, ⟨ST.out.sub (fun k e => .inl e)⟩, AV, AQ, XB⟩
        case measure => first | exact measb HJ.out (by have := HML.out; omega) | (have := HJ.out; simp [intOf]; omega)
      | false =>
        obtain ⟨⟨fs, r, b2⟩, hr⟩ : ∃ q, allF K (rest ++ p) = q := ⟨_, rfl⟩
        obtain ⟨hi1, hi2, hi3, hi4, hi5, hi6, hi7⟩ := HI.out.step (by have := HK.out; omega) (by rw [HN.out]; exact HJ.out) HP.out HBP.out HFV.out.2 hr
        obtain ⟨y, hy⟩ : ∃ y, a ++ p = y := ⟨_, rfl⟩; obtain ⟨zs, hz⟩ : ∃ z, ws ++ fs = z := ⟨_, rfl⟩; rw [hy, hz] at hi1 hi2; rw [hy] at hi6 hi7; have HY := Aside0.mk hy; have HZ := Aside0.mk hz; clear hy hz
        have HI1 := Aside0.mk hi1; have HALL := Aside0.mk hi2; have HBR := Aside0.mk hi3; have HRL := Aside0.mk hi4; have HBA := Aside0.mk hi6; have HAL := Aside0.mk hi7; have HR := Aside0.mk hr; have HAB : Aside0 (Bytes a ∧ a.length ≤ 5000) := ⟨HI.out.1, HI.out.2.1⟩; clear hi1 hi2 hi3 hi4 hi5 hi6 hi7 hr HI
        cases b2 with
        | true =>
          go_upto_region 14 with (first | ((with_reducible refine gate_dst (N := 27) rfl ?_); refine bs_event ?hg (N := 27) ?hd (cs := #[]) (t := 5) (n := 0) ?hr ?_; (case hd => rfl); (case hg => rfl); (case hr => first | (go_simp; done) | (go_simp; rfl)); intro e0 he0 wa hbox HBc; have hcw : wa.cell? (ad.add j) = some (.slice A0 p.length cc0) := (HBc.cell (World.block_lt_of_cell? wr _ hcell)).trans hcell; have HEA : Aside0 (Ever (fun k => w.heap.size ≤ k) wa (fun W => Kd.C (Kd.int .u8) W A0 p.length p)) := ⟨HEV.out.step (.of_below HBc)⟩; have HBX := Aside0.mk hbox; have HBC := Aside0.mk HBc; have HE0 := Aside0.mk he0; clear hbox HBc he0) | ((with_reducible refine gate_builtin (b := .append) (xs := #[.tmp 27, .tmp 31]) rfl ?_); refine ev_append_rows (M := fun _ => False) (Kd.int .u8) (w0 := wa) e0 rfl (.tmp 27) (.tmp 31) 22 5 (.int .u8 0) 1 rfl Try.underlying22 PZ.info5 rfl (by decide) (by decide) (.slice (some ⟨e0, 0, none⟩) 0 0) [] p A0 p.length cc0 rfl rfl (OwnE_empty _ _ 5 e0 HBX.out (Nat.le_refl _)) (RowE.elems ((rowE_int HEA.out).grow (Ext.refl _ _) (fun k hk => by rcases hk with (hk | hk); exact hk.elim; exact .inl (by have hk2 : k = e0 := (by simpa [Value.ownBlock] using hk); rw [hk2, HE0.out]; exact below_size XB.out)))) (Below.refl _ _) (Nat.le_of_lt (blk_lt HBX.out)) (by have := HP5.out; simp only [List.length_nil]; omega) ?_; intro v1 wb HO1 HB1 _ _; rw [List.nil_append] at HO1; have hBB : Below wr.heap.size wr wb := below_tr HBC.out (by have h := HB1; rw [HE0.out] at h; exact h); obtain ⟨bo, Ao, co, rfl, hco, hbo, hbl, hcur⟩ := own_blk HO1 (by have h1 := blk_lt HBX.out; have h2 := HB1.size; omega); obtain ⟨Ao', co', e_, _, hov⟩ := own_view HO1 (fun k => k = g) (fun k e => by rw [e, HE0.out]; exact ST.out.lt); cases e_; have hgb : g ≠ bo := (fun e => by have h1 := ST.out.lt; have h2 := HE0.out; omega); have NGB := Aside0.mk hgb; have HOV := Aside0.mk hov; have HCO := Aside0.mk hco; have HCUR := Aside0.mk hcur; have HBO : Aside0 (w.heap.size ≤ bo ∧ wr.heap.size ≤ bo) := ⟨by have h1 := below_size XB.out; have h2 := HE0.out; constructor <;> omega⟩; have HBL := Aside0.mk hbl; have HPV := HEV; clear HEV; have HEV := HPV; clear HPV; have STg : Aside0 (St (fun k => k = g ∨ k = bo) wr g rest false) := ⟨ST.out.grow (fun k e => e.elim .inl (fun e => .inr (by rw [e]; exact HBO.out.2)))⟩; clear ST; have ST := STg; clear STg; have RPn : Aside0 (RowE (Kd.slice 5 (Kd.int .u8)) (fun k => w.heap.size ≤ k) wb (some ad) n ls) := ⟨RP.out.step (.of_below hBB)⟩; have STn : Aside0 (St (fun k => k = g ∨ k = bo) wb g rest false) := ⟨ST.out.below hBB⟩; have AVn : Aside0 (Ever (Q) wb (fun W => Kd.C (Kd.int .u8) W A4 (a).length (a))) := ⟨AV.out.step (.of_below hBB)⟩; have AQn : Aside0 ((Q) g ∧ ∀ k, wb.heap.size ≤ k → (Q) k) := ⟨⟨AQ.out.1, fun k h => AQ.out.2 k (Nat.le_trans hBB.size h)⟩⟩; have XBn : Aside0 (Below w.heap.size w wb) := ⟨below_step XB.out hBB⟩; have HEVn : Aside0 (Ever (fun k => w.heap.size ≤ k) wb (fun W => Kd.C (Kd.int .u8) W A0 p.length p)) := ⟨HEV.out.step (.of_below hBB)⟩; have HCLn : Aside0 (Ever (fun k => w.heap.size ≤ k) wb (fun W => W.cell? (ad.add j) = some (.slice A0 p.length cc0))) := ⟨HCL.out.step (.of_below hBB)⟩; clear RP ST AV AQ XB HEV HCL; have RP := RPn; have ST := STn; have AV := AVn; have AQ := AQn; have XB := XBn; have HEV := HEVn; have HCL := HCLn; clear RPn STn AVn AQn XBn HEVn HCLn; have hcell2 : wb.cell? (ad.add j) = some (.slice A0 p.length cc0) := HCL.out.now; clear hcw hcell hBB HB1 HO1 hov hco hcur hgb hbl hbo HEA) | (go_at_call 24; refine (sfeed2 (fun k => k = g ∨ k = bo) g rest p Ao co _ (.inl rfl) (fun k e => e.elim (fun e => by rw [e]; exact ST.out.lt) (fun e => by rw [e]; exact HBL.out)) ST.out.out HOV.out.now HBR.out HBP.out (by have := HRL.out; omega) (by have := HP5.out; omega) K (by have := HRL.out; have := HP5.out; have := HK.out; omega) fs r true HR.out).mono ?_; rintro e wc ⟨v9, rfl, HRow, HSt, HEc⟩; obtain ⟨A9, c9, rfl, hc9, hr9⟩ := HRow; have HOC : Aside0 (Kd.C (Kd.int .u8) wc Ao p.length p) := ⟨HOV.out.at_ _ HEc⟩; have HR9 : Aside0 (Ever (fun _ => False) wc (fun W => Kd.C PZ.k37 W A9 fs.length fs)) := ⟨hr9.ever.grow (Ext.refl _ _) (fun k h => h.elim)⟩; have HBK : Aside0 (0 < p.length → ∃ cur, Ao = some ⟨bo, 0, none⟩ ∧ wc.heap[bo]? = some (.cells cur 5 (0, 0)) ∧ p.length ≤ cur.size) := ⟨fun h => by obtain ⟨cur, h1, h2, h3⟩ := HCUR.out h; exact ⟨cur, h1, Ext.blk HEc h2 (fun e => NGB.out e.symm), h3⟩⟩; have RPn : Aside0 (RowE (Kd.slice 5 (Kd.int .u8)) (fun k => w.heap.size ≤ k) wc (some ad) n ls) := ⟨RP.out.step (HEc.sub (fun k e => by rw [show k = g from e]; exact RG.out))⟩; have STn : Aside0 (St (fun k => k = g ∨ k = bo) wc g r true) := ⟨⟨HSt⟩⟩; have AVn : Aside0 (Ever (Q) wc (fun W => Kd.C (Kd.int .u8) W A4 (a).length (a))) := ⟨AV.out.step (HEc.sub (fun k e => by rw [show k = g from e]; exact AQ.out.1))⟩; have AQn : Aside0 ((Q) g ∧ ∀ k, wc.heap.size ≤ k → (Q) k) := ⟨⟨AQ.out.1, fun k h => AQ.out.2 k (Nat.le_trans HEc.size h)⟩⟩; have XBn : Aside0 (Below w.heap.size w wc) := ⟨((Ext.of_below (M := fun j => w.heap.size ≤ j) XB.out).grow HEc (fun k e => .inl (by rw [show k = g from e]; exact RG.out))).below (fun _ h => h)⟩; clear RP ST AV AQ XB; have RP := RPn; have ST := STn; have AV := AVn; have AQ := AQn; have XB := XBn; clear RPn STn AVn AQn XBn; have HEVn : Aside0 (Ever (fun k => w.heap.size ≤ k) wc (fun W => Kd.C (Kd.int .u8) W A0 p.length p)) := ⟨HEV.out.step (HEc.sub (fun k e => by rw [show k = g from e]; exact RG.out))⟩; clear HEV; have HEV := HEVn; clear HEVn; have HCLn : Aside0 (Ever (fun k => w.heap.size ≤ k) wc (fun W => W.cell? (ad.add j) = some (.slice A0 p.length cc0))) := ⟨HCL.out.step (HEc.sub (fun k e => by rw [show k = g from e]; exact RG.out))⟩; clear HCL; have HCL := HCLn; clear HCLn; have hcl3 : wc.cell? (ad.add j) = some (.slice A0 p.length cc0) := HCL.out.now; have HSZ : Aside0 (wb.heap.size ≤ wc.drew.heap.size) := ⟨HEc.size⟩; clear HEc HSt hr9 hc9 hcell2))
          refine start_ (n := 8) (S := fun W => Sem.run Try.prog (convert 22 9 (.slice Ao p.length co)) W = .ok (.string (strOfNums p)) W ∧ W.cell? (ad.add j) = some (.slice A0 p.length cc0) ∧ Sem.run Try.prog (convert 22 9 (.slice A0 p.length cc0)) W = .ok (.string (strOfNums p)) W) (ds := []) #[false, false, false, false, false, false, false, false] (by kernel_rfl) rfl rfl ?_ (fun hHeld => ?_)
          · exact ⟨string_of_reads (P := Try.prog) (c := co) Try.underlying22 Try.underlying5 Try.underlying9 (Kd.reads_of_C (Kd.C_drew HOC.out)), HCL.out.now, string_of_reads (P := Try.prog) (c := cc0) Try.underlying22 Try.underlying5 Try.underlying9 (Kd.reads_of_C (Kd.C_drew HEV.out.now))⟩
          refine pure_ (i := 0) (N := some 39) (v := ?_) (a' := ?_) #[true, false, false, false, false, false, false, false] rfl rfl (by kernel_rfl) (fun _ _ _ h => h) (Or.inl ⟨by rfl, ?_⟩) ?_ ?_
          rotate_left
          · intro w'
            go_simp
            with_reducible rfl
          rotate_left
          · simp only [Act.put, List.setIfInBounds_toArray, List.set_cons_zero, List.set_cons_succ, i64_w, i32_w]
            rfl
          refine take_ (i := 1) (N := some 40) (v := ?_) (a' := ?_) #[true, true, false, false, false, false, false, false] rfl rfl (by kernel_rfl) (fun _ _ _ h => h) (Or.inl ⟨by rfl, ?_⟩) hHeld ?_ ?_
          rotate_left
          · rintro w' ⟨s0, s1, s2⟩
            go_simp
            with_reducible rfl
          rotate_left
          · simp only [Act.put, List.setIfInBounds_toArray, List.set_cons_zero, List.set_cons_succ, i64_w, i32_w]
            rfl
          refine pure_ (i := 2) (N := some 41) (v := ?_) (a' := ?_) #[true, true, true, false, false, false, false, false] rfl rfl (by kernel_rfl) (fun _ _ _ h => h) (Or.inl ⟨by rfl, ?_⟩) ?_ ?_
          rotate_left
          · intro w'
            go_simp
            with_reducible rfl
          rotate_left
          · simp only [Act.put, List.setIfInBounds_toArray, List.set_cons_zero, List.set_cons_succ, i64_w, i32_w]
            rfl
          refine pure_ (i := 3) (N := some 42) (v := ?_) (a' := ?_) #[true, true, true, true, false, false, false, false] rfl rfl (by kernel_rfl) (fun _ _ _ h => h) (Or.inl ⟨by rfl, ?_⟩) ?_ ?_
          rotate_left
          · intro w'
            go_simp
            with_reducible rfl
          rotate_left
          · simp only [Act.put, List.setIfInBounds_toArray, List.set_cons_zero, List.set_cons_succ, i64_w, i32_w]
            rfl
          refine take_ (i := 4) (N := some 43) (v := ?_) (a' := ?_) #[true, true, true, true, true, false, false, false] rfl rfl (by kernel_rfl) (fun _ _ _ h => h) (Or.inl ⟨by rfl, ?_⟩) hHeld ?_ ?_
          rotate_left
          · rintro w' ⟨s0, s1, s2⟩
            go_simp
            with_reducible rfl
          rotate_left
          · simp only [Act.put, List.setIfInBounds_toArray, List.set_cons_zero, List.set_cons_succ, i64_w, i32_w]
            rfl
          refine take_ (i := 5) (N := some 44) (v := ?_) (a' := ?_) #[true, true, true, true, true, true, false, false] rfl rfl (by kernel_rfl) (fun _ _ _ h => h) (Or.inl ⟨by rfl, ?_⟩) hHeld ?_ ?_
          rotate_left
          · rintro w' ⟨s0, s1, s2⟩
            go_simp
            with_reducible rfl
          rotate_left
          · simp only [Act.put, List.setIfInBounds_toArray, List.set_cons_zero, List.set_cons_succ, i64_w, i32_w]
            rfl
          refine take_ (i := 6) (N := some 45) (v := ?_) (a' := ?_) #[true, true, true, true, true, true, true, false] rfl rfl (by kernel_rfl) (fun _ _ _ h => h) (Or.inl ⟨by rfl, ?_⟩) hHeld ?_ ?_
          rotate_left
          · rintro w' ⟨s0, s1, s2⟩
            go_simp
            with_reducible rfl
          rotate_left
          · simp only [Act.put, List.setIfInBounds_toArray, List.set_cons_zero, List.set_cons_succ, i64_w, i32_w]
            rfl
          refine pure_ (i := 7) (N := some 46) (v := ?_) (a' := ?_) #[true, true, true, true, true, true, true, true] rfl rfl (by kernel_rfl) (fun _ _ _ h => h) (Or.inl ⟨by rfl, ?_⟩) ?_ ?_
          rotate_left
          · intro w'
            go_simp
            with_reducible rfl
          rotate_left
          · simp only [Act.put, List.setIfInBounds_toArray, List.set_cons_zero, List.set_cons_succ, i64_w, i32_w]
            rfl
          refine done_ (by kernel_rfl) ?_
          have HBD : Below wc.heap.size wc wc.drew := below_drew1 (Below.refl _ _)
          have RPn : Aside0 (RowE (Kd.slice 5 (Kd.int .u8)) (fun k => w.heap.size ≤ k) wc.drew (some ad) n ls) := ⟨RP.out.step (.of_below HBD)⟩
          have STn : Aside0 (St (fun k => k = g ∨ k = bo) wc.drew g r true) := ⟨ST.out.below HBD⟩
          have AVn : Aside0 (Ever (Q) wc.drew (fun W => Kd.C (Kd.int .u8) W A4 (a).length (a))) := ⟨AV.out.step (.of_below HBD)⟩
          have AQn : Aside0 ((Q) g ∧ ∀ k, wc.drew.heap.size ≤ k → (Q) k) := ⟨⟨AQ.out.1, fun k h => AQ.out.2 k (Nat.le_trans HBD.size h)⟩⟩
          have XBn : Aside0 (Below w.heap.size w wc.drew) := ⟨below_step XB.out HBD⟩
          have HEVn : Aside0 (Ever (fun k => w.heap.size ≤ k) wc.drew (fun W => Kd.C (Kd.int .u8) W A0 p.length p)) := ⟨HEV.out.step (.of_below HBD)⟩
          have HCLn : Aside0 (Ever (fun k => w.heap.size ≤ k) wc.drew (fun W => W.cell? (ad.add j) = some (.slice A0 p.length cc0))) := ⟨HCL.out.step (.of_below HBD)⟩
          have HR9n : Aside0 (Ever (fun _ => False) wc.drew (fun W => Kd.C PZ.k37 W A9 fs.length fs)) := ⟨HR9.out.step (.of_below HBD)⟩
          have HBKn : Aside0 (0 < p.length → ∃ cur, Ao = some ⟨bo, 0, none⟩ ∧ wc.drew.heap[bo]? = some (.cells cur 5 (0, 0)) ∧ p.length ≤ cur.size) := ⟨fun h => by obtain ⟨cur, h1, h2, h3⟩ := HBK.out h; exact ⟨cur, h1, (HBD.block bo (blk_lt h2)).trans h2, h3⟩⟩
          clear RP ST AV AQ XB HEV HCL HR9 HBK
          have RP := RPn
          have ST := STn
          have AV := AVn
          have AQ := AQn
          have XB := XBn
          have HEV := HEVn
          have HCL := HCLn
          have HR9 := HR9n
          have HBK := HBKn
          clear RPn STn AVn AQn XBn HEVn HCLn HR9n HBKn
          have hcell3 : wc.drew.cell? (ad.add j) = some (.slice A0 p.length cc0) := HCL.out.now
          clear hcell3 HBC HBX HE0 HOC HOV HCUR HCO
          have hns := ne_self_i (r.length : Int)
          go_wp2_with (first | (go_at_call 26; refine (basculeref01_Both.calls A4 c4 a A0 cc0 p y _ AV.out.now HC4.out HEV.out.now HLE.out ((both_f (by have := HAB.out.2; have := HP5.out; omega)).trans (congrArg some HY.out))).mono ?_; rintro e wd ⟨vd, rfl, ho0, HBd⟩; obtain ⟨Ad, cd, rfl, hcd, hvd⟩ := Ever.made (M := fun k => k < wc.drew.heap.size) ho0 (fun k h => h); have HCD := Aside0.mk hcd; have RPn : Aside0 (RowE (Kd.slice 5 (Kd.int .u8)) (fun k => w.heap.size ≤ k) wd (some ad) n ls) := ⟨RP.out.step (.of_below HBd)⟩; have STn : Aside0 (St (fun k => k = g ∨ k = bo) wd g r true) := ⟨ST.out.below HBd⟩; have AVn : Aside0 (Ever (fun k => k < wc.drew.heap.size ∨ wd.heap.size ≤ k) wd (fun W => Kd.C (Kd.int .u8) W Ad (y).length (y))) := ⟨hvd.grow (Ext.refl _ _) (fun k h => h)⟩; have AQn : Aside0 ((fun k => k < wc.drew.heap.size ∨ wd.heap.size ≤ k) g ∧ ∀ k, wd.heap.size ≤ k → (fun k => k < wc.drew.heap.size ∨ wd.heap.size ≤ k) k) := ⟨⟨.inl ST.out.lt, fun k h => .inr h⟩⟩; have XBn : Aside0 (Below w.heap.size w wd) := ⟨below_step XB.out HBd⟩; have HEVn : Aside0 (Ever (fun k => w.heap.size ≤ k) wd (fun W => Kd.C (Kd.int .u8) W A0 p.length p)) := ⟨HEV.out.step (.of_below HBd)⟩; have HCLn : Aside0 (Ever (fun k => w.heap.size ≤ k) wd (fun W => W.cell? (ad.add j) = some (.slice A0 p.length cc0))) := ⟨HCL.out.step (.of_below HBd)⟩; have HR9n : Aside0 (Ever (fun _ => False) wd (fun W => Kd.C PZ.k37 W A9 fs.length fs)) := ⟨HR9.out.step (.of_below HBd)⟩; have HBKn : Aside0 (0 < p.length → ∃ cur, Ao = some ⟨bo, 0, none⟩ ∧ wd.heap[bo]? = some (.cells cur 5 (0, 0)) ∧ p.length ≤ cur.size) := ⟨fun h => by obtain ⟨cur, h1, h2, h3⟩ := HBK.out h; exact ⟨cur, h1, (HBd.block bo (blk_lt h2)).trans h2, h3⟩⟩; clear RP ST AV AQ XB HEV HCL HR9 HBK; have RP := RPn; have ST := STn; have AV := AVn; have AQ := AQn; have XB := XBn; have HEV := HEVn; have HCL := HCLn; have HR9 := HR9n; have HBK := HBKn; clear RPn STn AVn AQn XBn HEVn HCLn HR9n HBKn; clear ho0 hcd hvd HBd) | (go_at_call 27; refine (all_c (fun _ => False) Ad cd y _ (fun k h => h.elim) (AV.out.grow (Ext.refl _ _) (fun k h => h.elim)) HCD.out HBA.out (by have := HAL.out; omega) K (by have := HAL.out; have := HK.out; omega) zs r true HALL.out).mono ?_; rintro e we ⟨v10, rfl, ⟨Aw, cw, rfl, hcw, hrw⟩, HBe⟩; have HCW := Aside0.mk hcw; have RPn : Aside0 (RowE (Kd.slice 5 (Kd.int .u8)) (fun k => w.heap.size ≤ k) we (some ad) n ls) := ⟨RP.out.step (.of_below HBe)⟩; have STn : Aside0 (St (fun k => k = g ∨ k = bo) we g r true) := ⟨ST.out.below HBe⟩; have AVn : Aside0 (Ever (fun k => k < wc.drew.heap.size ∨ wd.heap.size ≤ k) we (fun W => Kd.C (Kd.int .u8) W Ad (y).length (y))) := ⟨AV.out.step (.of_below HBe)⟩; have AQn : Aside0 ((fun k => k < wc.drew.heap.size ∨ wd.heap.size ≤ k) g ∧ ∀ k, we.heap.size ≤ k → (fun k => k < wc.drew.heap.size ∨ wd.heap.size ≤ k) k) := ⟨⟨AQ.out.1, fun k h => AQ.out.2 k (Nat.le_trans HBe.size h)⟩⟩; have XBn : Aside0 (Below w.heap.size w we) := ⟨below_step XB.out HBe⟩; have HEVn : Aside0 (Ever (fun k => w.heap.size ≤ k) we (fun W => Kd.C (Kd.int .u8) W A0 p.length p)) := ⟨HEV.out.step (.of_below HBe)⟩; have HCLn : Aside0 (Ever (fun k => w.heap.size ≤ k) we (fun W => W.cell? (ad.add j) = some (.slice A0 p.length cc0))) := ⟨HCL.out.step (.of_below HBe)⟩; have HR9n : Aside0 (Ever (fun _ => False) we (fun W => Kd.C PZ.k37 W A9 fs.length fs)) := ⟨HR9.out.step (.of_below HBe)⟩; have HBKn : Aside0 (0 < p.length → ∃ cur, Ao = some ⟨bo, 0, none⟩ ∧ we.heap[bo]? = some (.cells cur 5 (0, 0)) ∧ p.length ≤ cur.size) := ⟨fun h => by obtain ⟨cur, h1, h2, h3⟩ := HBK.out h; exact ⟨cur, h1, (HBe.block bo (blk_lt h2)).trans h2, h3⟩⟩; clear RP ST AV AQ XB HEV HCL HR9 HBK; have RP := RPn; have ST := STn; have AV := AVn; have AQ := AQn; have XB := XBn; have HEV := HEVn; have HCL := HCLn; have HR9 := HR9n; have HBK := HBKn; clear RPn STn AVn AQn XBn HEVn HCLn HR9n HBKn; obtain ⟨As, cs, hcut, hsv⟩ := cut_rows HZ.out hrw.ever hcw; have HSV := Aside0.mk hsv; clear hcw hrw hsv HBe) | (go_at_call 28; refine (same_true A9 As c9 cs fs _ ⟨HR9.out.now⟩ ⟨HSV.out.now⟩).mono ?_; rintro e w' ⟨rfl, ⟨nd, rfl⟩⟩; have HBf : Below we.heap.size we (we.drewN nd) := pw_below_drewN (Below.refl _ _) nd; obtain ⟨wf, hwf⟩ : ∃ W, we.drewN nd = W := ⟨_, rfl⟩; rw [hwf] at HBf ⊢; have RPn : Aside0 (RowE (Kd.slice 5 (Kd.int .u8)) (fun k => w.heap.size ≤ k) wf (some ad) n ls) := ⟨RP.out.step (.of_below HBf)⟩; have STn : Aside0 (St (fun k => k = g ∨ k = bo) wf g r true) := ⟨ST.out.below HBf⟩; have AVn : Aside0 (Ever (fun k => k < wc.drew.heap.size ∨ wd.heap.size ≤ k) wf (fun W => Kd.C (Kd.int .u8) W Ad (y).length (y))) := ⟨AV.out.step (.of_below HBf)⟩; have AQn : Aside0 ((fun k => k < wc.drew.heap.size ∨ wd.heap.size ≤ k) g ∧ ∀ k, wf.heap.size ≤ k → (fun k => k < wc.drew.heap.size ∨ wd.heap.size ≤ k) k) := ⟨⟨AQ.out.1, fun k h => AQ.out.2 k (Nat.le_trans HBf.size h)⟩⟩; have XBn : Aside0 (Below w.heap.size w wf) := ⟨below_step XB.out HBf⟩; have HEVn : Aside0 (Ever (fun k => w.heap.size ≤ k) wf (fun W => Kd.C (Kd.int .u8) W A0 p.length p)) := ⟨HEV.out.step (.of_below HBf)⟩; have HCLn : Aside0 (Ever (fun k => w.heap.size ≤ k) wf (fun W => W.cell? (ad.add j) = some (.slice A0 p.length cc0))) := ⟨HCL.out.step (.of_below HBf)⟩; have HR9n : Aside0 (Ever (fun _ => False) wf (fun W => Kd.C PZ.k37 W A9 fs.length fs)) := ⟨HR9.out.step (.of_below HBf)⟩; have HBKn : Aside0 (0 < p.length → ∃ cur, Ao = some ⟨bo, 0, none⟩ ∧ wf.heap[bo]? = some (.cells cur 5 (0, 0)) ∧ p.length ≤ cur.size) := ⟨fun h => by obtain ⟨cur, h1, h2, h3⟩ := HBK.out h; exact ⟨cur, h1, (HBf.block bo (blk_lt h2)).trans h2, h3⟩⟩; have HSVn : Aside0 (Ever (fun _ => False) wf (fun W => Kd.C PZ.k37 W As fs.length fs)) := ⟨HSV.out.step (.of_below HBf)⟩; clear RP ST AV AQ XB HEV HCL HR9 HBK HSV; have RP := RPn; have ST := STn; have AV := AVn; have AQ := AQn; have XB := XBn; have HEV := HEVn; have HCL := HCLn; have HR9 := HR9n; have HBK := HBKn; have HSV := HSVn; clear RPn STn AVn AQn XBn HEVn HCLn HR9n HBKn HSVn; clear HBf hwf) | (go_at_call 25; refine (left_any _ g r true _ ST.out.out).mono ?_; rintro e w' ⟨rfl, hw_⟩; rw [hw_]; clear hw_))
          have QB : Aside0 ((fun k => k < wc.drew.heap.size ∨ wd.heap.size ≤ k) bo) := ⟨.inl (Nat.lt_of_lt_of_le HBL.out HSZ.out)⟩
          go_loopw [14] (fun v14 wr => ∃ (k : Nat), k ≤ p.length ∧ v14 = .int .i64 k ∧ Aside0 (RowE (Kd.slice 5 (Kd.int .u8)) (fun k => w.heap.size ≤ k) wr (some ad) n ls) ∧ Aside0 (St (fun k => k = g ∨ k = bo) wr g r true) ∧ Aside0 (Ever (fun k => k < wc.drew.heap.size ∨ wd.heap.size ≤ k) wr (fun W => Kd.C (Kd.int .u8) W Ad (y).length (y))) ∧ Aside0 ((fun k => k < wc.drew.heap.size ∨ wd.heap.size ≤ k) g ∧ ∀ k, wr.heap.size ≤ k → (fun k => k < wc.drew.heap.size ∨ wd.heap.size ≤ k) k) ∧ Aside0 (Below w.heap.size w wr) ∧ Aside0 (0 < p.length → ∃ cur, Ao = some ⟨bo, 0, none⟩ ∧ wr.heap[bo]? = some (.cells cur 5 (0, 0)) ∧ p.length ≤ cur.size)) (fun v14 _ => p.length - (intOf v14).toNat)
          case atStart => exact ⟨0, by omega, rfl, RP, ST, AV, AQ, XB, HBK⟩
          case round =>
            clear RP ST AV AQ XB HBK HR9 HSV HEV HCL
            obtain ⟨k, hk, rfl, RP, ST, AV, AQ, XB, HBK⟩ := hrel
            by_cases hlk : k < p.length
            · have t3 : decide (k < p.length) = true := decide_eq_true hlk
              have t4 : decide ((k : Int) < (p.length : Int)) = true := decide_eq_true (by omega)
              have hk0 : (0 : Int) ≤ (k : Int) := (by omega); have hk1 : (k : Int) < (p.length : Int) := (by omega); have hk2 : (k < p.length) = True := eq_true hlk
              obtain ⟨cur, e_, hbk, hcs, ⟨u0, hcu⟩, hfz⟩ := bcont HBK.out hlk
              cases e_
              have HLK := Aside0.mk hlk; have HCS := Aside0.mk hcs; have HBC := Aside0.mk hbk
              clear hcs hlk hk hbk
              go_wp2_with (((with_reducible refine gate_store (p := 109) rfl ?_); refine store_event (w1 := wr.setCell ⟨bo, k, none⟩ (.int .u8 9)) rfl (p := 109) rfl rfl ?hr ?_; (case hr => first | (go_simp; done) | (go_simp; rfl)); intro wh hw_; obtain ⟨cur2, hb2, hs2, HEh⟩ := put_at (v := .int .u8 9) hw_ HBC.out (by have := HLK.out; have := HCS.out; omega); clear hw_; have RPn : Aside0 (RowE (Kd.slice 5 (Kd.int .u8)) (fun k => w.heap.size ≤ k) wh (some ad) n ls) := ⟨RP.out.step (HEh.sub (fun k e => by rw [show k = bo from e]; exact HBO.out.1))⟩; have STn : Aside0 (St (fun k => k = g ∨ k = bo) wh g r true) := ⟨ST.out.ext HEh (fun k e => .inr e) NGB.out⟩; have AVn : Aside0 (Ever (fun k => k < wc.drew.heap.size ∨ wd.heap.size ≤ k) wh (fun W => Kd.C (Kd.int .u8) W Ad (y).length (y))) := ⟨AV.out.step (HEh.sub (fun k e => by rw [show k = bo from e]; exact QB.out))⟩; have AQn : Aside0 ((fun k => k < wc.drew.heap.size ∨ wd.heap.size ≤ k) g ∧ ∀ k, wh.heap.size ≤ k → (fun k => k < wc.drew.heap.size ∨ wd.heap.size ≤ k) k) := ⟨⟨AQ.out.1, fun k h => AQ.out.2 k (Nat.le_trans HEh.size h)⟩⟩; have XBn : Aside0 (Below w.heap.size w wh) := ⟨((Ext.of_below (M := fun j => w.heap.size ≤ j) XB.out).grow HEh (fun k e => .inl (by rw [show k = bo from e]; exact HBO.out.1))).below (fun _ h => h)⟩; have HBKn : Aside0 (0 < p.length → ∃ cur, (some (⟨bo, 0, none⟩ : Addr)) = some ⟨bo, 0, none⟩ ∧ wh.heap[bo]? = some (.cells cur 5 (0, 0)) ∧ p.length ≤ cur.size) := ⟨fun _ => ⟨cur2, rfl, hb2, by have := HCS.out; omega⟩⟩; clear RP ST AV AQ XB HBK; have RP := RPn; have ST := STn; have AV := AVn; have AQ := AQn; have XB := XBn; have HBK := HBKn; clear RPn STn AVn AQn XBn HBKn; clear hb2 hs2 HEh))
              go_roundw
              case rel => exact ⟨k + 1, HLK.out, (by first | exact relb HLK.out (by have := HP5.out; omega) | go_num), RP, ST, AV, AQ, XB, ⟨fun h => by obtain ⟨c, h1, h2, h3⟩ := HBK.out h; first | exact ⟨c, h1, h2, h3⟩ | exact ⟨c, trivial, h2, h3⟩⟩⟩
              case measure => first | exact measb HLK.out (by have := HP5.out; omega) | (have := HLK.out; simp [intOf]; omega)
            · have t3 : decide (k < p.length) = false := decide_eq_false hlk
              have t4 : decide ((k : Int) < (p.length : Int)) = false := decide_eq_false (by omega)
              go_wp2_with (fail)
              go_roundw
              case rel => exact ⟨j + 1, Ad, cd, y, r, zs, true, _, HJ.out, rfl, rfl, rfl, (by first | exact relb HJ.out (by have := HML.out; omega) | go_num), HCD, HI1, RP, ⟨ST.out.sub (fun k e => .inl e)⟩, AV, AQ, XB⟩
              case measure => first | exact measb HJ.out (by have := HML.out; omega) | (have := HJ.out; simp [intOf]; omega)
        | false =>
          go_upto_region 14 with (first | ((with_reducible refine gate_dst (N := 27) rfl ?_); refine bs_event ?hg (N := 27) ?hd (cs := #[]) (t := 5) (n := 0) ?hr ?_; (case hd => rfl); (case hg => rfl); (case hr => first | (go_simp; done) | (go_simp; rfl)); intro e0 he0 wa hbox HBc; have hcw : wa.cell? (ad.add j) = some (.slice A0 p.length cc0) := (HBc.cell (World.block_lt_of_cell? wr _ hcell)).trans hcell; have HEA : Aside0 (Ever (fun k => w.heap.size ≤ k) wa (fun W => Kd.C (Kd.int .u8) W A0 p.length p)) := ⟨HEV.out.step (.of_below HBc)⟩; have HBX := Aside0.mk hbox; have HBC := Aside0.mk HBc; have HE0 := Aside0.mk he0; clear hbox HBc he0) | ((with_reducible refine gate_builtin (b := .append) (xs := #[.tmp 27, .tmp 31]) rfl ?_); refine ev_append_rows (M := fun _ => False) (Kd.int .u8) (w0 := wa) e0 rfl (.tmp 27) (.tmp 31) 22 5 (.int .u8 0) 1 rfl Try.underlying22 PZ.info5 rfl (by decide) (by decide) (.slice (some ⟨e0, 0, none⟩) 0 0) [] p A0 p.length cc0 rfl rfl (OwnE_empty _ _ 5 e0 HBX.out (Nat.le_refl _)) (RowE.elems ((rowE_int HEA.out).grow (Ext.refl _ _) (fun k hk => by rcases hk with (hk | hk); exact hk.elim; exact .inl (by have hk2 : k = e0 := (by simpa [Value.ownBlock] using hk); rw [hk2, HE0.out]; exact below_size XB.out)))) (Below.refl _ _) (Nat.le_of_lt (blk_lt HBX.out)) (by have := HP5.out; simp only [List.length_nil]; omega) ?_; intro v1 wb HO1 HB1 _ _; rw [List.nil_append] at HO1; have hBB : Below wr.heap.size wr wb := below_tr HBC.out (by have h := HB1; rw [HE0.out] at h; exact h); obtain ⟨bo, Ao, co, rfl, hco, hbo, hbl, hcur⟩ := own_blk HO1 (by have h1 := blk_lt HBX.out; have h2 := HB1.size; omega); obtain ⟨Ao', co', e_, _, hov⟩ := own_view HO1 (fun k => k = g) (fun k e => by rw [e, HE0.out]; exact ST.out.lt); cases e_; have hgb : g ≠ bo := (fun e => by have h1 := ST.out.lt; have h2 := HE0.out; omega); have NGB := Aside0.mk hgb; have HOV := Aside0.mk hov; have HCO := Aside0.mk hco; have HCUR := Aside0.mk hcur; have HBO : Aside0 (w.heap.size ≤ bo ∧ wr.heap.size ≤ bo) := ⟨by have h1 := below_size XB.out; have h2 := HE0.out; constructor <;> omega⟩; have HBL := Aside0.mk hbl; have HPV := HEV; clear HEV; have HEV := HPV; clear HPV; have STg : Aside0 (St (fun k => k = g ∨ k = bo) wr g rest false) := ⟨ST.out.grow (fun k e => e.elim .inl (fun e => .inr (by rw [e]; exact HBO.out.2)))⟩; clear ST; have ST := STg; clear STg; have RPn : Aside0 (RowE (Kd.slice 5 (Kd.int .u8)) (fun k => w.heap.size ≤ k) wb (some ad) n ls) := ⟨RP.out.step (.of_below hBB)⟩; have STn : Aside0 (St (fun k => k = g ∨ k = bo) wb g rest false) := ⟨ST.out.below hBB⟩; have AVn : Aside0 (Ever (Q) wb (fun W => Kd.C (Kd.int .u8) W A4 (a).length (a))) := ⟨AV.out.step (.of_below hBB)⟩; have AQn : Aside0 ((Q) g ∧ ∀ k, wb.heap.size ≤ k → (Q) k) := ⟨⟨AQ.out.1, fun k h => AQ.out.2 k (Nat.le_trans hBB.size h)⟩⟩; have XBn : Aside0 (Below w.heap.size w wb) := ⟨below_step XB.out hBB⟩; have HEVn : Aside0 (Ever (fun k => w.heap.size ≤ k) wb (fun W => Kd.C (Kd.int .u8) W A0 p.length p)) := ⟨HEV.out.step (.of_below hBB)⟩; have HCLn : Aside0 (Ever (fun k => w.heap.size ≤ k) wb (fun W => W.cell? (ad.add j) = some (.slice A0 p.length cc0))) := ⟨HCL.out.step (.of_below hBB)⟩; clear RP ST AV AQ XB HEV HCL; have RP := RPn; have ST := STn; have AV := AVn; have AQ := AQn; have XB := XBn; have HEV := HEVn; have HCL := HCLn; clear RPn STn AVn AQn XBn HEVn HCLn; have hcell2 : wb.cell? (ad.add j) = some (.slice A0 p.length cc0) := HCL.out.now; clear hcw hcell hBB HB1 HO1 hov hco hcur hgb hbl hbo HEA) | (go_at_call 24; refine (sfeed2 (fun k => k = g ∨ k = bo) g rest p Ao co _ (.inl rfl) (fun k e => e.elim (fun e => by rw [e]; exact ST.out.lt) (fun e => by rw [e]; exact HBL.out)) ST.out.out HOV.out.now HBR.out HBP.out (by have := HRL.out; omega) (by have := HP5.out; omega) K (by have := HRL.out; have := HP5.out; have := HK.out; omega) fs r false HR.out).mono ?_; rintro e wc ⟨v9, rfl, HRow, HSt, HEc⟩; obtain ⟨A9, c9, rfl, hc9, hr9⟩ := HRow; have HOC : Aside0 (Kd.C (Kd.int .u8) wc Ao p.length p) := ⟨HOV.out.at_ _ HEc⟩; have HR9 : Aside0 (Ever (fun _ => False) wc (fun W => Kd.C PZ.k37 W A9 fs.length fs)) := ⟨hr9.ever.grow (Ext.refl _ _) (fun k h => h.elim)⟩; have HBK : Aside0 (0 < p.length → ∃ cur, Ao = some ⟨bo, 0, none⟩ ∧ wc.heap[bo]? = some (.cells cur 5 (0, 0)) ∧ p.length ≤ cur.size) := ⟨fun h => by obtain ⟨cur, h1, h2, h3⟩ := HCUR.out h; exact ⟨cur, h1, Ext.blk HEc h2 (fun e => NGB.out e.symm), h3⟩⟩; have RPn : Aside0 (RowE (Kd.slice 5 (Kd.int .u8)) (fun k => w.heap.size ≤ k) wc (some ad) n ls) := ⟨RP.out.step (HEc.sub (fun k e => by rw [show k = g from e]; exact RG.out))⟩; have STn : Aside0 (St (fun k => k = g ∨ k = bo) wc g r false) := ⟨⟨HSt⟩⟩; have AVn : Aside0 (Ever (Q) wc (fun W => Kd.C (Kd.int .u8) W A4 (a).length (a))) := ⟨AV.out.step (HEc.sub (fun k e => by rw [show k = g from e]; exact AQ.out.1))⟩; have AQn : Aside0 ((Q) g ∧ ∀ k, wc.heap.size ≤ k → (Q) k) := ⟨⟨AQ.out.1, fun k h => AQ.out.2 k (Nat.le_trans HEc.size h)⟩⟩; have XBn : Aside0 (Below w.heap.size w wc) := ⟨((Ext.of_below (M := fun j => w.heap.size ≤ j) XB.out).grow HEc (fun k e => .inl (by rw [show k = g from e]; exact RG.out))).below (fun _ h => h)⟩; clear RP ST AV AQ XB; have RP := RPn; have ST := STn; have AV := AVn; have AQ := AQn; have XB := XBn; clear RPn STn AVn AQn XBn; have HEVn : Aside0 (Ever (fun k => w.heap.size ≤ k) wc (fun W => Kd.C (Kd.int .u8) W A0 p.length p)) := ⟨HEV.out.step (HEc.sub (fun k e => by rw [show k = g from e]; exact RG.out))⟩; clear HEV; have HEV := HEVn; clear HEVn; have HCLn : Aside0 (Ever (fun k => w.heap.size ≤ k) wc (fun W => W.cell? (ad.add j) = some (.slice A0 p.length cc0))) := ⟨HCL.out.step (HEc.sub (fun k e => by rw [show k = g from e]; exact RG.out))⟩; clear HCL; have HCL := HCLn; clear HCLn; have hcl3 : wc.cell? (ad.add j) = some (.slice A0 p.length cc0) := HCL.out.now; have HSZ : Aside0 (wb.heap.size ≤ wc.drew.heap.size) := ⟨HEc.size⟩; clear HEc HSt hr9 hc9 hcell2))
          refine start_ (n := 8) (S := fun W => Sem.run Try.prog (convert 22 9 (.slice Ao p.length co)) W = .ok (.string (strOfNums p)) W ∧ W.cell? (ad.add j) = some (.slice A0 p.length cc0) ∧ Sem.run Try.prog (convert 22 9 (.slice A0 p.length cc0)) W = .ok (.string (strOfNums p)) W) (ds := []) #[false, false, false, false, false, false, false, false] (by kernel_rfl) rfl rfl ?_ (fun hHeld => ?_)
          · exact ⟨string_of_reads (P := Try.prog) (c := co) Try.underlying22 Try.underlying5 Try.underlying9 (Kd.reads_of_C (Kd.C_drew HOC.out)), HCL.out.now, string_of_reads (P := Try.prog) (c := cc0) Try.underlying22 Try.underlying5 Try.underlying9 (Kd.reads_of_C (Kd.C_drew HEV.out.now))⟩
          refine pure_ (i := 0) (N := some 39) (v := ?_) (a' := ?_) #[true, false, false, false, false, false, false, false] rfl rfl (by kernel_rfl) (fun _ _ _ h => h) (Or.inl ⟨by rfl, ?_⟩) ?_ ?_
          rotate_left
          · intro w'
            go_simp
            with_reducible rfl
          rotate_left
          · simp only [Act.put, List.setIfInBounds_toArray, List.set_cons_zero, List.set_cons_succ, i64_w, i32_w]
            rfl
          refine take_ (i := 1) (N := some 40) (v := ?_) (a' := ?_) #[true, true, false, false, false, false, false, false] rfl rfl (by kernel_rfl) (fun _ _ _ h => h) (Or.inl ⟨by rfl, ?_⟩) hHeld ?_ ?_
          rotate_left
          · rintro w' ⟨s0, s1, s2⟩
            go_simp
            with_reducible rfl
          rotate_left
          · simp only [Act.put, List.setIfInBounds_toArray, List.set_cons_zero, List.set_cons_succ, i64_w, i32_w]
            rfl
          refine pure_ (i := 2) (N := some 41) (v := ?_) (a' := ?_) #[true, true, true, false, false, false, false, false] rfl rfl (by kernel_rfl) (fun _ _ _ h => h) (Or.inl ⟨by rfl, ?_⟩) ?_ ?_
          rotate_left
          · intro w'
            go_simp
            with_reducible rfl
          rotate_left
          · simp only [Act.put, List.setIfInBounds_toArray, List.set_cons_zero, List.set_cons_succ, i64_w, i32_w]
            rfl
          refine pure_ (i := 3) (N := some 42) (v := ?_) (a' := ?_) #[true, true, true, true, false, false, false, false] rfl rfl (by kernel_rfl) (fun _ _ _ h => h) (Or.inl ⟨by rfl, ?_⟩) ?_ ?_
          rotate_left
          · intro w'
            go_simp
            with_reducible rfl
          rotate_left
          · simp only [Act.put, List.setIfInBounds_toArray, List.set_cons_zero, List.set_cons_succ, i64_w, i32_w]
            rfl
          refine take_ (i := 4) (N := some 43) (v := ?_) (a' := ?_) #[true, true, true, true, true, false, false, false] rfl rfl (by kernel_rfl) (fun _ _ _ h => h) (Or.inl ⟨by rfl, ?_⟩) hHeld ?_ ?_
          rotate_left
          · rintro w' ⟨s0, s1, s2⟩
            go_simp
            with_reducible rfl
          rotate_left
          · simp only [Act.put, List.setIfInBounds_toArray, List.set_cons_zero, List.set_cons_succ, i64_w, i32_w]
            rfl
          refine take_ (i := 5) (N := some 44) (v := ?_) (a' := ?_) #[true, true, true, true, true, true, false, false] rfl rfl (by kernel_rfl) (fun _ _ _ h => h) (Or.inl ⟨by rfl, ?_⟩) hHeld ?_ ?_
          rotate_left
          · rintro w' ⟨s0, s1, s2⟩
            go_simp
            with_reducible rfl
          rotate_left
          · simp only [Act.put, List.setIfInBounds_toArray, List.set_cons_zero, List.set_cons_succ, i64_w, i32_w]
            rfl
          refine take_ (i := 6) (N := some 45) (v := ?_) (a' := ?_) #[true, true, true, true, true, true, true, false] rfl rfl (by kernel_rfl) (fun _ _ _ h => h) (Or.inl ⟨by rfl, ?_⟩) hHeld ?_ ?_
          rotate_left
          · rintro w' ⟨s0, s1, s2⟩
            go_simp
            with_reducible rfl
          rotate_left
          · simp only [Act.put, List.setIfInBounds_toArray, List.set_cons_zero, List.set_cons_succ, i64_w, i32_w]
            rfl
          refine pure_ (i := 7) (N := some 46) (v := ?_) (a' := ?_) #[true, true, true, true, true, true, true, true] rfl rfl (by kernel_rfl) (fun _ _ _ h => h) (Or.inl ⟨by rfl, ?_⟩) ?_ ?_
          rotate_left
          · intro w'
            go_simp
            with_reducible rfl
          rotate_left
          · simp only [Act.put, List.setIfInBounds_toArray, List.set_cons_zero, List.set_cons_succ, i64_w, i32_w]
            rfl
          refine done_ (by kernel_rfl) ?_
          have HBD : Below wc.heap.size wc wc.drew := below_drew1 (Below.refl _ _)
          have RPn : Aside0 (RowE (Kd.slice 5 (Kd.int .u8)) (fun k => w.heap.size ≤ k) wc.drew (some ad) n ls) := ⟨RP.out.step (.of_below HBD)⟩
          have STn : Aside0 (St (fun k => k = g ∨ k = bo) wc.drew g r false) := ⟨ST.out.below HBD⟩
          have AVn : Aside0 (Ever (Q) wc.drew (fun W => Kd.C (Kd.int .u8) W A4 (a).length (a))) := ⟨AV.out.step (.of_below HBD)⟩
          have AQn : Aside0 ((Q) g ∧ ∀ k, wc.drew.heap.size ≤ k → (Q) k) := ⟨⟨AQ.out.1, fun k h => AQ.out.2 k (Nat.le_trans HBD.size h)⟩⟩
          have XBn : Aside0 (Below w.heap.size w wc.drew) := ⟨below_step XB.out HBD⟩
          have HEVn : Aside0 (Ever (fun k => w.heap.size ≤ k) wc.drew (fun W => Kd.C (Kd.int .u8) W A0 p.length p)) := ⟨HEV.out.step (.of_below HBD)⟩
          have HCLn : Aside0 (Ever (fun k => w.heap.size ≤ k) wc.drew (fun W => W.cell? (ad.add j) = some (.slice A0 p.length cc0))) := ⟨HCL.out.step (.of_below HBD)⟩
          have HR9n : Aside0 (Ever (fun _ => False) wc.drew (fun W => Kd.C PZ.k37 W A9 fs.length fs)) := ⟨HR9.out.step (.of_below HBD)⟩
          have HBKn : Aside0 (0 < p.length → ∃ cur, Ao = some ⟨bo, 0, none⟩ ∧ wc.drew.heap[bo]? = some (.cells cur 5 (0, 0)) ∧ p.length ≤ cur.size) := ⟨fun h => by obtain ⟨cur, h1, h2, h3⟩ := HBK.out h; exact ⟨cur, h1, (HBD.block bo (blk_lt h2)).trans h2, h3⟩⟩
          clear RP ST AV AQ XB HEV HCL HR9 HBK
          have RP := RPn
          have ST := STn
          have AV := AVn
          have AQ := AQn
          have XB := XBn
          have HEV := HEVn
          have HCL := HCLn
          have HR9 := HR9n
          have HBK := HBKn
          clear RPn STn AVn AQn XBn HEVn HCLn HR9n HBKn
          have hcell3 : wc.drew.cell? (ad.add j) = some (.slice A0 p.length cc0) := HCL.out.now
          clear hcell3 HBC HBX HE0 HOC HOV HCUR HCO
          have hns := ne_self_i (r.length : Int)
          go_wp2_with (first | (go_at_call 26; refine (basculeref01_Both.calls A4 c4 a A0 cc0 p y _ AV.out.now HC4.out HEV.out.now HLE.out ((both_f (by have := HAB.out.2; have := HP5.out; omega)).trans (congrArg some HY.out))).mono ?_; rintro e wd ⟨vd, rfl, ho0, HBd⟩; obtain ⟨Ad, cd, rfl, hcd, hvd⟩ := Ever.made (M := fun k => k < wc.drew.heap.size) ho0 (fun k h => h); have HCD := Aside0.mk hcd; have RPn : Aside0 (RowE (Kd.slice 5 (Kd.int .u8)) (fun k => w.heap.size ≤ k) wd (some ad) n ls) := ⟨RP.out.step (.of_below HBd)⟩; have STn : Aside0 (St (fun k => k = g ∨ k = bo) wd g r false) := ⟨ST.out.below HBd⟩; have AVn : Aside0 (Ever (fun k => k < wc.drew.heap.size ∨ wd.heap.size ≤ k) wd (fun W => Kd.C (Kd.int .u8) W Ad (y).length (y))) := ⟨hvd.grow (Ext.refl _ _) (fun k h => h)⟩; have AQn : Aside0 ((fun k => k < wc.drew.heap.size ∨ wd.heap.size ≤ k) g ∧ ∀ k, wd.heap.size ≤ k → (fun k => k < wc.drew.heap.size ∨ wd.heap.size ≤ k) k) := ⟨⟨.inl ST.out.lt, fun k h => .inr h⟩⟩; have XBn : Aside0 (Below w.heap.size w wd) := ⟨below_step XB.out HBd⟩; have HEVn : Aside0 (Ever (fun k => w.heap.size ≤ k) wd (fun W => Kd.C (Kd.int .u8) W A0 p.length p)) := ⟨HEV.out.step (.of_below HBd)⟩; have HCLn : Aside0 (Ever (fun k => w.heap.size ≤ k) wd (fun W => W.cell? (ad.add j) = some (.slice A0 p.length cc0))) := ⟨HCL.out.step (.of_below HBd)⟩; have HR9n : Aside0 (Ever (fun _ => False) wd (fun W => Kd.C PZ.k37 W A9 fs.length fs)) := ⟨HR9.out.step (.of_below HBd)⟩; have HBKn : Aside0 (0 < p.length → ∃ cur, Ao = some ⟨bo, 0, none⟩ ∧ wd.heap[bo]? = some (.cells cur 5 (0, 0)) ∧ p.length ≤ cur.size) := ⟨fun h => by obtain ⟨cur, h1, h2, h3⟩ := HBK.out h; exact ⟨cur, h1, (HBd.block bo (blk_lt h2)).trans h2, h3⟩⟩; clear RP ST AV AQ XB HEV HCL HR9 HBK; have RP := RPn; have ST := STn; have AV := AVn; have AQ := AQn; have XB := XBn; have HEV := HEVn; have HCL := HCLn; have HR9 := HR9n; have HBK := HBKn; clear RPn STn AVn AQn XBn HEVn HCLn HR9n HBKn; clear ho0 hcd hvd HBd) | (go_at_call 27; refine (all_c (fun _ => False) Ad cd y _ (fun k h => h.elim) (AV.out.grow (Ext.refl _ _) (fun k h => h.elim)) HCD.out HBA.out (by have := HAL.out; omega) K (by have := HAL.out; have := HK.out; omega) zs r false HALL.out).mono ?_; rintro e we ⟨v10, rfl, ⟨Aw, cw, rfl, hcw, hrw⟩, HBe⟩; have HCW := Aside0.mk hcw; have RPn : Aside0 (RowE (Kd.slice 5 (Kd.int .u8)) (fun k => w.heap.size ≤ k) we (some ad) n ls) := ⟨RP.out.step (.of_below HBe)⟩; have STn : Aside0 (St (fun k => k = g ∨ k = bo) we g r false) := ⟨ST.out.below HBe⟩; have AVn : Aside0 (Ever (fun k => k < wc.drew.heap.size ∨ wd.heap.size ≤ k) we (fun W => Kd.C (Kd.int .u8) W Ad (y).length (y))) := ⟨AV.out.step (.of_below HBe)⟩; have AQn : Aside0 ((fun k => k < wc.drew.heap.size ∨ wd.heap.size ≤ k) g ∧ ∀ k, we.heap.size ≤ k → (fun k => k < wc.drew.heap.size ∨ wd.heap.size ≤ k) k) := ⟨⟨AQ.out.1, fun k h => AQ.out.2 k (Nat.le_trans HBe.size h)⟩⟩; have XBn : Aside0 (Below w.heap.size w we) := ⟨below_step XB.out HBe⟩; have HEVn : Aside0 (Ever (fun k => w.heap.size ≤ k) we (fun W => Kd.C (Kd.int .u8) W A0 p.length p)) := ⟨HEV.out.step (.of_below HBe)⟩; have HCLn : Aside0 (Ever (fun k => w.heap.size ≤ k) we (fun W => W.cell? (ad.add j) = some (.slice A0 p.length cc0))) := ⟨HCL.out.step (.of_below HBe)⟩; have HR9n : Aside0 (Ever (fun _ => False) we (fun W => Kd.C PZ.k37 W A9 fs.length fs)) := ⟨HR9.out.step (.of_below HBe)⟩; have HBKn : Aside0 (0 < p.length → ∃ cur, Ao = some ⟨bo, 0, none⟩ ∧ we.heap[bo]? = some (.cells cur 5 (0, 0)) ∧ p.length ≤ cur.size) := ⟨fun h => by obtain ⟨cur, h1, h2, h3⟩ := HBK.out h; exact ⟨cur, h1, (HBe.block bo (blk_lt h2)).trans h2, h3⟩⟩; clear RP ST AV AQ XB HEV HCL HR9 HBK; have RP := RPn; have ST := STn; have AV := AVn; have AQ := AQn; have XB := XBn; have HEV := HEVn; have HCL := HCLn; have HR9 := HR9n; have HBK := HBKn; clear RPn STn AVn AQn XBn HEVn HCLn HR9n HBKn; obtain ⟨As, cs, hcut, hsv⟩ := cut_rows HZ.out hrw.ever hcw; have HSV := Aside0.mk hsv; clear hcw hrw hsv HBe) | (go_at_call 28; refine (same_true A9 As c9 cs fs _ ⟨HR9.out.now⟩ ⟨HSV.out.now⟩).mono ?_; rintro e w' ⟨rfl, ⟨nd, rfl⟩⟩; have HBf : Below we.heap.size we (we.drewN nd) := pw_below_drewN (Below.refl _ _) nd; obtain ⟨wf, hwf⟩ : ∃ W, we.drewN nd = W := ⟨_, rfl⟩; rw [hwf] at HBf ⊢; have RPn : Aside0 (RowE (Kd.slice 5 (Kd.int .u8)) (fun k => w.heap.size ≤ k) wf (some ad) n ls) := ⟨RP.out.step (.of_below HBf)⟩; have STn : Aside0 (St (fun k => k = g ∨ k = bo) wf g r false) := ⟨ST.out.below HBf⟩; have AVn : Aside0 (Ever (fun k => k < wc.drew.heap.size ∨ wd.heap.size ≤ k) wf (fun W => Kd.C (Kd.int .u8) W Ad (y).length (y))) := ⟨AV.out.step (.of_below HBf)⟩; have AQn : Aside0 ((fun k => k < wc.drew.heap.size ∨ wd.heap.size ≤ k) g ∧ ∀ k, wf.heap.size ≤ k → (fun k => k < wc.drew.heap.size ∨ wd.heap.size ≤ k) k) := ⟨⟨AQ.out.1, fun k h => AQ.out.2 k (Nat.le_trans HBf.size h)⟩⟩; have XBn : Aside0 (Below w.heap.size w wf) := ⟨below_step XB.out HBf⟩; have HEVn : Aside0 (Ever (fun k => w.heap.size ≤ k) wf (fun W => Kd.C (Kd.int .u8) W A0 p.length p)) := ⟨HEV.out.step (.of_below HBf)⟩; have HCLn : Aside0 (Ever (fun k => w.heap.size ≤ k) wf (fun W => W.cell? (ad.add j) = some (.slice A0 p.length cc0))) := ⟨HCL.out.step (.of_below HBf)⟩; have HR9n : Aside0 (Ever (fun _ => False) wf (fun W => Kd.C PZ.k37 W A9 fs.length fs)) := ⟨HR9.out.step (.of_below HBf)⟩; have HBKn : Aside0 (0 < p.length → ∃ cur, Ao = some ⟨bo, 0, none⟩ ∧ wf.heap[bo]? = some (.cells cur 5 (0, 0)) ∧ p.length ≤ cur.size) := ⟨fun h => by obtain ⟨cur, h1, h2, h3⟩ := HBK.out h; exact ⟨cur, h1, (HBf.block bo (blk_lt h2)).trans h2, h3⟩⟩; have HSVn : Aside0 (Ever (fun _ => False) wf (fun W => Kd.C PZ.k37 W As fs.length fs)) := ⟨HSV.out.step (.of_below HBf)⟩; clear RP ST AV AQ XB HEV HCL HR9 HBK HSV; have RP := RPn; have ST := STn; have AV := AVn; have AQ := AQn; have XB := XBn; have HEV := HEVn; have HCL := HCLn; have HR9 := HR9n; have HBK := HBKn; have HSV := HSVn; clear RPn STn AVn AQn XBn HEVn HCLn HR9n HBKn HSVn; clear HBf hwf) | (go_at_call 25; refine (left_any _ g r false _ ST.out.out).mono ?_; rintro e w' ⟨rfl, hw_⟩; rw [hw_]; clear hw_))
          have QB : Aside0 ((fun k => k < wc.drew.heap.size ∨ wd.heap.size ≤ k) bo) := ⟨.inl (Nat.lt_of_lt_of_le HBL.out HSZ.out)⟩
          go_loopw [14] (fun v14 wr => ∃ (k : Nat), k ≤ p.length ∧ v14 = .int .i64 k ∧ Aside0 (RowE (Kd.slice 5 (Kd.int .u8)) (fun k => w.heap.size ≤ k) wr (some ad) n ls) ∧ Aside0 (St (fun k => k = g ∨ k = bo) wr g r false) ∧ Aside0 (Ever (fun k => k < wc.drew.heap.size ∨ wd.heap.size ≤ k) wr (fun W => Kd.C (Kd.int .u8) W Ad (y).length (y))) ∧ Aside0 ((fun k => k < wc.drew.heap.size ∨ wd.heap.size ≤ k) g ∧ ∀ k, wr.heap.size ≤ k → (fun k => k < wc.drew.heap.size ∨ wd.heap.size ≤ k) k) ∧ Aside0 (Below w.heap.size w wr) ∧ Aside0 (0 < p.length → ∃ cur, Ao = some ⟨bo, 0, none⟩ ∧ wr.heap[bo]? = some (.cells cur 5 (0, 0)) ∧ p.length ≤ cur.size)) (fun v14 _ => p.length - (intOf v14).toNat)
          case atStart => exact ⟨0, by omega, rfl, RP, ST, AV, AQ, XB, HBK⟩
          case round =>
            clear RP ST AV AQ XB HBK HR9 HSV HEV HCL
            obtain ⟨k, hk, rfl, RP, ST, AV, AQ, XB, HBK⟩ := hrel
            by_cases hlk : k < p.length
            · have t3 : decide (k < p.length) = true := decide_eq_true hlk
              have t4 : decide ((k : Int) < (p.length : Int)) = true := decide_eq_true (by omega)
              have hk0 : (0 : Int) ≤ (k : Int) := (by omega); have hk1 : (k : Int) < (p.length : Int) := (by omega); have hk2 : (k < p.length) = True := eq_true hlk
              obtain ⟨cur, e_, hbk, hcs, ⟨u0, hcu⟩, hfz⟩ := bcont HBK.out hlk
              cases e_
              have HLK := Aside0.mk hlk; have HCS := Aside0.mk hcs; have HBC := Aside0.mk hbk
              clear hcs hlk hk hbk
              go_wp2_with (((with_reducible refine gate_store (p := 109) rfl ?_); refine store_event (w1 := wr.setCell ⟨bo, k, none⟩ (.int .u8 9)) rfl (p := 109) rfl rfl ?hr ?_; (case hr => first | (go_simp; done) | (go_simp; rfl)); intro wh hw_; obtain ⟨cur2, hb2, hs2, HEh⟩ := put_at (v := .int .u8 9) hw_ HBC.out (by have := HLK.out; have := HCS.out; omega); clear hw_; have RPn : Aside0 (RowE (Kd.slice 5 (Kd.int .u8)) (fun k => w.heap.size ≤ k) wh (some ad) n ls) := ⟨RP.out.step (HEh.sub (fun k e => by rw [show k = bo from e]; exact HBO.out.1))⟩; have STn : Aside0 (St (fun k => k = g ∨ k = bo) wh g r false) := ⟨ST.out.ext HEh (fun k e => .inr e) NGB.out⟩; have AVn : Aside0 (Ever (fun k => k < wc.drew.heap.size ∨ wd.heap.size ≤ k) wh (fun W => Kd.C (Kd.int .u8) W Ad (y).length (y))) := ⟨AV.out.step (HEh.sub (fun k e => by rw [show k = bo from e]; exact QB.out))⟩; have AQn : Aside0 ((fun k => k < wc.drew.heap.size ∨ wd.heap.size ≤ k) g ∧ ∀ k, wh.heap.size ≤ k → (fun k => k < wc.drew.heap.size ∨ wd.heap.size ≤ k) k) := ⟨⟨AQ.out.1, fun k h => AQ.out.2 k (Nat.le_trans HEh.size h)⟩⟩; have XBn : Aside0 (Below w.heap.size w wh) := ⟨((Ext.of_below (M := fun j => w.heap.size ≤ j) XB.out).grow HEh (fun k e => .inl (by rw [show k = bo from e]; exact HBO.out.1))).below (fun _ h => h)⟩; have HBKn : Aside0 (0 < p.length → ∃ cur, (some (⟨bo, 0, none⟩ : Addr)) = some ⟨bo, 0, none⟩ ∧ wh.heap[bo]? = some (.cells cur 5 (0, 0)) ∧ p.length ≤ cur.size) := ⟨fun _ => ⟨cur2, rfl, hb2, by have := HCS.out; omega⟩⟩; clear RP ST AV AQ XB HBK; have RP := RPn; have ST := STn; have AV := AVn; have AQ := AQn; have XB := XBn; have HBK := HBKn; clear RPn STn AVn AQn XBn HBKn; clear hb2 hs2 HEh))
              go_roundw
              case rel => exact ⟨k + 1, HLK.out, (by first | exact relb HLK.out (by have := HP5.out; omega) | go_num), RP, ST, AV, AQ, XB, ⟨fun h => by obtain ⟨c, h1, h2, h3⟩ := HBK.out h; first | exact ⟨c, h1, h2, h3⟩ | exact ⟨c, trivial, h2, h3⟩⟩⟩
              case measure => first | exact measb HLK.out (by have := HP5.out; omega) | (have := HLK.out; simp [intOf]; omega)
            · have t3 : decide (k < p.length) = false := decide_eq_false hlk
              have t4 : decide ((k : Int) < (p.length : Int)) = false := decide_eq_false (by omega)
              go_wp2_with (fail)
              go_roundw
              case rel => exact ⟨j + 1, Ad, cd, y, r, zs, false, _, HJ.out, rfl, rfl, rfl, (by first | exact relb HJ.out (by have := HML.out; omega) | go_num), HCD, HI1, RP, ⟨ST.out.sub (fun k e => .inl e)⟩, AV, AQ, XB⟩
              case measure => first | exact measb HJ.out (by have := HML.out; omega) | (have := HJ.out; simp [intOf]; omega)
    · have t1 : decide (j < n) = false := decide_eq_false hlt
      have t2 : decide ((j : Int) < (n : Int)) = false := decide_eq_false (by omega)
      go_wp2_with (go_at_call 20; refine (AwakeB.awake6 _).mono ?_; rintro e w8 ⟨rfl, HBa⟩; have XBn : Aside0 (Below w.heap.size w w8) := ⟨below_step XB.out HBa⟩; clear XB HBa; have XB := XBn; clear XBn)
      go_ret
      exact ⟨rfl, XB.out⟩
end Go.Proofs.Ytabjlanomebonaa.HandFeeds

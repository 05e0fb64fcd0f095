/- awake of layer 5. (printed by gen_awake5.py) -/
import Derived.Test.YtabjlanomebonaaExtR
import Derived.Test.YtabjlanomebonaaPBx4
namespace Go.Proofs.Ytabjlanomebonaa.AwakeA
open Go.RowKit Go.Proofs.YtabjlanomebonaaW.PrintWords Go.Proofs.YtabjlanomebonaaW.PrintLast Go.Proofs.YtabjlanomebonaaW.PrintMore Go.Proofs.Ytabjlanomebonaa.Core Go.Proofs.Ytabjlanomebonaa.Ext Go.Proofs.Ytabjlanomebonaa.ExtG Go.Proofs.Ytabjlanomebonaa.ExtL Go.Proofs.Ytabjlanomebonaa.ExtR
set_option linter.unusedVariables false
set_option linter.unusedSimpArgs false
/-- A literal of bytes is read. -/
theorem lit_C (W : World) (xs : List Int) (h : xs.length ≤ 9223372036854775807) : Kd.C (Kd.int .u8) (W.alloc (.cells (nums .u8 xs).toArray 5)) (some ⟨W.heap.size, 0, none⟩) xs.length xs := by
  have h := own_lit W 0 5 .u8 xs (by omega) h
  obtain ⟨A, c, e, hr⟩ := own_reads h
  injection e with e1 e2 e3
  subst e1
  exact Kd.C_of_reads (d := (0 : Int)) (h1 := fun _ => rfl) hr
/-- A literal of bytes just laid, which is not among M's blocks. -/
theorem lit_E {M : Nat → Prop} {W : World} {g : Nat} (hg : g = W.heap.size) (xs : List Int) (h : xs.length ≤ 9223372036854775807) (hM : ∀ k, M k → k < W.heap.size) : Ever M (W.alloc (.cells (nums .u8 xs).toArray 5)) (fun W' => Kd.C (Kd.int .u8) W' (some ⟨g, 0, none⟩) xs.length xs) := by
  subst hg
  exact Ever.R (base := W.heap.size) (Kd.R_of_own (ok := fun _ => True) (own_lit W W.heap.size 5 .u8 xs (Nat.le_refl _) h) (fun _ _ => trivial)) hM
theorem isLine_step {M : Nat → Prop} {W W1 : World} {g : Nat} {now gap last : Int} {came : List Int} (h : IsLine M W g now gap last came) (k : Ext M W W1) (hg : W1.heap[g]? = W.heap[g]?) : IsLine M W1 g now gap last came := by
  obtain ⟨A, c, hb, hc, hv⟩ := h
  exact ⟨A, c, hg.trans hb, hc, hv.step k⟩
theorem isLine_below {M : Nat → Prop} {W W1 : World} {g : Nat} {now gap last : Int} {came : List Int} (h : IsLine M W g now gap last came) (k : Below W.heap.size W W1) : IsLine M W1 g now gap last came := by
  have h0 := h
  obtain ⟨A, c, hb, hc, hv⟩ := h0
  exact isLine_step h (.of_below k) (k.block g (blk_lt hb))
set_option maxHeartbeats 8000000 in
set_option maxRecDepth 1000000 in
theorem awake5 (w : World) : Calls Try.prog 16 #[] w fun e w' => e = .returned (.bool true) ∧ Below w.heap.size w w' := by
  have h1 : Aside0 (PB.rtu_Frame.f 1 [4, 2, 255, 255] = some ([1, 4, 2, 255, 255, 184, 128], 0)) := ⟨by decide +kernel⟩
  have P1a : Aside0 (lOut 4 0 [] 0 = []) := ⟨by decide +kernel⟩
  have P1b : Aside0 (lCame 4 0 [] 0 [1] = [1]) := ⟨by decide +kernel⟩
  have P1c : Aside0 (lLast 0 0 [1] = 0) := ⟨by decide +kernel⟩
  have P2a : Aside0 (lOut 4 0 [1] 3 = []) := ⟨by decide +kernel⟩
  have P2b : Aside0 (lCame 4 0 [1] 3 [2] = [1, 2]) := ⟨by decide +kernel⟩
  have P2c : Aside0 (lLast 0 3 [2] = 3) := ⟨by decide +kernel⟩
  have P3a : Aside0 (lOut 4 3 [1, 2] 6 = []) := ⟨by decide +kernel⟩
  have P3b : Aside0 (lCame 4 3 [1, 2] 6 [] = [1, 2]) := ⟨by decide +kernel⟩
  have P4a : Aside0 (lOut 4 3 [1, 2] 7 = [[1, 2]]) := ⟨by decide +kernel⟩
  have P4b : Aside0 (lCame 4 3 [1, 2] 7 [] = []) := ⟨by decide +kernel⟩
  have tok1 := Aside0.mk trivial
  go_enter Try.func16, Try.ntmps16
  go_wp2_with (first | (go_at_call 29; (refine (PB.rtu_Frame.calls 1 _ _ [4, 2, 255, 255] _ _ _ (lit_C w [4, 2, 255, 255] (by simp)) (by simp) h1.out).mono ?_; rintro e w1 ⟨v1, rfl, HR, HB⟩; obtain ⟨A1, c1, rfl, hc, HC⟩ := Kd.R_reads HR; have HC1 := Aside0.mk HC; have HB1 := Aside0.mk (below_step (below_alloc (Below.refl _ _) _) HB); have HL1 : Aside0 (IsLine (fun k => k = w1.heap.size) (w1.alloc (.cells #[.int .i64 0, .int .i64 4, .int .i64 0, .slice none 0 0] 65)) w1.heap.size 0 4 0 []) := ⟨⟨none, 0, new_blk rfl, Nat.le_refl _, Ever.nil _⟩⟩; have HX1 : Aside0 (Ext (fun k => k = w1.heap.size) (w1.alloc (.cells #[.int .i64 0, .int .i64 4, .int .i64 0, .slice none 0 0] 65)) (w1.alloc (.cells #[.int .i64 0, .int .i64 4, .int .i64 0, .slice none 0 0] 65))) := ⟨Ext.refl _ _⟩; have HMB1 : Aside0 (∀ k, k = w1.heap.size → k < ((w1.alloc (.cells #[.int .i64 0, .int .i64 4, .int .i64 0, .slice none 0 0] 65))).heap.size) := ⟨fun k hk => by subst hk; simp⟩; clear HR HB HC hc)) | (go_at_call 13; (refine (line_new 4 _ (by omega)).mono ?_; rintro e w' ⟨rfl, rfl⟩)) | (go_at_call 14; have _t := tok1; (refine (feed (fun k => k = w1.heap.size) w1.heap.size 0 4 0 0 [] [1] _ _ _ rfl (fun k hk => Ext.lt_ (Ext.alloc (M := (fun k => k = w1.heap.size)) (Ext.refl _ _) _) (HMB1.out k hk)) (isLine_below HL1.out (below_alloc (Below.refl _ _) _)) (lit_E (by simp) [1] (by simp) HMB1.out) (by simp) (by simp) (by omega) (by omega) (by omega) (by omega) (by omega) [] [1] 0 P1a.out P1b.out P1c.out).mono ?_; rintro e w2 ⟨v, rfl, HR, HLn, HXn⟩; obtain ⟨A_1, c_1, rfl, _, _⟩ := HR; have HL2 := Aside0.mk HLn; have HMB2 : Aside0 (∀ k, k = w1.heap.size → k < w2.heap.size) := ⟨fun k hk => Ext.lt_ (((Ext.refl _ _).alloc _).trans HXn) (HMB1.out k hk)⟩; have HX2 : Aside0 (Ext (fun k => k = w1.heap.size) (w1.alloc (.cells #[.int .i64 0, .int .i64 4, .int .i64 0, .slice none 0 0] 65)) w2) := ⟨(HX1.out.alloc _).trans HXn⟩; clear HL1 HMB1; clear tok1 _t; have tok2 := Aside0.mk trivial)) | (go_at_call 14; have _t := tok2; (refine (feed (fun k => k = w1.heap.size) w1.heap.size 0 4 0 3 [1] [2] _ _ _ rfl (fun k hk => Ext.lt_ (Ext.alloc (M := (fun k => k = w1.heap.size)) (Ext.refl _ _) _) (HMB2.out k hk)) (isLine_below HL2.out (below_alloc (Below.refl _ _) _)) (lit_E (by simp) [2] (by simp) HMB2.out) (by simp) (by simp) (by omega) (by omega) (by omega) (by omega) (by omega) [] [1, 2] 3 P2a.out P2b.out P2c.out).mono ?_; rintro e w3 ⟨v, rfl, HR, HLn, HXn⟩; obtain ⟨A_2, c_2, rfl, _, _⟩ := HR; have HL3 := Aside0.mk HLn; have HMB3 : Aside0 (∀ k, k = w1.heap.size → k < w3.heap.size) := ⟨fun k hk => Ext.lt_ (((Ext.refl _ _).alloc _).trans HXn) (HMB2.out k hk)⟩; have HX3 : Aside0 (Ext (fun k => k = w1.heap.size) (w1.alloc (.cells #[.int .i64 0, .int .i64 4, .int .i64 0, .slice none 0 0] 65)) w3) := ⟨(HX2.out.alloc _).trans HXn⟩; clear HL2 HMB2; clear tok2 _t; have tok3 := Aside0.mk trivial)) | (go_at_call 15; have _t := tok3; (refine (wait (fun k => k = w1.heap.size) w1.heap.size 3 4 3 6 [1, 2] _ rfl HMB3.out HL3.out (by simp) (by omega) (by omega) (by omega) (by omega) (by omega) [] [1, 2] P3a.out P3b.out).mono ?_; rintro e w4 ⟨v, rfl, HR, HLn, HXn⟩; obtain ⟨A_3, c_3, rfl, hc_, HR⟩ := HR; have HRW3 := Aside0.mk HR; have HL4 := Aside0.mk HLn; have HMB4 : Aside0 (∀ k, k = w1.heap.size → k < w4.heap.size) := ⟨fun k hk => HXn.lt_ (HMB3.out k hk)⟩; have HX4 : Aside0 (Ext (fun k => k = w1.heap.size) (w1.alloc (.cells #[.int .i64 0, .int .i64 4, .int .i64 0, .slice none 0 0] 65)) w4) := ⟨HX3.out.trans HXn⟩; clear HL3 HMB3; clear tok3 _t; have tok4 := Aside0.mk trivial)) | (go_at_call 15; have _t := tok4; (refine (wait (fun k => k = w1.heap.size) w1.heap.size 6 4 3 7 [1, 2] _ rfl HMB4.out HL4.out (by simp) (by omega) (by omega) (by omega) (by omega) (by omega) [[1, 2]] [] P4a.out P4b.out).mono ?_; rintro e w5 ⟨v, rfl, HR, HLn, HXn⟩; obtain ⟨A_4, c_4, rfl, hc_, HR⟩ := HR; have HRW4 := Aside0.mk HR; have HL5 := Aside0.mk HLn; have HMB5 : Aside0 (∀ k, k = w1.heap.size → k < w5.heap.size) := ⟨fun k hk => HXn.lt_ (HMB4.out k hk)⟩; have HX5 : Aside0 (Ext (fun k => k = w1.heap.size) (w1.alloc (.cells #[.int .i64 0, .int .i64 4, .int .i64 0, .slice none 0 0] 65)) w5) := ⟨HX4.out.trans HXn⟩; clear HL4 HMB4; have hcv : Sem.run Try.prog (convert 22 9 (Value.slice A1 7 c1)) w5 = Result.ok (.string ⟨#[1, 4, 2, 255, 255, 184, 128]⟩) w5 := string_of_reads (P := Try.prog) (c := c1) Try.underlying22 Try.underlying5 Try.underlying9 (Kd.reads_of_C (Kd.C_below HC1.out (ever_below HX5.out))); clear tok4 _t; have tok5 := Aside0.mk trivial)) | (go_at_call 17; (refine (rows_true A_4 _ _ _ [[1, 2]] _ ⟨Kd.C_alloc (Kd.C_alloc HRW4.out.ever.now _) _⟩ ⟨lit1 (b := [1, 2]) (by simp) (lit_C w5 [1, 2] (by simp)) (by simp)⟩).mono ?_; rintro e w' ⟨rfl, ⟨nd, rfl⟩⟩)))
  go_ret
  exact ⟨rfl, pw_below_drewN (below_alloc (below_alloc (below_step HB1.out (ever_below HX5.out)) _) _) _⟩
end Go.Proofs.Ytabjlanomebonaa.AwakeA

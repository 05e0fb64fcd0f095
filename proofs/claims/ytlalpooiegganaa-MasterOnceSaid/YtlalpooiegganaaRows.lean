/-
  No cell of these rows narrows 'for every input' (looked for: loops, veiled, ifaces, maps, wideKeys, modest, calm, conditions, laid).
  DERIVED. THE GIVEN ROWS OF THIS SEAT. 5 by the template 'for every input the law returns true; each argument reads behind the call as it read before'; 0 by the template 'total and deterministic' (their statements: YtlalpooiegganaaTotals.lean).
  GIVEN WITH THE SEED: the statements are not yours to turn. If you find one false, say at which input.
  Laid BY PROGRAM, IN A SANDBOX (cutbox-rows.mjs): the forced cells as the released guide's own fill.sh prints them over the translation 22db320d0bcd04d9… (all of the seat's roots in one cut). By AI agents, Wed Nov 11 2026. No macro, syntax, notation, axiom, sorry.
-/
import Derived.Test.YtlalpooiegganaaChecked
import GoSem.Claim
import GoSem.ClaimJoined
import GoSem.ClaimMapViews
import Derived.JoinedTies
import Derived.KernelRfl
namespace Go.Proofs.Ytlalpooiegganaa
/- THE CELL 'sum', in the pinned program and in every row, IS THE sha256 OF THE DUMP (.gsa) THAT YtlalpooiegganaaProg.lean LOADS. Nothing in Lean hashes anything: it is a label: what it is worth is what the hold of that sum in a sandbox is worth. -/
noncomputable def Try.pinned : Pinned := { name := "ytlalpooiegganaa", sum := "22db320d0bcd04d9557c8e29fd850bd4b9887e04c956838f3a12e0622c80758d", checked := Try.checked }
namespace Rows
def none {H : Type} : Left H := { results := [], args := [] }

/-- 'basculelaw07.MasterAnswers': WHATEVER THE INPUT: true; the input reads as it did. -/
def masterAnswersSpec : ChangeSpec := { name := "masterAnswers", fn := fun _ => fun
  | [d1, d2, d3, d4, d5] => { results := [.lit (.bool true)], args := [d1, d2, d3, d4, d5] }
  | _ => none }
def masterAnswersRow : OpenClaim := { program := "ytlalpooiegganaa", sum := "22db320d0bcd04d9557c8e29fd850bd4b9887e04c956838f3a12e0622c80758d", func := "bascule/basculelaw07.MasterAnswers", spec := "masterAnswers", apart := false }
def MasterAnswersSaid : Prop := masterAnswersRow.holds Try.pinned (OpenSpec.ofChange masterAnswersSpec)

/-- ITS FALSE NEIGHBOUR: 'it returns false'. Refute it at one input. -/
def masterAnswersWrong : ChangeSpec := { name := "masterAnswers", fn := fun _ => fun
  | [d1, d2, d3, d4, d5] => { results := [.lit (.bool false)], args := [d1, d2, d3, d4, d5] }
  | _ => none }
def MasterAnswersWrongFalsely : Prop := masterAnswersRow.holds Try.pinned (OpenSpec.ofChange masterAnswersWrong)

/-- 'basculelaw07.MasterWaits': WHATEVER THE INPUT: true; the input reads as it did. -/
def masterWaitsSpec : ChangeSpec := { name := "masterWaits", fn := fun _ => fun
  | [d1, d2, d3] => { results := [.lit (.bool true)], args := [d1, d2, d3] }
  | _ => none }
def masterWaitsRow : OpenClaim := { program := "ytlalpooiegganaa", sum := "22db320d0bcd04d9557c8e29fd850bd4b9887e04c956838f3a12e0622c80758d", func := "bascule/basculelaw07.MasterWaits", spec := "masterWaits", apart := false }
def MasterWaitsSaid : Prop := masterWaitsRow.holds Try.pinned (OpenSpec.ofChange masterWaitsSpec)

/-- ITS FALSE NEIGHBOUR: 'it returns false'. Refute it at one input. -/
def masterWaitsWrong : ChangeSpec := { name := "masterWaits", fn := fun _ => fun
  | [d1, d2, d3] => { results := [.lit (.bool false)], args := [d1, d2, d3] }
  | _ => none }
def MasterWaitsWrongFalsely : Prop := masterWaitsRow.holds Try.pinned (OpenSpec.ofChange masterWaitsWrong)

/-- 'basculelaw07.MasterDoes': WHATEVER THE INPUT: true; the input reads as it did. -/
def masterDoesSpec : ChangeSpec := { name := "masterDoes", fn := fun _ => fun
  | [d1, d2, d3, d4] => { results := [.lit (.bool true)], args := [d1, d2, d3, d4] }
  | _ => none }
def masterDoesRow : OpenClaim := { program := "ytlalpooiegganaa", sum := "22db320d0bcd04d9557c8e29fd850bd4b9887e04c956838f3a12e0622c80758d", func := "bascule/basculelaw07.MasterDoes", spec := "masterDoes", apart := false }
def MasterDoesSaid : Prop := masterDoesRow.holds Try.pinned (OpenSpec.ofChange masterDoesSpec)

/-- ITS FALSE NEIGHBOUR: 'it returns false'. Refute it at one input. -/
def masterDoesWrong : ChangeSpec := { name := "masterDoes", fn := fun _ => fun
  | [d1, d2, d3, d4] => { results := [.lit (.bool false)], args := [d1, d2, d3, d4] }
  | _ => none }
def MasterDoesWrongFalsely : Prop := masterDoesRow.holds Try.pinned (OpenSpec.ofChange masterDoesWrong)

/-- 'basculelaw07.MasterOnce': WHATEVER THE INPUT: true; the input reads as it did. -/
def masterOnceSpec : ChangeSpec := { name := "masterOnce", fn := fun _ => fun
  | [d1, d2, d3, d4] => { results := [.lit (.bool true)], args := [d1, d2, d3, d4] }
  | _ => none }
def masterOnceRow : OpenClaim := { program := "ytlalpooiegganaa", sum := "22db320d0bcd04d9557c8e29fd850bd4b9887e04c956838f3a12e0622c80758d", func := "bascule/basculelaw07.MasterOnce", spec := "masterOnce", apart := false }
def MasterOnceSaid : Prop := masterOnceRow.holds Try.pinned (OpenSpec.ofChange masterOnceSpec)

/-- ITS FALSE NEIGHBOUR: 'it returns false'. Refute it at one input. -/
def masterOnceWrong : ChangeSpec := { name := "masterOnce", fn := fun _ => fun
  | [d1, d2, d3, d4] => { results := [.lit (.bool false)], args := [d1, d2, d3, d4] }
  | _ => none }
def MasterOnceWrongFalsely : Prop := masterOnceRow.holds Try.pinned (OpenSpec.ofChange masterOnceWrong)

/-- 'basculelaw07.MasterOrder': WHATEVER THE INPUT: true; the input reads as it did. -/
def masterOrderSpec : ChangeSpec := { name := "masterOrder", fn := fun _ => fun
  | [d1, d2, d3] => { results := [.lit (.bool true)], args := [d1, d2, d3] }
  | _ => none }
def masterOrderRow : OpenClaim := { program := "ytlalpooiegganaa", sum := "22db320d0bcd04d9557c8e29fd850bd4b9887e04c956838f3a12e0622c80758d", func := "bascule/basculelaw07.MasterOrder", spec := "masterOrder", apart := false }
def MasterOrderSaid : Prop := masterOrderRow.holds Try.pinned (OpenSpec.ofChange masterOrderSpec)

/-- ITS FALSE NEIGHBOUR: 'it returns false'. Refute it at one input. -/
def masterOrderWrong : ChangeSpec := { name := "masterOrder", fn := fun _ => fun
  | [d1, d2, d3] => { results := [.lit (.bool false)], args := [d1, d2, d3] }
  | _ => none }
def MasterOrderWrongFalsely : Prop := masterOrderRow.holds Try.pinned (OpenSpec.ofChange masterOrderWrong)

/- THE SECOND FORM. 'bulk': how many values and letters a reading holds, each counted each time it is reached (what is shared counts as often as it is met; a slice's spare places count too). A statement '..UptoSaid' is the law's where the arguments, and the package variables that the reading takes, are together of bulk at most 1048576: NARROWER than '..Said'. Prove '..Said' where nothing that the law and all that it calls make is longer than what came in: it says more and counts as full. Else prove '..UptoSaid'. A law counts once. -/
mutual
def uptoBulk {H : Type} : DataW H → Nat
  | .lit (.string bytes) => bytes.length + 1
  | .lit _ => 1
  | .nil => 1
  | .ptr d => uptoBulk d + 1
  | .slice elems spare => uptoBulkAll elems + uptoBulkAll spare + 1
  | .agg parts => uptoBulkAll parts + 1
  | .iface _ d => uptoBulk d + 1
  | .map entries => uptoBulkEntries entries + 1
  | .held _ => 1
def uptoBulkAll {H : Type} : List (DataW H) → Nat
  | [] => 0
  | d :: r => uptoBulk d + uptoBulkAll r
def uptoBulkEntries {H : Type} : List (Lit × DataW H) → Nat
  | [] => 0
  | x :: r => uptoBulkEntry x + uptoBulkEntries r
def uptoBulkEntry {H : Type} : Lit × DataW H → Nat
  | (.string bytes, d) => bytes.length + uptoBulk d + 1
  | (_, d) => uptoBulk d + 1
 end
def uptoSmall : (H : Type) → List (DataW H) → Bool := fun _ ds => decide (uptoBulkAll ds ≤ 1048576)
def OpenSpec.upto (s : _root_.Go.ChangeSpec) : _root_.Go.OpenSpec := { _root_.Go.OpenSpec.ofChange s with cond := some uptoSmall }

/-- 'basculelaw07.MasterAnswers', WHERE WHAT IT READS IS OF BULK AT MOST 1048576: true; the input reads as it did. -/
def masterAnswersUptoRow : OpenClaim := { program := "ytlalpooiegganaa", sum := "22db320d0bcd04d9557c8e29fd850bd4b9887e04c956838f3a12e0622c80758d", func := "bascule/basculelaw07.MasterAnswers", spec := "masterAnswers", apart := false, narrowed := true }
def MasterAnswersUptoSaid : Prop := masterAnswersUptoRow.holds Try.pinned (OpenSpec.upto masterAnswersSpec)

/-- 'basculelaw07.MasterWaits', WHERE WHAT IT READS IS OF BULK AT MOST 1048576: true; the input reads as it did. -/
def masterWaitsUptoRow : OpenClaim := { program := "ytlalpooiegganaa", sum := "22db320d0bcd04d9557c8e29fd850bd4b9887e04c956838f3a12e0622c80758d", func := "bascule/basculelaw07.MasterWaits", spec := "masterWaits", apart := false, narrowed := true }
def MasterWaitsUptoSaid : Prop := masterWaitsUptoRow.holds Try.pinned (OpenSpec.upto masterWaitsSpec)

/-- 'basculelaw07.MasterDoes', WHERE WHAT IT READS IS OF BULK AT MOST 1048576: true; the input reads as it did. -/
def masterDoesUptoRow : OpenClaim := { program := "ytlalpooiegganaa", sum := "22db320d0bcd04d9557c8e29fd850bd4b9887e04c956838f3a12e0622c80758d", func := "bascule/basculelaw07.MasterDoes", spec := "masterDoes", apart := false, narrowed := true }
def MasterDoesUptoSaid : Prop := masterDoesUptoRow.holds Try.pinned (OpenSpec.upto masterDoesSpec)

/-- 'basculelaw07.MasterOnce', WHERE WHAT IT READS IS OF BULK AT MOST 1048576: true; the input reads as it did. -/
def masterOnceUptoRow : OpenClaim := { program := "ytlalpooiegganaa", sum := "22db320d0bcd04d9557c8e29fd850bd4b9887e04c956838f3a12e0622c80758d", func := "bascule/basculelaw07.MasterOnce", spec := "masterOnce", apart := false, narrowed := true }
def MasterOnceUptoSaid : Prop := masterOnceUptoRow.holds Try.pinned (OpenSpec.upto masterOnceSpec)

/-- 'basculelaw07.MasterOrder', WHERE WHAT IT READS IS OF BULK AT MOST 1048576: true; the input reads as it did. -/
def masterOrderUptoRow : OpenClaim := { program := "ytlalpooiegganaa", sum := "22db320d0bcd04d9557c8e29fd850bd4b9887e04c956838f3a12e0622c80758d", func := "bascule/basculelaw07.MasterOrder", spec := "masterOrder", apart := false, narrowed := true }
def MasterOrderUptoSaid : Prop := masterOrderUptoRow.holds Try.pinned (OpenSpec.upto masterOrderSpec)

end Rows
end Go.Proofs.Ytlalpooiegganaa

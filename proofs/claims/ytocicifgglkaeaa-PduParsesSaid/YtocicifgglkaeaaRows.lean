/-
  No cell of these rows narrows 'for every input' (looked for: loops, veiled, ifaces, maps, wideKeys, modest, calm, conditions, laid).
  DERIVED. THE GIVEN ROWS OF THIS SEAT. 11 by the template 'for every input the law returns true; each argument reads behind the call as it read before'; 0 by the template 'total and deterministic' (their statements: YtocicifgglkaeaaTotals.lean).
  GIVEN WITH THE SEED: the statements are not yours to turn. If you find one false, say at which input.
  Laid BY PROGRAM, IN A SANDBOX (cutbox-rows.mjs): the forced cells as the released guide's own fill.sh prints them over the translation 4c13d4157577fa9e… (all of the seat's roots in one cut). By AI agents, Wed Nov 11 2026. No macro, syntax, notation, axiom, sorry.
-/
import Derived.Test.YtocicifgglkaeaaChecked
import GoSem.Claim
import GoSem.ClaimJoined
import GoSem.ClaimMapViews
import Derived.JoinedTies
import Derived.KernelRfl
namespace Go.Proofs.Ytocicifgglkaeaa
/- THE CELL 'sum', in the pinned program and in every row, IS THE sha256 OF THE DUMP (.gsa) THAT YtocicifgglkaeaaProg.lean LOADS. Nothing in Lean hashes anything: it is a label: what it is worth is what the hold of that sum in a sandbox is worth. -/
noncomputable def Try.pinned : Pinned := { name := "ytocicifgglkaeaa", sum := "4c13d4157577fa9e44555311b61c2163d6026c784c2d18fe73c7a861f9e6dbce", checked := Try.checked }
namespace Rows
def none {H : Type} : Left H := { results := [], args := [] }

/-- 'basculelaw04.SlaveAgain': WHATEVER THE INPUT: true; the input reads as it did. -/
def slaveAgainSpec : ChangeSpec := { name := "slaveAgain", fn := fun _ => fun
  | [d1, d2, d3, d4] => { results := [.lit (.bool true)], args := [d1, d2, d3, d4] }
  | _ => none }
def slaveAgainRow : OpenClaim := { program := "ytocicifgglkaeaa", sum := "4c13d4157577fa9e44555311b61c2163d6026c784c2d18fe73c7a861f9e6dbce", func := "bascule/basculelaw04.SlaveAgain", spec := "slaveAgain", apart := false }
def SlaveAgainSaid : Prop := slaveAgainRow.holds Try.pinned (OpenSpec.ofChange slaveAgainSpec)

/-- ITS FALSE NEIGHBOUR: 'it returns false'. Refute it at one input. -/
def slaveAgainWrong : ChangeSpec := { name := "slaveAgain", fn := fun _ => fun
  | [d1, d2, d3, d4] => { results := [.lit (.bool false)], args := [d1, d2, d3, d4] }
  | _ => none }
def SlaveAgainWrongFalsely : Prop := slaveAgainRow.holds Try.pinned (OpenSpec.ofChange slaveAgainWrong)

/-- 'basculelaw04.SlaveDoes': WHATEVER THE INPUT: true; the input reads as it did. -/
def slaveDoesSpec : ChangeSpec := { name := "slaveDoes", fn := fun _ => fun
  | [d1, d2, d3] => { results := [.lit (.bool true)], args := [d1, d2, d3] }
  | _ => none }
def slaveDoesRow : OpenClaim := { program := "ytocicifgglkaeaa", sum := "4c13d4157577fa9e44555311b61c2163d6026c784c2d18fe73c7a861f9e6dbce", func := "bascule/basculelaw04.SlaveDoes", spec := "slaveDoes", apart := false }
def SlaveDoesSaid : Prop := slaveDoesRow.holds Try.pinned (OpenSpec.ofChange slaveDoesSpec)

/-- ITS FALSE NEIGHBOUR: 'it returns false'. Refute it at one input. -/
def slaveDoesWrong : ChangeSpec := { name := "slaveDoes", fn := fun _ => fun
  | [d1, d2, d3] => { results := [.lit (.bool false)], args := [d1, d2, d3] }
  | _ => none }
def SlaveDoesWrongFalsely : Prop := slaveDoesRow.holds Try.pinned (OpenSpec.ofChange slaveDoesWrong)

/-- 'basculelaw04.SlaveReads': WHATEVER THE INPUT: true; the input reads as it did. -/
def slaveReadsSpec : ChangeSpec := { name := "slaveReads", fn := fun _ => fun
  | [d1, d2, d3, d4] => { results := [.lit (.bool true)], args := [d1, d2, d3, d4] }
  | _ => none }
def slaveReadsRow : OpenClaim := { program := "ytocicifgglkaeaa", sum := "4c13d4157577fa9e44555311b61c2163d6026c784c2d18fe73c7a861f9e6dbce", func := "bascule/basculelaw04.SlaveReads", spec := "slaveReads", apart := false }
def SlaveReadsSaid : Prop := slaveReadsRow.holds Try.pinned (OpenSpec.ofChange slaveReadsSpec)

/-- ITS FALSE NEIGHBOUR: 'it returns false'. Refute it at one input. -/
def slaveReadsWrong : ChangeSpec := { name := "slaveReads", fn := fun _ => fun
  | [d1, d2, d3, d4] => { results := [.lit (.bool false)], args := [d1, d2, d3, d4] }
  | _ => none }
def SlaveReadsWrongFalsely : Prop := slaveReadsRow.holds Try.pinned (OpenSpec.ofChange slaveReadsWrong)

/-- 'basculelaw04.SlaveNil': WHATEVER THE INPUT: true; the input reads as it did. -/
def slaveNilSpec : ChangeSpec := { name := "slaveNil", fn := fun _ => fun
  | [d1, d2, d3] => { results := [.lit (.bool true)], args := [d1, d2, d3] }
  | _ => none }
def slaveNilRow : OpenClaim := { program := "ytocicifgglkaeaa", sum := "4c13d4157577fa9e44555311b61c2163d6026c784c2d18fe73c7a861f9e6dbce", func := "bascule/basculelaw04.SlaveNil", spec := "slaveNil", apart := false }
def SlaveNilSaid : Prop := slaveNilRow.holds Try.pinned (OpenSpec.ofChange slaveNilSpec)

/-- ITS FALSE NEIGHBOUR: 'it returns false'. Refute it at one input. -/
def slaveNilWrong : ChangeSpec := { name := "slaveNil", fn := fun _ => fun
  | [d1, d2, d3] => { results := [.lit (.bool false)], args := [d1, d2, d3] }
  | _ => none }
def SlaveNilWrongFalsely : Prop := slaveNilRow.holds Try.pinned (OpenSpec.ofChange slaveNilWrong)

/-- 'basculelaw03.PduLays': WHATEVER THE INPUT: true; the input reads as it did. -/
def pduLaysSpec : ChangeSpec := { name := "pduLays", fn := fun _ => fun
  | [d] => { results := [.lit (.bool true)], args := [d] }
  | _ => none }
def pduLaysRow : OpenClaim := { program := "ytocicifgglkaeaa", sum := "4c13d4157577fa9e44555311b61c2163d6026c784c2d18fe73c7a861f9e6dbce", func := "bascule/basculelaw03.PduLays", spec := "pduLays", apart := false }
def PduLaysSaid : Prop := pduLaysRow.holds Try.pinned (OpenSpec.ofChange pduLaysSpec)

/-- ITS FALSE NEIGHBOUR: 'it returns false'. Refute it at one input. -/
def pduLaysWrong : ChangeSpec := { name := "pduLays", fn := fun _ => fun
  | [d] => { results := [.lit (.bool false)], args := [d] }
  | _ => none }
def PduLaysWrongFalsely : Prop := pduLaysRow.holds Try.pinned (OpenSpec.ofChange pduLaysWrong)

/-- 'basculelaw03.PduParses': WHATEVER THE INPUT: true; the input reads as it did. -/
def pduParsesSpec : ChangeSpec := { name := "pduParses", fn := fun _ => fun
  | [d] => { results := [.lit (.bool true)], args := [d] }
  | _ => none }
def pduParsesRow : OpenClaim := { program := "ytocicifgglkaeaa", sum := "4c13d4157577fa9e44555311b61c2163d6026c784c2d18fe73c7a861f9e6dbce", func := "bascule/basculelaw03.PduParses", spec := "pduParses", apart := false }
def PduParsesSaid : Prop := pduParsesRow.holds Try.pinned (OpenSpec.ofChange pduParsesSpec)

/-- ITS FALSE NEIGHBOUR: 'it returns false'. Refute it at one input. -/
def pduParsesWrong : ChangeSpec := { name := "pduParses", fn := fun _ => fun
  | [d] => { results := [.lit (.bool false)], args := [d] }
  | _ => none }
def PduParsesWrongFalsely : Prop := pduParsesRow.holds Try.pinned (OpenSpec.ofChange pduParsesWrong)

/-- 'basculelaw03.PduAnswers': WHATEVER THE INPUT: true; the input reads as it did. -/
def pduAnswersSpec : ChangeSpec := { name := "pduAnswers", fn := fun _ => fun
  | [d1, d2] => { results := [.lit (.bool true)], args := [d1, d2] }
  | _ => none }
def pduAnswersRow : OpenClaim := { program := "ytocicifgglkaeaa", sum := "4c13d4157577fa9e44555311b61c2163d6026c784c2d18fe73c7a861f9e6dbce", func := "bascule/basculelaw03.PduAnswers", spec := "pduAnswers", apart := false }
def PduAnswersSaid : Prop := pduAnswersRow.holds Try.pinned (OpenSpec.ofChange pduAnswersSpec)

/-- ITS FALSE NEIGHBOUR: 'it returns false'. Refute it at one input. -/
def pduAnswersWrong : ChangeSpec := { name := "pduAnswers", fn := fun _ => fun
  | [d1, d2] => { results := [.lit (.bool false)], args := [d1, d2] }
  | _ => none }
def PduAnswersWrongFalsely : Prop := pduAnswersRow.holds Try.pinned (OpenSpec.ofChange pduAnswersWrong)

/-- 'basculelaw03.PduReads': WHATEVER THE INPUT: true; the input reads as it did. -/
def pduReadsSpec : ChangeSpec := { name := "pduReads", fn := fun _ => fun
  | [d1, d2] => { results := [.lit (.bool true)], args := [d1, d2] }
  | _ => none }
def pduReadsRow : OpenClaim := { program := "ytocicifgglkaeaa", sum := "4c13d4157577fa9e44555311b61c2163d6026c784c2d18fe73c7a861f9e6dbce", func := "bascule/basculelaw03.PduReads", spec := "pduReads", apart := false }
def PduReadsSaid : Prop := pduReadsRow.holds Try.pinned (OpenSpec.ofChange pduReadsSpec)

/-- ITS FALSE NEIGHBOUR: 'it returns false'. Refute it at one input. -/
def pduReadsWrong : ChangeSpec := { name := "pduReads", fn := fun _ => fun
  | [d1, d2] => { results := [.lit (.bool false)], args := [d1, d2] }
  | _ => none }
def PduReadsWrongFalsely : Prop := pduReadsRow.holds Try.pinned (OpenSpec.ofChange pduReadsWrong)

/-- 'basculelaw03.PduBack': WHATEVER THE INPUT: true; the input reads as it did. -/
def pduBackSpec : ChangeSpec := { name := "pduBack", fn := fun _ => fun
  | [d1, d2] => { results := [.lit (.bool true)], args := [d1, d2] }
  | _ => none }
def pduBackRow : OpenClaim := { program := "ytocicifgglkaeaa", sum := "4c13d4157577fa9e44555311b61c2163d6026c784c2d18fe73c7a861f9e6dbce", func := "bascule/basculelaw03.PduBack", spec := "pduBack", apart := false }
def PduBackSaid : Prop := pduBackRow.holds Try.pinned (OpenSpec.ofChange pduBackSpec)

/-- ITS FALSE NEIGHBOUR: 'it returns false'. Refute it at one input. -/
def pduBackWrong : ChangeSpec := { name := "pduBack", fn := fun _ => fun
  | [d1, d2] => { results := [.lit (.bool false)], args := [d1, d2] }
  | _ => none }
def PduBackWrongFalsely : Prop := pduBackRow.holds Try.pinned (OpenSpec.ofChange pduBackWrong)

/-- 'basculelaw03.PduAgain': WHATEVER THE INPUT: true; the input reads as it did. -/
def pduAgainSpec : ChangeSpec := { name := "pduAgain", fn := fun _ => fun
  | [d1, d2] => { results := [.lit (.bool true)], args := [d1, d2] }
  | _ => none }
def pduAgainRow : OpenClaim := { program := "ytocicifgglkaeaa", sum := "4c13d4157577fa9e44555311b61c2163d6026c784c2d18fe73c7a861f9e6dbce", func := "bascule/basculelaw03.PduAgain", spec := "pduAgain", apart := false }
def PduAgainSaid : Prop := pduAgainRow.holds Try.pinned (OpenSpec.ofChange pduAgainSpec)

/-- ITS FALSE NEIGHBOUR: 'it returns false'. Refute it at one input. -/
def pduAgainWrong : ChangeSpec := { name := "pduAgain", fn := fun _ => fun
  | [d1, d2] => { results := [.lit (.bool false)], args := [d1, d2] }
  | _ => none }
def PduAgainWrongFalsely : Prop := pduAgainRow.holds Try.pinned (OpenSpec.ofChange pduAgainWrong)

/-- 'basculelaw03.PduSizes': WHATEVER THE INPUT: true; the input reads as it did. -/
def pduSizesSpec : ChangeSpec := { name := "pduSizes", fn := fun _ => fun
  | [d1, d2] => { results := [.lit (.bool true)], args := [d1, d2] }
  | _ => none }
def pduSizesRow : OpenClaim := { program := "ytocicifgglkaeaa", sum := "4c13d4157577fa9e44555311b61c2163d6026c784c2d18fe73c7a861f9e6dbce", func := "bascule/basculelaw03.PduSizes", spec := "pduSizes", apart := false }
def PduSizesSaid : Prop := pduSizesRow.holds Try.pinned (OpenSpec.ofChange pduSizesSpec)

/-- ITS FALSE NEIGHBOUR: 'it returns false'. Refute it at one input. -/
def pduSizesWrong : ChangeSpec := { name := "pduSizes", fn := fun _ => fun
  | [d1, d2] => { results := [.lit (.bool false)], args := [d1, d2] }
  | _ => none }
def PduSizesWrongFalsely : Prop := pduSizesRow.holds Try.pinned (OpenSpec.ofChange pduSizesWrong)

/- THE SECOND FORM. 'bulk': how many values and letters a reading holds, each counted each time it is reached (what is shared counts as often as it is met; a slice's spare places count too). A statement '..UptoSaid' is the law's where the arguments, and the package variables that the reading takes, are together of bulk at most 1048576: NARROWER than '..Said'. Prove '..Said' where nothing that the law and all that it calls make is longer than what came in: it says more and counts as full. Else prove '..UptoSaid'. A law counts once. -/
mutual
def uptoBulk {H : Type} : DataW H → Nat
  | .lit (.string bytes) => bytes.length + 1
  | .lit _ => 1
  | .nil => 1
  | .ptr d => uptoBulk d + 1
  | .slice elems spare => uptoBulkAll elems + uptoBulkAll spare + 1
  | .agg parts => uptoBulkAll parts + 1
  | .iface _ d => uptoBulk d + 1
  | .map entries => uptoBulkEntries entries + 1
  | .held _ => 1
def uptoBulkAll {H : Type} : List (DataW H) → Nat
  | [] => 0
  | d :: r => uptoBulk d + uptoBulkAll r
def uptoBulkEntries {H : Type} : List (Lit × DataW H) → Nat
  | [] => 0
  | x :: r => uptoBulkEntry x + uptoBulkEntries r
def uptoBulkEntry {H : Type} : Lit × DataW H → Nat
  | (.string bytes, d) => bytes.length + uptoBulk d + 1
  | (_, d) => uptoBulk d + 1
 end
def uptoSmall : (H : Type) → List (DataW H) → Bool := fun _ ds => decide (uptoBulkAll ds ≤ 1048576)
def OpenSpec.upto (s : _root_.Go.ChangeSpec) : _root_.Go.OpenSpec := { _root_.Go.OpenSpec.ofChange s with cond := some uptoSmall }

/-- 'basculelaw04.SlaveAgain', WHERE WHAT IT READS IS OF BULK AT MOST 1048576: true; the input reads as it did. -/
def slaveAgainUptoRow : OpenClaim := { program := "ytocicifgglkaeaa", sum := "4c13d4157577fa9e44555311b61c2163d6026c784c2d18fe73c7a861f9e6dbce", func := "bascule/basculelaw04.SlaveAgain", spec := "slaveAgain", apart := false, narrowed := true }
def SlaveAgainUptoSaid : Prop := slaveAgainUptoRow.holds Try.pinned (OpenSpec.upto slaveAgainSpec)

/-- 'basculelaw04.SlaveDoes', WHERE WHAT IT READS IS OF BULK AT MOST 1048576: true; the input reads as it did. -/
def slaveDoesUptoRow : OpenClaim := { program := "ytocicifgglkaeaa", sum := "4c13d4157577fa9e44555311b61c2163d6026c784c2d18fe73c7a861f9e6dbce", func := "bascule/basculelaw04.SlaveDoes", spec := "slaveDoes", apart := false, narrowed := true }
def SlaveDoesUptoSaid : Prop := slaveDoesUptoRow.holds Try.pinned (OpenSpec.upto slaveDoesSpec)

/-- 'basculelaw04.SlaveReads', WHERE WHAT IT READS IS OF BULK AT MOST 1048576: true; the input reads as it did. -/
def slaveReadsUptoRow : OpenClaim := { program := "ytocicifgglkaeaa", sum := "4c13d4157577fa9e44555311b61c2163d6026c784c2d18fe73c7a861f9e6dbce", func := "bascule/basculelaw04.SlaveReads", spec := "slaveReads", apart := false, narrowed := true }
def SlaveReadsUptoSaid : Prop := slaveReadsUptoRow.holds Try.pinned (OpenSpec.upto slaveReadsSpec)

/-- 'basculelaw04.SlaveNil', WHERE WHAT IT READS IS OF BULK AT MOST 1048576: true; the input reads as it did. -/
def slaveNilUptoRow : OpenClaim := { program := "ytocicifgglkaeaa", sum := "4c13d4157577fa9e44555311b61c2163d6026c784c2d18fe73c7a861f9e6dbce", func := "bascule/basculelaw04.SlaveNil", spec := "slaveNil", apart := false, narrowed := true }
def SlaveNilUptoSaid : Prop := slaveNilUptoRow.holds Try.pinned (OpenSpec.upto slaveNilSpec)

/-- 'basculelaw03.PduLays', WHERE WHAT IT READS IS OF BULK AT MOST 1048576: true; the input reads as it did. -/
def pduLaysUptoRow : OpenClaim := { program := "ytocicifgglkaeaa", sum := "4c13d4157577fa9e44555311b61c2163d6026c784c2d18fe73c7a861f9e6dbce", func := "bascule/basculelaw03.PduLays", spec := "pduLays", apart := false, narrowed := true }
def PduLaysUptoSaid : Prop := pduLaysUptoRow.holds Try.pinned (OpenSpec.upto pduLaysSpec)

/-- 'basculelaw03.PduParses', WHERE WHAT IT READS IS OF BULK AT MOST 1048576: true; the input reads as it did. -/
def pduParsesUptoRow : OpenClaim := { program := "ytocicifgglkaeaa", sum := "4c13d4157577fa9e44555311b61c2163d6026c784c2d18fe73c7a861f9e6dbce", func := "bascule/basculelaw03.PduParses", spec := "pduParses", apart := false, narrowed := true }
def PduParsesUptoSaid : Prop := pduParsesUptoRow.holds Try.pinned (OpenSpec.upto pduParsesSpec)

/-- 'basculelaw03.PduAnswers', WHERE WHAT IT READS IS OF BULK AT MOST 1048576: true; the input reads as it did. -/
def pduAnswersUptoRow : OpenClaim := { program := "ytocicifgglkaeaa", sum := "4c13d4157577fa9e44555311b61c2163d6026c784c2d18fe73c7a861f9e6dbce", func := "bascule/basculelaw03.PduAnswers", spec := "pduAnswers", apart := false, narrowed := true }
def PduAnswersUptoSaid : Prop := pduAnswersUptoRow.holds Try.pinned (OpenSpec.upto pduAnswersSpec)

/-- 'basculelaw03.PduReads', WHERE WHAT IT READS IS OF BULK AT MOST 1048576: true; the input reads as it did. -/
def pduReadsUptoRow : OpenClaim := { program := "ytocicifgglkaeaa", sum := "4c13d4157577fa9e44555311b61c2163d6026c784c2d18fe73c7a861f9e6dbce", func := "bascule/basculelaw03.PduReads", spec := "pduReads", apart := false, narrowed := true }
def PduReadsUptoSaid : Prop := pduReadsUptoRow.holds Try.pinned (OpenSpec.upto pduReadsSpec)

/-- 'basculelaw03.PduBack', WHERE WHAT IT READS IS OF BULK AT MOST 1048576: true; the input reads as it did. -/
def pduBackUptoRow : OpenClaim := { program := "ytocicifgglkaeaa", sum := "4c13d4157577fa9e44555311b61c2163d6026c784c2d18fe73c7a861f9e6dbce", func := "bascule/basculelaw03.PduBack", spec := "pduBack", apart := false, narrowed := true }
def PduBackUptoSaid : Prop := pduBackUptoRow.holds Try.pinned (OpenSpec.upto pduBackSpec)

/-- 'basculelaw03.PduAgain', WHERE WHAT IT READS IS OF BULK AT MOST 1048576: true; the input reads as it did. -/
def pduAgainUptoRow : OpenClaim := { program := "ytocicifgglkaeaa", sum := "4c13d4157577fa9e44555311b61c2163d6026c784c2d18fe73c7a861f9e6dbce", func := "bascule/basculelaw03.PduAgain", spec := "pduAgain", apart := false, narrowed := true }
def PduAgainUptoSaid : Prop := pduAgainUptoRow.holds Try.pinned (OpenSpec.upto pduAgainSpec)

/-- 'basculelaw03.PduSizes', WHERE WHAT IT READS IS OF BULK AT MOST 1048576: true; the input reads as it did. -/
def pduSizesUptoRow : OpenClaim := { program := "ytocicifgglkaeaa", sum := "4c13d4157577fa9e44555311b61c2163d6026c784c2d18fe73c7a861f9e6dbce", func := "bascule/basculelaw03.PduSizes", spec := "pduSizes", apart := false, narrowed := true }
def PduSizesUptoSaid : Prop := pduSizesUptoRow.holds Try.pinned (OpenSpec.upto pduSizesSpec)

end Rows
end Go.Proofs.Ytocicifgglkaeaa

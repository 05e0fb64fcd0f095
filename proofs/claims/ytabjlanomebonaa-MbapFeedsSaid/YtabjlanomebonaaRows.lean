/-
  No cell of these rows narrows 'for every input' (looked for: loops, veiled, ifaces, maps, wideKeys, modest, calm, conditions, laid).
  DERIVED. THE GIVEN ROWS OF THIS SEAT. 10 by the template 'for every input the law returns true; each argument reads behind the call as it read before'; 0 by the template 'total and deterministic' (their statements: YtabjlanomebonaaTotals.lean).
  GIVEN WITH THE SEED: the statements are not yours to turn. If you find one false, say at which input.
  Laid BY PROGRAM, IN A SANDBOX (cutbox-rows.mjs): the forced cells as the released guide's own fill.sh prints them over the translation acee691ebc300bce… (all of the seat's roots in one cut). By AI agents, Wed Nov 11 2026. No macro, syntax, notation, axiom, sorry.
-/
import Derived.Test.YtabjlanomebonaaChecked
import GoSem.Claim
import GoSem.ClaimJoined
import GoSem.ClaimMapViews
import Derived.JoinedTies
import Derived.KernelRfl
namespace Go.Proofs.Ytabjlanomebonaa
/- THE CELL 'sum', in the pinned program and in every row, IS THE sha256 OF THE DUMP (.gsa) THAT YtabjlanomebonaaProg.lean LOADS. Nothing in Lean hashes anything: it is a label: what it is worth is what the hold of that sum in a sandbox is worth. -/
noncomputable def Try.pinned : Pinned := { name := "ytabjlanomebonaa", sum := "acee691ebc300bce0156b82756f12d7c73544b1f8d6c1ccc35c9c8b8da3a0b17", checked := Try.checked }
namespace Rows
def none {H : Type} : Left H := { results := [], args := [] }

/-- 'basculelaw05.RtuParts': WHATEVER THE INPUT: true; the input reads as it did. -/
def rtuPartsSpec : ChangeSpec := { name := "rtuParts", fn := fun _ => fun
  | [d1, d2, d3, d4] => { results := [.lit (.bool true)], args := [d1, d2, d3, d4] }
  | _ => none }
def rtuPartsRow : OpenClaim := { program := "ytabjlanomebonaa", sum := "acee691ebc300bce0156b82756f12d7c73544b1f8d6c1ccc35c9c8b8da3a0b17", func := "bascule/basculelaw05.RtuParts", spec := "rtuParts", apart := false }
def RtuPartsSaid : Prop := rtuPartsRow.holds Try.pinned (OpenSpec.ofChange rtuPartsSpec)

/-- ITS FALSE NEIGHBOUR: 'it returns false'. Refute it at one input. -/
def rtuPartsWrong : ChangeSpec := { name := "rtuParts", fn := fun _ => fun
  | [d1, d2, d3, d4] => { results := [.lit (.bool false)], args := [d1, d2, d3, d4] }
  | _ => none }
def RtuPartsWrongFalsely : Prop := rtuPartsRow.holds Try.pinned (OpenSpec.ofChange rtuPartsWrong)

/-- 'basculelaw05.RtuRow': WHATEVER THE INPUT: true; the input reads as it did. -/
def rtuRowSpec : ChangeSpec := { name := "rtuRow", fn := fun _ => fun
  | [d1, d2, d3] => { results := [.lit (.bool true)], args := [d1, d2, d3] }
  | _ => none }
def rtuRowRow : OpenClaim := { program := "ytabjlanomebonaa", sum := "acee691ebc300bce0156b82756f12d7c73544b1f8d6c1ccc35c9c8b8da3a0b17", func := "bascule/basculelaw05.RtuRow", spec := "rtuRow", apart := false }
def RtuRowSaid : Prop := rtuRowRow.holds Try.pinned (OpenSpec.ofChange rtuRowSpec)

/-- ITS FALSE NEIGHBOUR: 'it returns false'. Refute it at one input. -/
def rtuRowWrong : ChangeSpec := { name := "rtuRow", fn := fun _ => fun
  | [d1, d2, d3] => { results := [.lit (.bool false)], args := [d1, d2, d3] }
  | _ => none }
def RtuRowWrongFalsely : Prop := rtuRowRow.holds Try.pinned (OpenSpec.ofChange rtuRowWrong)

/-- 'basculelaw06.MbapFrames': WHATEVER THE INPUT: true; the input reads as it did. -/
def mbapFramesSpec : ChangeSpec := { name := "mbapFrames", fn := fun _ => fun
  | [d] => { results := [.lit (.bool true)], args := [d] }
  | _ => none }
def mbapFramesRow : OpenClaim := { program := "ytabjlanomebonaa", sum := "acee691ebc300bce0156b82756f12d7c73544b1f8d6c1ccc35c9c8b8da3a0b17", func := "bascule/basculelaw06.MbapFrames", spec := "mbapFrames", apart := false }
def MbapFramesSaid : Prop := mbapFramesRow.holds Try.pinned (OpenSpec.ofChange mbapFramesSpec)

/-- ITS FALSE NEIGHBOUR: 'it returns false'. Refute it at one input. -/
def mbapFramesWrong : ChangeSpec := { name := "mbapFrames", fn := fun _ => fun
  | [d] => { results := [.lit (.bool false)], args := [d] }
  | _ => none }
def MbapFramesWrongFalsely : Prop := mbapFramesRow.holds Try.pinned (OpenSpec.ofChange mbapFramesWrong)

/-- 'basculelaw06.MbapFeeds': WHATEVER THE INPUT: true; the input reads as it did. -/
def mbapFeedsSpec : ChangeSpec := { name := "mbapFeeds", fn := fun _ => fun
  | [d] => { results := [.lit (.bool true)], args := [d] }
  | _ => none }
def mbapFeedsRow : OpenClaim := { program := "ytabjlanomebonaa", sum := "acee691ebc300bce0156b82756f12d7c73544b1f8d6c1ccc35c9c8b8da3a0b17", func := "bascule/basculelaw06.MbapFeeds", spec := "mbapFeeds", apart := false }
def MbapFeedsSaid : Prop := mbapFeedsRow.holds Try.pinned (OpenSpec.ofChange mbapFeedsSpec)

/-- ITS FALSE NEIGHBOUR: 'it returns false'. Refute it at one input. -/
def mbapFeedsWrong : ChangeSpec := { name := "mbapFeeds", fn := fun _ => fun
  | [d] => { results := [.lit (.bool false)], args := [d] }
  | _ => none }
def MbapFeedsWrongFalsely : Prop := mbapFeedsRow.holds Try.pinned (OpenSpec.ofChange mbapFeedsWrong)

/-- 'basculelaw06.MbapParts': WHATEVER THE INPUT: true; the input reads as it did. -/
def mbapPartsSpec : ChangeSpec := { name := "mbapParts", fn := fun _ => fun
  | [d1, d2] => { results := [.lit (.bool true)], args := [d1, d2] }
  | _ => none }
def mbapPartsRow : OpenClaim := { program := "ytabjlanomebonaa", sum := "acee691ebc300bce0156b82756f12d7c73544b1f8d6c1ccc35c9c8b8da3a0b17", func := "bascule/basculelaw06.MbapParts", spec := "mbapParts", apart := false }
def MbapPartsSaid : Prop := mbapPartsRow.holds Try.pinned (OpenSpec.ofChange mbapPartsSpec)

/-- ITS FALSE NEIGHBOUR: 'it returns false'. Refute it at one input. -/
def mbapPartsWrong : ChangeSpec := { name := "mbapParts", fn := fun _ => fun
  | [d1, d2] => { results := [.lit (.bool false)], args := [d1, d2] }
  | _ => none }
def MbapPartsWrongFalsely : Prop := mbapPartsRow.holds Try.pinned (OpenSpec.ofChange mbapPartsWrong)

/-- 'basculelaw06.MbapOne': WHATEVER THE INPUT: true; the input reads as it did. -/
def mbapOneSpec : ChangeSpec := { name := "mbapOne", fn := fun _ => fun
  | [d1, d2] => { results := [.lit (.bool true)], args := [d1, d2] }
  | _ => none }
def mbapOneRow : OpenClaim := { program := "ytabjlanomebonaa", sum := "acee691ebc300bce0156b82756f12d7c73544b1f8d6c1ccc35c9c8b8da3a0b17", func := "bascule/basculelaw06.MbapOne", spec := "mbapOne", apart := false }
def MbapOneSaid : Prop := mbapOneRow.holds Try.pinned (OpenSpec.ofChange mbapOneSpec)

/-- ITS FALSE NEIGHBOUR: 'it returns false'. Refute it at one input. -/
def mbapOneWrong : ChangeSpec := { name := "mbapOne", fn := fun _ => fun
  | [d1, d2] => { results := [.lit (.bool false)], args := [d1, d2] }
  | _ => none }
def MbapOneWrongFalsely : Prop := mbapOneRow.holds Try.pinned (OpenSpec.ofChange mbapOneWrong)

/-- 'basculelaw06.MbapNil': WHATEVER THE INPUT: true; the input reads as it did. -/
def mbapNilSpec : ChangeSpec := { name := "mbapNil", fn := fun _ => fun
  | [d] => { results := [.lit (.bool true)], args := [d] }
  | _ => none }
def mbapNilRow : OpenClaim := { program := "ytabjlanomebonaa", sum := "acee691ebc300bce0156b82756f12d7c73544b1f8d6c1ccc35c9c8b8da3a0b17", func := "bascule/basculelaw06.MbapNil", spec := "mbapNil", apart := false }
def MbapNilSaid : Prop := mbapNilRow.holds Try.pinned (OpenSpec.ofChange mbapNilSpec)

/-- ITS FALSE NEIGHBOUR: 'it returns false'. Refute it at one input. -/
def mbapNilWrong : ChangeSpec := { name := "mbapNil", fn := fun _ => fun
  | [d] => { results := [.lit (.bool false)], args := [d] }
  | _ => none }
def MbapNilWrongFalsely : Prop := mbapNilRow.holds Try.pinned (OpenSpec.ofChange mbapNilWrong)

/-- 'basculelaw06.MbapLeft': WHATEVER THE INPUT: true; the input reads as it did. -/
def mbapLeftSpec : ChangeSpec := { name := "mbapLeft", fn := fun _ => fun
  | [d] => { results := [.lit (.bool true)], args := [d] }
  | _ => none }
def mbapLeftRow : OpenClaim := { program := "ytabjlanomebonaa", sum := "acee691ebc300bce0156b82756f12d7c73544b1f8d6c1ccc35c9c8b8da3a0b17", func := "bascule/basculelaw06.MbapLeft", spec := "mbapLeft", apart := false }
def MbapLeftSaid : Prop := mbapLeftRow.holds Try.pinned (OpenSpec.ofChange mbapLeftSpec)

/-- ITS FALSE NEIGHBOUR: 'it returns false'. Refute it at one input. -/
def mbapLeftWrong : ChangeSpec := { name := "mbapLeft", fn := fun _ => fun
  | [d] => { results := [.lit (.bool false)], args := [d] }
  | _ => none }
def MbapLeftWrongFalsely : Prop := mbapLeftRow.holds Try.pinned (OpenSpec.ofChange mbapLeftWrong)

/-- 'basculelaw05.RtuFrames': WHATEVER THE INPUT: true; the input reads as it did. -/
def rtuFramesSpec : ChangeSpec := { name := "rtuFrames", fn := fun _ => fun
  | [d1, d2, d3] => { results := [.lit (.bool true)], args := [d1, d2, d3] }
  | _ => none }
def rtuFramesRow : OpenClaim := { program := "ytabjlanomebonaa", sum := "acee691ebc300bce0156b82756f12d7c73544b1f8d6c1ccc35c9c8b8da3a0b17", func := "bascule/basculelaw05.RtuFrames", spec := "rtuFrames", apart := false }
def RtuFramesSaid : Prop := rtuFramesRow.holds Try.pinned (OpenSpec.ofChange rtuFramesSpec)

/-- ITS FALSE NEIGHBOUR: 'it returns false'. Refute it at one input. -/
def rtuFramesWrong : ChangeSpec := { name := "rtuFrames", fn := fun _ => fun
  | [d1, d2, d3] => { results := [.lit (.bool false)], args := [d1, d2, d3] }
  | _ => none }
def RtuFramesWrongFalsely : Prop := rtuFramesRow.holds Try.pinned (OpenSpec.ofChange rtuFramesWrong)

/-- 'basculelaw05.RtuBack': WHATEVER THE INPUT: true; the input reads as it did. -/
def rtuBackSpec : ChangeSpec := { name := "rtuBack", fn := fun _ => fun
  | [d1, d2, d3] => { results := [.lit (.bool true)], args := [d1, d2, d3] }
  | _ => none }
def rtuBackRow : OpenClaim := { program := "ytabjlanomebonaa", sum := "acee691ebc300bce0156b82756f12d7c73544b1f8d6c1ccc35c9c8b8da3a0b17", func := "bascule/basculelaw05.RtuBack", spec := "rtuBack", apart := false }
def RtuBackSaid : Prop := rtuBackRow.holds Try.pinned (OpenSpec.ofChange rtuBackSpec)

/-- ITS FALSE NEIGHBOUR: 'it returns false'. Refute it at one input. -/
def rtuBackWrong : ChangeSpec := { name := "rtuBack", fn := fun _ => fun
  | [d1, d2, d3] => { results := [.lit (.bool false)], args := [d1, d2, d3] }
  | _ => none }
def RtuBackWrongFalsely : Prop := rtuBackRow.holds Try.pinned (OpenSpec.ofChange rtuBackWrong)

/- THE SECOND FORM. 'bulk': how many values and letters a reading holds, each counted each time it is reached (what is shared counts as often as it is met; a slice's spare places count too). A statement '..UptoSaid' is the law's where the arguments, and the package variables that the reading takes, are together of bulk at most 1048576: NARROWER than '..Said'. Prove '..Said' where nothing that the law and all that it calls make is longer than what came in: it says more and counts as full. Else prove '..UptoSaid'. A law counts once. -/
mutual
def uptoBulk {H : Type} : DataW H → Nat
  | .lit (.string bytes) => bytes.length + 1
  | .lit _ => 1
  | .nil => 1
  | .ptr d => uptoBulk d + 1
  | .slice elems spare => uptoBulkAll elems + uptoBulkAll spare + 1
  | .agg parts => uptoBulkAll parts + 1
  | .iface _ d => uptoBulk d + 1
  | .map entries => uptoBulkEntries entries + 1
  | .held _ => 1
def uptoBulkAll {H : Type} : List (DataW H) → Nat
  | [] => 0
  | d :: r => uptoBulk d + uptoBulkAll r
def uptoBulkEntries {H : Type} : List (Lit × DataW H) → Nat
  | [] => 0
  | x :: r => uptoBulkEntry x + uptoBulkEntries r
def uptoBulkEntry {H : Type} : Lit × DataW H → Nat
  | (.string bytes, d) => bytes.length + uptoBulk d + 1
  | (_, d) => uptoBulk d + 1
 end
def uptoSmall : (H : Type) → List (DataW H) → Bool := fun _ ds => decide (uptoBulkAll ds ≤ 1048576)
def OpenSpec.upto (s : _root_.Go.ChangeSpec) : _root_.Go.OpenSpec := { _root_.Go.OpenSpec.ofChange s with cond := some uptoSmall }

/-- 'basculelaw05.RtuParts', WHERE WHAT IT READS IS OF BULK AT MOST 1048576: true; the input reads as it did. -/
def rtuPartsUptoRow : OpenClaim := { program := "ytabjlanomebonaa", sum := "acee691ebc300bce0156b82756f12d7c73544b1f8d6c1ccc35c9c8b8da3a0b17", func := "bascule/basculelaw05.RtuParts", spec := "rtuParts", apart := false, narrowed := true }
def RtuPartsUptoSaid : Prop := rtuPartsUptoRow.holds Try.pinned (OpenSpec.upto rtuPartsSpec)

/-- 'basculelaw05.RtuRow', WHERE WHAT IT READS IS OF BULK AT MOST 1048576: true; the input reads as it did. -/
def rtuRowUptoRow : OpenClaim := { program := "ytabjlanomebonaa", sum := "acee691ebc300bce0156b82756f12d7c73544b1f8d6c1ccc35c9c8b8da3a0b17", func := "bascule/basculelaw05.RtuRow", spec := "rtuRow", apart := false, narrowed := true }
def RtuRowUptoSaid : Prop := rtuRowUptoRow.holds Try.pinned (OpenSpec.upto rtuRowSpec)

/-- 'basculelaw06.MbapFrames', WHERE WHAT IT READS IS OF BULK AT MOST 1048576: true; the input reads as it did. -/
def mbapFramesUptoRow : OpenClaim := { program := "ytabjlanomebonaa", sum := "acee691ebc300bce0156b82756f12d7c73544b1f8d6c1ccc35c9c8b8da3a0b17", func := "bascule/basculelaw06.MbapFrames", spec := "mbapFrames", apart := false, narrowed := true }
def MbapFramesUptoSaid : Prop := mbapFramesUptoRow.holds Try.pinned (OpenSpec.upto mbapFramesSpec)

/-- 'basculelaw06.MbapFeeds', WHERE WHAT IT READS IS OF BULK AT MOST 1048576: true; the input reads as it did. -/
def mbapFeedsUptoRow : OpenClaim := { program := "ytabjlanomebonaa", sum := "acee691ebc300bce0156b82756f12d7c73544b1f8d6c1ccc35c9c8b8da3a0b17", func := "bascule/basculelaw06.MbapFeeds", spec := "mbapFeeds", apart := false, narrowed := true }
def MbapFeedsUptoSaid : Prop := mbapFeedsUptoRow.holds Try.pinned (OpenSpec.upto mbapFeedsSpec)

/-- 'basculelaw06.MbapParts', WHERE WHAT IT READS IS OF BULK AT MOST 1048576: true; the input reads as it did. -/
def mbapPartsUptoRow : OpenClaim := { program := "ytabjlanomebonaa", sum := "acee691ebc300bce0156b82756f12d7c73544b1f8d6c1ccc35c9c8b8da3a0b17", func := "bascule/basculelaw06.MbapParts", spec := "mbapParts", apart := false, narrowed := true }
def MbapPartsUptoSaid : Prop := mbapPartsUptoRow.holds Try.pinned (OpenSpec.upto mbapPartsSpec)

/-- 'basculelaw06.MbapOne', WHERE WHAT IT READS IS OF BULK AT MOST 1048576: true; the input reads as it did. -/
def mbapOneUptoRow : OpenClaim := { program := "ytabjlanomebonaa", sum := "acee691ebc300bce0156b82756f12d7c73544b1f8d6c1ccc35c9c8b8da3a0b17", func := "bascule/basculelaw06.MbapOne", spec := "mbapOne", apart := false, narrowed := true }
def MbapOneUptoSaid : Prop := mbapOneUptoRow.holds Try.pinned (OpenSpec.upto mbapOneSpec)

/-- 'basculelaw06.MbapNil', WHERE WHAT IT READS IS OF BULK AT MOST 1048576: true; the input reads as it did. -/
def mbapNilUptoRow : OpenClaim := { program := "ytabjlanomebonaa", sum := "acee691ebc300bce0156b82756f12d7c73544b1f8d6c1ccc35c9c8b8da3a0b17", func := "bascule/basculelaw06.MbapNil", spec := "mbapNil", apart := false, narrowed := true }
def MbapNilUptoSaid : Prop := mbapNilUptoRow.holds Try.pinned (OpenSpec.upto mbapNilSpec)

/-- 'basculelaw06.MbapLeft', WHERE WHAT IT READS IS OF BULK AT MOST 1048576: true; the input reads as it did. -/
def mbapLeftUptoRow : OpenClaim := { program := "ytabjlanomebonaa", sum := "acee691ebc300bce0156b82756f12d7c73544b1f8d6c1ccc35c9c8b8da3a0b17", func := "bascule/basculelaw06.MbapLeft", spec := "mbapLeft", apart := false, narrowed := true }
def MbapLeftUptoSaid : Prop := mbapLeftUptoRow.holds Try.pinned (OpenSpec.upto mbapLeftSpec)

/-- 'basculelaw05.RtuFrames', WHERE WHAT IT READS IS OF BULK AT MOST 1048576: true; the input reads as it did. -/
def rtuFramesUptoRow : OpenClaim := { program := "ytabjlanomebonaa", sum := "acee691ebc300bce0156b82756f12d7c73544b1f8d6c1ccc35c9c8b8da3a0b17", func := "bascule/basculelaw05.RtuFrames", spec := "rtuFrames", apart := false, narrowed := true }
def RtuFramesUptoSaid : Prop := rtuFramesUptoRow.holds Try.pinned (OpenSpec.upto rtuFramesSpec)

/-- 'basculelaw05.RtuBack', WHERE WHAT IT READS IS OF BULK AT MOST 1048576: true; the input reads as it did. -/
def rtuBackUptoRow : OpenClaim := { program := "ytabjlanomebonaa", sum := "acee691ebc300bce0156b82756f12d7c73544b1f8d6c1ccc35c9c8b8da3a0b17", func := "bascule/basculelaw05.RtuBack", spec := "rtuBack", apart := false, narrowed := true }
def RtuBackUptoSaid : Prop := rtuBackUptoRow.holds Try.pinned (OpenSpec.upto rtuBackSpec)

end Rows
end Go.Proofs.Ytabjlanomebonaa

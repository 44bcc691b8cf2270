/-
  No cell of these rows narrows 'for every input' (looked for: loops, veiled, ifaces, maps, wideKeys, modest, calm, conditions, laid).
  DERIVED. THE GIVEN ROWS OF THIS SEAT. 6 by the template 'for every input the law returns true; each argument reads behind the call as it read before'; 0 by the template 'total and deterministic' (their statements: YtcnmgpalmmlghaaTotals.lean).
  GIVEN WITH THE SEED: the statements are not yours to turn. If you find one false, say at which input.
  Laid BY PROGRAM, IN A SANDBOX (cutbox-rows.mjs): the forced cells as the released guide's own fill.sh prints them over the translation 6a5ea1e32d554216… (all of the seat's roots in one cut). By AI agents, Wed Nov 11 2026. No macro, syntax, notation, axiom, sorry.
-/
import Derived.Test.YtcnmgpalmmlghaaChecked
import GoSem.Claim
import GoSem.ClaimJoined
import GoSem.ClaimMapViews
import Derived.JoinedTies
import Derived.KernelRfl
namespace Go.Proofs.Ytcnmgpalmmlghaa
/- THE CELL 'sum', in the pinned program and in every row, IS THE sha256 OF THE DUMP (.gsa) THAT YtcnmgpalmmlghaaProg.lean LOADS. Nothing in Lean hashes anything: it is a label: what it is worth is what the hold of that sum in a sandbox is worth. -/
noncomputable def Try.pinned : Pinned := { name := "ytcnmgpalmmlghaa", sum := "6a5ea1e32d55421626f1c3a1df6c029f0c376efce01ed52d3be7c835871dd706", checked := Try.checked }
namespace Rows
def none {H : Type} : Left H := { results := [], args := [] }

/-- 'ragpickerlaw01.HeadTells': WHATEVER THE INPUT: true; the input reads as it did. -/
def headTellsSpec : ChangeSpec := { name := "headTells", fn := fun _ => fun
  | [d1, d2] => { results := [.lit (.bool true)], args := [d1, d2] }
  | _ => none }
def headTellsRow : OpenClaim := { program := "ytcnmgpalmmlghaa", sum := "6a5ea1e32d55421626f1c3a1df6c029f0c376efce01ed52d3be7c835871dd706", func := "ragpicker/ragpickerlaw01.HeadTells", spec := "headTells", apart := false }
def HeadTellsSaid : Prop := headTellsRow.holds Try.pinned (OpenSpec.ofChange headTellsSpec)

/-- ITS FALSE NEIGHBOUR: 'it returns false'. Refute it at one input. -/
def headTellsWrong : ChangeSpec := { name := "headTells", fn := fun _ => fun
  | [d1, d2] => { results := [.lit (.bool false)], args := [d1, d2] }
  | _ => none }
def HeadTellsWrongFalsely : Prop := headTellsRow.holds Try.pinned (OpenSpec.ofChange headTellsWrong)

/-- 'ragpickerlaw01.HeadBack': WHATEVER THE INPUT: true; the input reads as it did. -/
def headBackSpec : ChangeSpec := { name := "headBack", fn := fun _ => fun
  | [d1, d2] => { results := [.lit (.bool true)], args := [d1, d2] }
  | _ => none }
def headBackRow : OpenClaim := { program := "ytcnmgpalmmlghaa", sum := "6a5ea1e32d55421626f1c3a1df6c029f0c376efce01ed52d3be7c835871dd706", func := "ragpicker/ragpickerlaw01.HeadBack", spec := "headBack", apart := false }
def HeadBackSaid : Prop := headBackRow.holds Try.pinned (OpenSpec.ofChange headBackSpec)

/-- ITS FALSE NEIGHBOUR: 'it returns false'. Refute it at one input. -/
def headBackWrong : ChangeSpec := { name := "headBack", fn := fun _ => fun
  | [d1, d2] => { results := [.lit (.bool false)], args := [d1, d2] }
  | _ => none }
def HeadBackWrongFalsely : Prop := headBackRow.holds Try.pinned (OpenSpec.ofChange headBackWrong)

/-- 'ragpickerlaw01.HeadApart': WHATEVER THE INPUT: true; the input reads as it did. -/
def headApartSpec : ChangeSpec := { name := "headApart", fn := fun _ => fun
  | [d1, d2] => { results := [.lit (.bool true)], args := [d1, d2] }
  | _ => none }
def headApartRow : OpenClaim := { program := "ytcnmgpalmmlghaa", sum := "6a5ea1e32d55421626f1c3a1df6c029f0c376efce01ed52d3be7c835871dd706", func := "ragpicker/ragpickerlaw01.HeadApart", spec := "headApart", apart := false }
def HeadApartSaid : Prop := headApartRow.holds Try.pinned (OpenSpec.ofChange headApartSpec)

/-- ITS FALSE NEIGHBOUR: 'it returns false'. Refute it at one input. -/
def headApartWrong : ChangeSpec := { name := "headApart", fn := fun _ => fun
  | [d1, d2] => { results := [.lit (.bool false)], args := [d1, d2] }
  | _ => none }
def HeadApartWrongFalsely : Prop := headApartRow.holds Try.pinned (OpenSpec.ofChange headApartWrong)

/-- 'ragpickerlaw01.HeadBits': WHATEVER THE INPUT: true; the input reads as it did. -/
def headBitsSpec : ChangeSpec := { name := "headBits", fn := fun _ => fun
  | [d1, d2] => { results := [.lit (.bool true)], args := [d1, d2] }
  | _ => none }
def headBitsRow : OpenClaim := { program := "ytcnmgpalmmlghaa", sum := "6a5ea1e32d55421626f1c3a1df6c029f0c376efce01ed52d3be7c835871dd706", func := "ragpicker/ragpickerlaw01.HeadBits", spec := "headBits", apart := false }
def HeadBitsSaid : Prop := headBitsRow.holds Try.pinned (OpenSpec.ofChange headBitsSpec)

/-- ITS FALSE NEIGHBOUR: 'it returns false'. Refute it at one input. -/
def headBitsWrong : ChangeSpec := { name := "headBits", fn := fun _ => fun
  | [d1, d2] => { results := [.lit (.bool false)], args := [d1, d2] }
  | _ => none }
def HeadBitsWrongFalsely : Prop := headBitsRow.holds Try.pinned (OpenSpec.ofChange headBitsWrong)

/-- 'ragpickerlaw01.HeadOrder': WHATEVER THE INPUT: true; the input reads as it did. -/
def headOrderSpec : ChangeSpec := { name := "headOrder", fn := fun _ => fun
  | [d1, d2, d3, d4] => { results := [.lit (.bool true)], args := [d1, d2, d3, d4] }
  | _ => none }
def headOrderRow : OpenClaim := { program := "ytcnmgpalmmlghaa", sum := "6a5ea1e32d55421626f1c3a1df6c029f0c376efce01ed52d3be7c835871dd706", func := "ragpicker/ragpickerlaw01.HeadOrder", spec := "headOrder", apart := false }
def HeadOrderSaid : Prop := headOrderRow.holds Try.pinned (OpenSpec.ofChange headOrderSpec)

/-- ITS FALSE NEIGHBOUR: 'it returns false'. Refute it at one input. -/
def headOrderWrong : ChangeSpec := { name := "headOrder", fn := fun _ => fun
  | [d1, d2, d3, d4] => { results := [.lit (.bool false)], args := [d1, d2, d3, d4] }
  | _ => none }
def HeadOrderWrongFalsely : Prop := headOrderRow.holds Try.pinned (OpenSpec.ofChange headOrderWrong)

/-- 'ragpickerlaw01.HeadOdd': WHATEVER THE INPUT: true; the input reads as it did. -/
def headOddSpec : ChangeSpec := { name := "headOdd", fn := fun _ => fun
  | [d] => { results := [.lit (.bool true)], args := [d] }
  | _ => none }
def headOddRow : OpenClaim := { program := "ytcnmgpalmmlghaa", sum := "6a5ea1e32d55421626f1c3a1df6c029f0c376efce01ed52d3be7c835871dd706", func := "ragpicker/ragpickerlaw01.HeadOdd", spec := "headOdd", apart := false }
def HeadOddSaid : Prop := headOddRow.holds Try.pinned (OpenSpec.ofChange headOddSpec)

/-- ITS FALSE NEIGHBOUR: 'it returns false'. Refute it at one input. -/
def headOddWrong : ChangeSpec := { name := "headOdd", fn := fun _ => fun
  | [d] => { results := [.lit (.bool false)], args := [d] }
  | _ => none }
def HeadOddWrongFalsely : Prop := headOddRow.holds Try.pinned (OpenSpec.ofChange headOddWrong)

/- THE SECOND FORM. 'bulk': how many values and letters a reading holds, each counted each time it is reached (what is shared counts as often as it is met; a slice's spare places count too). A statement '..UptoSaid' is the law's where the arguments, and the package variables that the reading takes, are together of bulk at most 1048576: NARROWER than '..Said'. Prove '..Said' where nothing that the law and all that it calls make is longer than what came in: it says more and counts as full. Else prove '..UptoSaid'. A law counts once. -/
mutual
def uptoBulk {H : Type} : DataW H → Nat
  | .lit (.string bytes) => bytes.length + 1
  | .lit _ => 1
  | .nil => 1
  | .ptr d => uptoBulk d + 1
  | .slice elems spare => uptoBulkAll elems + uptoBulkAll spare + 1
  | .agg parts => uptoBulkAll parts + 1
  | .iface _ d => uptoBulk d + 1
  | .map entries => uptoBulkEntries entries + 1
  | .held _ => 1
def uptoBulkAll {H : Type} : List (DataW H) → Nat
  | [] => 0
  | d :: r => uptoBulk d + uptoBulkAll r
def uptoBulkEntries {H : Type} : List (Lit × DataW H) → Nat
  | [] => 0
  | x :: r => uptoBulkEntry x + uptoBulkEntries r
def uptoBulkEntry {H : Type} : Lit × DataW H → Nat
  | (.string bytes, d) => bytes.length + uptoBulk d + 1
  | (_, d) => uptoBulk d + 1
 end
def uptoSmall : (H : Type) → List (DataW H) → Bool := fun _ ds => decide (uptoBulkAll ds ≤ 1048576)
def OpenSpec.upto (s : _root_.Go.ChangeSpec) : _root_.Go.OpenSpec := { _root_.Go.OpenSpec.ofChange s with cond := some uptoSmall }

/-- 'ragpickerlaw01.HeadTells', WHERE WHAT IT READS IS OF BULK AT MOST 1048576: true; the input reads as it did. -/
def headTellsUptoRow : OpenClaim := { program := "ytcnmgpalmmlghaa", sum := "6a5ea1e32d55421626f1c3a1df6c029f0c376efce01ed52d3be7c835871dd706", func := "ragpicker/ragpickerlaw01.HeadTells", spec := "headTells", apart := false, narrowed := true }
def HeadTellsUptoSaid : Prop := headTellsUptoRow.holds Try.pinned (OpenSpec.upto headTellsSpec)

/-- 'ragpickerlaw01.HeadBack', WHERE WHAT IT READS IS OF BULK AT MOST 1048576: true; the input reads as it did. -/
def headBackUptoRow : OpenClaim := { program := "ytcnmgpalmmlghaa", sum := "6a5ea1e32d55421626f1c3a1df6c029f0c376efce01ed52d3be7c835871dd706", func := "ragpicker/ragpickerlaw01.HeadBack", spec := "headBack", apart := false, narrowed := true }
def HeadBackUptoSaid : Prop := headBackUptoRow.holds Try.pinned (OpenSpec.upto headBackSpec)

/-- 'ragpickerlaw01.HeadApart', WHERE WHAT IT READS IS OF BULK AT MOST 1048576: true; the input reads as it did. -/
def headApartUptoRow : OpenClaim := { program := "ytcnmgpalmmlghaa", sum := "6a5ea1e32d55421626f1c3a1df6c029f0c376efce01ed52d3be7c835871dd706", func := "ragpicker/ragpickerlaw01.HeadApart", spec := "headApart", apart := false, narrowed := true }
def HeadApartUptoSaid : Prop := headApartUptoRow.holds Try.pinned (OpenSpec.upto headApartSpec)

/-- 'ragpickerlaw01.HeadBits', WHERE WHAT IT READS IS OF BULK AT MOST 1048576: true; the input reads as it did. -/
def headBitsUptoRow : OpenClaim := { program := "ytcnmgpalmmlghaa", sum := "6a5ea1e32d55421626f1c3a1df6c029f0c376efce01ed52d3be7c835871dd706", func := "ragpicker/ragpickerlaw01.HeadBits", spec := "headBits", apart := false, narrowed := true }
def HeadBitsUptoSaid : Prop := headBitsUptoRow.holds Try.pinned (OpenSpec.upto headBitsSpec)

/-- 'ragpickerlaw01.HeadOrder', WHERE WHAT IT READS IS OF BULK AT MOST 1048576: true; the input reads as it did. -/
def headOrderUptoRow : OpenClaim := { program := "ytcnmgpalmmlghaa", sum := "6a5ea1e32d55421626f1c3a1df6c029f0c376efce01ed52d3be7c835871dd706", func := "ragpicker/ragpickerlaw01.HeadOrder", spec := "headOrder", apart := false, narrowed := true }
def HeadOrderUptoSaid : Prop := headOrderUptoRow.holds Try.pinned (OpenSpec.upto headOrderSpec)

/-- 'ragpickerlaw01.HeadOdd', WHERE WHAT IT READS IS OF BULK AT MOST 1048576: true; the input reads as it did. -/
def headOddUptoRow : OpenClaim := { program := "ytcnmgpalmmlghaa", sum := "6a5ea1e32d55421626f1c3a1df6c029f0c376efce01ed52d3be7c835871dd706", func := "ragpicker/ragpickerlaw01.HeadOdd", spec := "headOdd", apart := false, narrowed := true }
def HeadOddUptoSaid : Prop := headOddUptoRow.holds Try.pinned (OpenSpec.upto headOddSpec)

end Rows
end Go.Proofs.Ytcnmgpalmmlghaa

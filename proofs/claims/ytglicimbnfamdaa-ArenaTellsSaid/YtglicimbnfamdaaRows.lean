/-
  No cell of these rows narrows 'for every input' (looked for: loops, veiled, ifaces, maps, wideKeys, modest, calm, conditions, laid).
  DERIVED. THE GIVEN ROWS OF THIS SEAT. 7 by the template 'for every input the law returns true; each argument reads behind the call as it read before'; 0 by the template 'total and deterministic' (their statements: YtglicimbnfamdaaTotals.lean).
  GIVEN WITH THE SEED: the statements are not yours to turn. If you find one false, say at which input.
  Laid BY PROGRAM, IN A SANDBOX (cutbox-rows.mjs): the forced cells as the released guide's own fill.sh prints them over the translation 6cc36cf77dd2307b… (all of the seat's roots in one cut). By AI agents, Wed Nov 11 2026. No macro, syntax, notation, axiom, sorry.
-/
import Derived.Test.YtglicimbnfamdaaChecked
import GoSem.Claim
import GoSem.ClaimJoined
import GoSem.ClaimMapViews
import Derived.JoinedTies
import Derived.KernelRfl
namespace Go.Proofs.Ytglicimbnfamdaa
/- THE CELL 'sum', in the pinned program and in every row, IS THE sha256 OF THE DUMP (.gsa) THAT YtglicimbnfamdaaProg.lean LOADS. Nothing in Lean hashes anything: it is a label: what it is worth is what the hold of that sum in a sandbox is worth. -/
noncomputable def Try.pinned : Pinned := { name := "ytglicimbnfamdaa", sum := "6cc36cf77dd2307bde3913d13d60662c1d052b11a25463e567fcf359d6a6aacb", checked := Try.checked }
namespace Rows
def none {H : Type} : Left H := { results := [], args := [] }

/-- 'ragpickerlaw02.ArenaNew': WHATEVER THE INPUT: true; the input reads as it did. -/
def arenaNewSpec : ChangeSpec := { name := "arenaNew", fn := fun _ => fun
  | [d] => { results := [.lit (.bool true)], args := [d] }
  | _ => none }
def arenaNewRow : OpenClaim := { program := "ytglicimbnfamdaa", sum := "6cc36cf77dd2307bde3913d13d60662c1d052b11a25463e567fcf359d6a6aacb", func := "ragpicker/ragpickerlaw02.ArenaNew", spec := "arenaNew", apart := false }
def ArenaNewSaid : Prop := arenaNewRow.holds Try.pinned (OpenSpec.ofChange arenaNewSpec)

/-- ITS FALSE NEIGHBOUR: 'it returns false'. Refute it at one input. -/
def arenaNewWrong : ChangeSpec := { name := "arenaNew", fn := fun _ => fun
  | [d] => { results := [.lit (.bool false)], args := [d] }
  | _ => none }
def ArenaNewWrongFalsely : Prop := arenaNewRow.holds Try.pinned (OpenSpec.ofChange arenaNewWrong)

/-- 'ragpickerlaw02.ArenaPages': WHATEVER THE INPUT: true; the input reads as it did. -/
def arenaPagesSpec : ChangeSpec := { name := "arenaPages", fn := fun _ => fun
  | [d1, d2] => { results := [.lit (.bool true)], args := [d1, d2] }
  | _ => none }
def arenaPagesRow : OpenClaim := { program := "ytglicimbnfamdaa", sum := "6cc36cf77dd2307bde3913d13d60662c1d052b11a25463e567fcf359d6a6aacb", func := "ragpicker/ragpickerlaw02.ArenaPages", spec := "arenaPages", apart := false }
def ArenaPagesSaid : Prop := arenaPagesRow.holds Try.pinned (OpenSpec.ofChange arenaPagesSpec)

/-- ITS FALSE NEIGHBOUR: 'it returns false'. Refute it at one input. -/
def arenaPagesWrong : ChangeSpec := { name := "arenaPages", fn := fun _ => fun
  | [d1, d2] => { results := [.lit (.bool false)], args := [d1, d2] }
  | _ => none }
def ArenaPagesWrongFalsely : Prop := arenaPagesRow.holds Try.pinned (OpenSpec.ofChange arenaPagesWrong)

/-- 'ragpickerlaw02.ArenaPuts': WHATEVER THE INPUT: true; the input reads as it did. -/
def arenaPutsSpec : ChangeSpec := { name := "arenaPuts", fn := fun _ => fun
  | [d1, d2, d3] => { results := [.lit (.bool true)], args := [d1, d2, d3] }
  | _ => none }
def arenaPutsRow : OpenClaim := { program := "ytglicimbnfamdaa", sum := "6cc36cf77dd2307bde3913d13d60662c1d052b11a25463e567fcf359d6a6aacb", func := "ragpicker/ragpickerlaw02.ArenaPuts", spec := "arenaPuts", apart := false }
def ArenaPutsSaid : Prop := arenaPutsRow.holds Try.pinned (OpenSpec.ofChange arenaPutsSpec)

/-- ITS FALSE NEIGHBOUR: 'it returns false'. Refute it at one input. -/
def arenaPutsWrong : ChangeSpec := { name := "arenaPuts", fn := fun _ => fun
  | [d1, d2, d3] => { results := [.lit (.bool false)], args := [d1, d2, d3] }
  | _ => none }
def ArenaPutsWrongFalsely : Prop := arenaPutsRow.holds Try.pinned (OpenSpec.ofChange arenaPutsWrong)

/-- 'ragpickerlaw02.ArenaZeros': WHATEVER THE INPUT: true; the input reads as it did. -/
def arenaZerosSpec : ChangeSpec := { name := "arenaZeros", fn := fun _ => fun
  | [d1, d2, d3] => { results := [.lit (.bool true)], args := [d1, d2, d3] }
  | _ => none }
def arenaZerosRow : OpenClaim := { program := "ytglicimbnfamdaa", sum := "6cc36cf77dd2307bde3913d13d60662c1d052b11a25463e567fcf359d6a6aacb", func := "ragpicker/ragpickerlaw02.ArenaZeros", spec := "arenaZeros", apart := false }
def ArenaZerosSaid : Prop := arenaZerosRow.holds Try.pinned (OpenSpec.ofChange arenaZerosSpec)

/-- ITS FALSE NEIGHBOUR: 'it returns false'. Refute it at one input. -/
def arenaZerosWrong : ChangeSpec := { name := "arenaZeros", fn := fun _ => fun
  | [d1, d2, d3] => { results := [.lit (.bool false)], args := [d1, d2, d3] }
  | _ => none }
def ArenaZerosWrongFalsely : Prop := arenaZerosRow.holds Try.pinned (OpenSpec.ofChange arenaZerosWrong)

/-- 'ragpickerlaw02.ArenaTwice': WHATEVER THE INPUT: true; the input reads as it did. -/
def arenaTwiceSpec : ChangeSpec := { name := "arenaTwice", fn := fun _ => fun
  | [d1, d2, d3, d4, d5] => { results := [.lit (.bool true)], args := [d1, d2, d3, d4, d5] }
  | _ => none }
def arenaTwiceRow : OpenClaim := { program := "ytglicimbnfamdaa", sum := "6cc36cf77dd2307bde3913d13d60662c1d052b11a25463e567fcf359d6a6aacb", func := "ragpicker/ragpickerlaw02.ArenaTwice", spec := "arenaTwice", apart := false }
def ArenaTwiceSaid : Prop := arenaTwiceRow.holds Try.pinned (OpenSpec.ofChange arenaTwiceSpec)

/-- ITS FALSE NEIGHBOUR: 'it returns false'. Refute it at one input. -/
def arenaTwiceWrong : ChangeSpec := { name := "arenaTwice", fn := fun _ => fun
  | [d1, d2, d3, d4, d5] => { results := [.lit (.bool false)], args := [d1, d2, d3, d4, d5] }
  | _ => none }
def ArenaTwiceWrongFalsely : Prop := arenaTwiceRow.holds Try.pinned (OpenSpec.ofChange arenaTwiceWrong)

/-- 'ragpickerlaw02.ArenaEdges': WHATEVER THE INPUT: true; the input reads as it did. -/
def arenaEdgesSpec : ChangeSpec := { name := "arenaEdges", fn := fun _ => fun
  | [d1, d2] => { results := [.lit (.bool true)], args := [d1, d2] }
  | _ => none }
def arenaEdgesRow : OpenClaim := { program := "ytglicimbnfamdaa", sum := "6cc36cf77dd2307bde3913d13d60662c1d052b11a25463e567fcf359d6a6aacb", func := "ragpicker/ragpickerlaw02.ArenaEdges", spec := "arenaEdges", apart := false }
def ArenaEdgesSaid : Prop := arenaEdgesRow.holds Try.pinned (OpenSpec.ofChange arenaEdgesSpec)

/-- ITS FALSE NEIGHBOUR: 'it returns false'. Refute it at one input. -/
def arenaEdgesWrong : ChangeSpec := { name := "arenaEdges", fn := fun _ => fun
  | [d1, d2] => { results := [.lit (.bool false)], args := [d1, d2] }
  | _ => none }
def ArenaEdgesWrongFalsely : Prop := arenaEdgesRow.holds Try.pinned (OpenSpec.ofChange arenaEdgesWrong)

/-- 'ragpickerlaw02.ArenaTells': WHATEVER THE INPUT: true; the input reads as it did. -/
def arenaTellsSpec : ChangeSpec := { name := "arenaTells", fn := fun _ => fun
  | [d1, d2, d3, d4] => { results := [.lit (.bool true)], args := [d1, d2, d3, d4] }
  | _ => none }
def arenaTellsRow : OpenClaim := { program := "ytglicimbnfamdaa", sum := "6cc36cf77dd2307bde3913d13d60662c1d052b11a25463e567fcf359d6a6aacb", func := "ragpicker/ragpickerlaw02.ArenaTells", spec := "arenaTells", apart := false }
def ArenaTellsSaid : Prop := arenaTellsRow.holds Try.pinned (OpenSpec.ofChange arenaTellsSpec)

/-- ITS FALSE NEIGHBOUR: 'it returns false'. Refute it at one input. -/
def arenaTellsWrong : ChangeSpec := { name := "arenaTells", fn := fun _ => fun
  | [d1, d2, d3, d4] => { results := [.lit (.bool false)], args := [d1, d2, d3, d4] }
  | _ => none }
def ArenaTellsWrongFalsely : Prop := arenaTellsRow.holds Try.pinned (OpenSpec.ofChange arenaTellsWrong)

/- THE SECOND FORM. 'bulk': how many values and letters a reading holds, each counted each time it is reached (what is shared counts as often as it is met; a slice's spare places count too). A statement '..UptoSaid' is the law's where the arguments, and the package variables that the reading takes, are together of bulk at most 1048576: NARROWER than '..Said'. Prove '..Said' where nothing that the law and all that it calls make is longer than what came in: it says more and counts as full. Else prove '..UptoSaid'. A law counts once. -/
mutual
def uptoBulk {H : Type} : DataW H → Nat
  | .lit (.string bytes) => bytes.length + 1
  | .lit _ => 1
  | .nil => 1
  | .ptr d => uptoBulk d + 1
  | .slice elems spare => uptoBulkAll elems + uptoBulkAll spare + 1
  | .agg parts => uptoBulkAll parts + 1
  | .iface _ d => uptoBulk d + 1
  | .map entries => uptoBulkEntries entries + 1
  | .held _ => 1
def uptoBulkAll {H : Type} : List (DataW H) → Nat
  | [] => 0
  | d :: r => uptoBulk d + uptoBulkAll r
def uptoBulkEntries {H : Type} : List (Lit × DataW H) → Nat
  | [] => 0
  | x :: r => uptoBulkEntry x + uptoBulkEntries r
def uptoBulkEntry {H : Type} : Lit × DataW H → Nat
  | (.string bytes, d) => bytes.length + uptoBulk d + 1
  | (_, d) => uptoBulk d + 1
 end
def uptoSmall : (H : Type) → List (DataW H) → Bool := fun _ ds => decide (uptoBulkAll ds ≤ 1048576)
def OpenSpec.upto (s : _root_.Go.ChangeSpec) : _root_.Go.OpenSpec := { _root_.Go.OpenSpec.ofChange s with cond := some uptoSmall }

/-- 'ragpickerlaw02.ArenaNew', WHERE WHAT IT READS IS OF BULK AT MOST 1048576: true; the input reads as it did. -/
def arenaNewUptoRow : OpenClaim := { program := "ytglicimbnfamdaa", sum := "6cc36cf77dd2307bde3913d13d60662c1d052b11a25463e567fcf359d6a6aacb", func := "ragpicker/ragpickerlaw02.ArenaNew", spec := "arenaNew", apart := false, narrowed := true }
def ArenaNewUptoSaid : Prop := arenaNewUptoRow.holds Try.pinned (OpenSpec.upto arenaNewSpec)

/-- 'ragpickerlaw02.ArenaPages', WHERE WHAT IT READS IS OF BULK AT MOST 1048576: true; the input reads as it did. -/
def arenaPagesUptoRow : OpenClaim := { program := "ytglicimbnfamdaa", sum := "6cc36cf77dd2307bde3913d13d60662c1d052b11a25463e567fcf359d6a6aacb", func := "ragpicker/ragpickerlaw02.ArenaPages", spec := "arenaPages", apart := false, narrowed := true }
def ArenaPagesUptoSaid : Prop := arenaPagesUptoRow.holds Try.pinned (OpenSpec.upto arenaPagesSpec)

/-- 'ragpickerlaw02.ArenaPuts', WHERE WHAT IT READS IS OF BULK AT MOST 1048576: true; the input reads as it did. -/
def arenaPutsUptoRow : OpenClaim := { program := "ytglicimbnfamdaa", sum := "6cc36cf77dd2307bde3913d13d60662c1d052b11a25463e567fcf359d6a6aacb", func := "ragpicker/ragpickerlaw02.ArenaPuts", spec := "arenaPuts", apart := false, narrowed := true }
def ArenaPutsUptoSaid : Prop := arenaPutsUptoRow.holds Try.pinned (OpenSpec.upto arenaPutsSpec)

/-- 'ragpickerlaw02.ArenaZeros', WHERE WHAT IT READS IS OF BULK AT MOST 1048576: true; the input reads as it did. -/
def arenaZerosUptoRow : OpenClaim := { program := "ytglicimbnfamdaa", sum := "6cc36cf77dd2307bde3913d13d60662c1d052b11a25463e567fcf359d6a6aacb", func := "ragpicker/ragpickerlaw02.ArenaZeros", spec := "arenaZeros", apart := false, narrowed := true }
def ArenaZerosUptoSaid : Prop := arenaZerosUptoRow.holds Try.pinned (OpenSpec.upto arenaZerosSpec)

/-- 'ragpickerlaw02.ArenaTwice', WHERE WHAT IT READS IS OF BULK AT MOST 1048576: true; the input reads as it did. -/
def arenaTwiceUptoRow : OpenClaim := { program := "ytglicimbnfamdaa", sum := "6cc36cf77dd2307bde3913d13d60662c1d052b11a25463e567fcf359d6a6aacb", func := "ragpicker/ragpickerlaw02.ArenaTwice", spec := "arenaTwice", apart := false, narrowed := true }
def ArenaTwiceUptoSaid : Prop := arenaTwiceUptoRow.holds Try.pinned (OpenSpec.upto arenaTwiceSpec)

/-- 'ragpickerlaw02.ArenaEdges', WHERE WHAT IT READS IS OF BULK AT MOST 1048576: true; the input reads as it did. -/
def arenaEdgesUptoRow : OpenClaim := { program := "ytglicimbnfamdaa", sum := "6cc36cf77dd2307bde3913d13d60662c1d052b11a25463e567fcf359d6a6aacb", func := "ragpicker/ragpickerlaw02.ArenaEdges", spec := "arenaEdges", apart := false, narrowed := true }
def ArenaEdgesUptoSaid : Prop := arenaEdgesUptoRow.holds Try.pinned (OpenSpec.upto arenaEdgesSpec)

/-- 'ragpickerlaw02.ArenaTells', WHERE WHAT IT READS IS OF BULK AT MOST 1048576: true; the input reads as it did. -/
def arenaTellsUptoRow : OpenClaim := { program := "ytglicimbnfamdaa", sum := "6cc36cf77dd2307bde3913d13d60662c1d052b11a25463e567fcf359d6a6aacb", func := "ragpicker/ragpickerlaw02.ArenaTells", spec := "arenaTells", apart := false, narrowed := true }
def ArenaTellsUptoSaid : Prop := arenaTellsUptoRow.holds Try.pinned (OpenSpec.upto arenaTellsSpec)

end Rows
end Go.Proofs.Ytglicimbnfamdaa

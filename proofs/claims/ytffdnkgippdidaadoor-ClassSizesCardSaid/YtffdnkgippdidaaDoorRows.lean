/-
  NARROWER THAN 'FOR EVERY INPUT', by the rows' own cells (each row's printed sentence says how): ClassMore: laid · ClassRuns: laid · ClassWaste: laid · ClassTells: laid · ClassFits: laid · ClassSizes: laid.
  DERIVED. THE GIVEN ROWS OF THIS SEAT. 6 by the template 'for every input the law returns true; each argument reads behind the call as it read before'; 0 by the template 'total and deterministic' (their statements: YtffdnkgippdidaaDoorTotals.lean).
  GIVEN WITH THE SEED: the statements are not yours to turn. If you find one false, say at which input.
  Laid BY PROGRAM, IN A SANDBOX (cutbox-rows.mjs): the forced cells as the released guide's own fill.sh prints them over the translation 7df81bae5adfdb6f… (all of the seat's roots in one cut). By AI agents, Wed Nov 11 2026. No macro, syntax, notation, axiom, sorry.
-/
import Derived.Test.YtffdnkgippdidaaDoorChecked
import GoSem.Claim
import GoSem.ClaimJoined
import GoSem.ClaimMapViews
import Derived.JoinedTies
import Derived.KernelRfl
namespace Go.Proofs.YtffdnkgippdidaaDoor
/- THE CELL 'sum', in the pinned program and in every row, IS THE sha256 OF THE DUMP (.gsa) THAT YtffdnkgippdidaaDoorProg.lean LOADS. Nothing in Lean hashes anything: it is a label: what it is worth is what the hold of that sum in a sandbox is worth. -/
noncomputable def Tryd.pinned : Pinned := { name := "ytffdnkgippdidaadoor", sum := "7df81bae5adfdb6f1aa46c067c53431fd7e6b30bbd4d74d5a16c9654e8da5444", checked := Tryd.checked }
namespace Rows
def none {H : Type} : Left H := { results := [], args := [] }

/- WHAT THE LISTED PACKAGE-LEVEL VARIABLES READ AS WHEN THE CALL BEGINS. Each datum BY PROGRAM (the guide's laid-datum.mjs) off the statement by which the dump's own 'gosem.cut.vars' lays the variable. In a bare row this is a premise. The card (YtffdnkgippdidaaDoorCards.lean) ties it to the program's text. -/
def laid_ragpicker_class_words {H : Type} : DataW H := .agg [.lit (.int .i64 2), .lit (.int .i64 4), .lit (.int .i64 8)]

/-- 'ragpickerlaw03.ClassMore': WHATEVER THE INPUT: true; the input reads as it did. -/
def classMoreSpec : ChangeSpec := { name := "classMore", fn := fun _ => fun
  | [d1, d2] => { results := [.lit (.bool true)], args := [d1, d2] }
  | _ => none }
def classMoreRow : OpenClaim := { program := "ytffdnkgippdidaadoor", sum := "7df81bae5adfdb6f1aa46c067c53431fd7e6b30bbd4d74d5a16c9654e8da5444", func := "ragpicker/ragpickerlaw03.ClassMore", spec := "classMore", named := ["ragpicker/class.words"], apart := false, laid := [("ragpicker/class.words", laid_ragpicker_class_words)] }
def ClassMoreSaid : Prop := classMoreRow.holds Tryd.pinned (OpenSpec.ofChange classMoreSpec)

/-- ITS FALSE NEIGHBOUR: 'it returns false'. Refute it at one input. -/
def classMoreWrong : ChangeSpec := { name := "classMore", fn := fun _ => fun
  | [d1, d2] => { results := [.lit (.bool false)], args := [d1, d2] }
  | _ => none }
def ClassMoreWrongFalsely : Prop := classMoreRow.holds Tryd.pinned (OpenSpec.ofChange classMoreWrong)

/-- 'ragpickerlaw03.ClassRuns': WHATEVER THE INPUT: true; the input reads as it did. -/
def classRunsSpec : ChangeSpec := { name := "classRuns", fn := fun _ => fun
  | [d] => { results := [.lit (.bool true)], args := [d] }
  | _ => none }
def classRunsRow : OpenClaim := { program := "ytffdnkgippdidaadoor", sum := "7df81bae5adfdb6f1aa46c067c53431fd7e6b30bbd4d74d5a16c9654e8da5444", func := "ragpicker/ragpickerlaw03.ClassRuns", spec := "classRuns", named := ["ragpicker/class.words"], apart := false, laid := [("ragpicker/class.words", laid_ragpicker_class_words)] }
def ClassRunsSaid : Prop := classRunsRow.holds Tryd.pinned (OpenSpec.ofChange classRunsSpec)

/-- ITS FALSE NEIGHBOUR: 'it returns false'. Refute it at one input. -/
def classRunsWrong : ChangeSpec := { name := "classRuns", fn := fun _ => fun
  | [d] => { results := [.lit (.bool false)], args := [d] }
  | _ => none }
def ClassRunsWrongFalsely : Prop := classRunsRow.holds Tryd.pinned (OpenSpec.ofChange classRunsWrong)

/-- 'ragpickerlaw03.ClassWaste': WHATEVER THE INPUT: true; the input reads as it did. -/
def classWasteSpec : ChangeSpec := { name := "classWaste", fn := fun _ => fun
  | [d] => { results := [.lit (.bool true)], args := [d] }
  | _ => none }
def classWasteRow : OpenClaim := { program := "ytffdnkgippdidaadoor", sum := "7df81bae5adfdb6f1aa46c067c53431fd7e6b30bbd4d74d5a16c9654e8da5444", func := "ragpicker/ragpickerlaw03.ClassWaste", spec := "classWaste", named := ["ragpicker/class.words"], apart := false, laid := [("ragpicker/class.words", laid_ragpicker_class_words)] }
def ClassWasteSaid : Prop := classWasteRow.holds Tryd.pinned (OpenSpec.ofChange classWasteSpec)

/-- ITS FALSE NEIGHBOUR: 'it returns false'. Refute it at one input. -/
def classWasteWrong : ChangeSpec := { name := "classWaste", fn := fun _ => fun
  | [d] => { results := [.lit (.bool false)], args := [d] }
  | _ => none }
def ClassWasteWrongFalsely : Prop := classWasteRow.holds Tryd.pinned (OpenSpec.ofChange classWasteWrong)

/-- 'ragpickerlaw03.ClassTells': WHATEVER THE INPUT: true; the input reads as it did. -/
def classTellsSpec : ChangeSpec := { name := "classTells", fn := fun _ => fun
  | [d1, d2] => { results := [.lit (.bool true)], args := [d1, d2] }
  | _ => none }
def classTellsRow : OpenClaim := { program := "ytffdnkgippdidaadoor", sum := "7df81bae5adfdb6f1aa46c067c53431fd7e6b30bbd4d74d5a16c9654e8da5444", func := "ragpicker/ragpickerlaw03.ClassTells", spec := "classTells", named := ["ragpicker/class.words"], apart := false, laid := [("ragpicker/class.words", laid_ragpicker_class_words)] }
def ClassTellsSaid : Prop := classTellsRow.holds Tryd.pinned (OpenSpec.ofChange classTellsSpec)

/-- ITS FALSE NEIGHBOUR: 'it returns false'. Refute it at one input. -/
def classTellsWrong : ChangeSpec := { name := "classTells", fn := fun _ => fun
  | [d1, d2] => { results := [.lit (.bool false)], args := [d1, d2] }
  | _ => none }
def ClassTellsWrongFalsely : Prop := classTellsRow.holds Tryd.pinned (OpenSpec.ofChange classTellsWrong)

/-- 'ragpickerlaw03.ClassFits': WHATEVER THE INPUT: true; the input reads as it did. -/
def classFitsSpec : ChangeSpec := { name := "classFits", fn := fun _ => fun
  | [d] => { results := [.lit (.bool true)], args := [d] }
  | _ => none }
def classFitsRow : OpenClaim := { program := "ytffdnkgippdidaadoor", sum := "7df81bae5adfdb6f1aa46c067c53431fd7e6b30bbd4d74d5a16c9654e8da5444", func := "ragpicker/ragpickerlaw03.ClassFits", spec := "classFits", named := ["ragpicker/class.words"], apart := false, laid := [("ragpicker/class.words", laid_ragpicker_class_words)] }
def ClassFitsSaid : Prop := classFitsRow.holds Tryd.pinned (OpenSpec.ofChange classFitsSpec)

/-- ITS FALSE NEIGHBOUR: 'it returns false'. Refute it at one input. -/
def classFitsWrong : ChangeSpec := { name := "classFits", fn := fun _ => fun
  | [d] => { results := [.lit (.bool false)], args := [d] }
  | _ => none }
def ClassFitsWrongFalsely : Prop := classFitsRow.holds Tryd.pinned (OpenSpec.ofChange classFitsWrong)

/-- 'ragpickerlaw03.ClassSizes': WHATEVER THE INPUT: true; the input reads as it did. -/
def classSizesSpec : ChangeSpec := { name := "classSizes", fn := fun _ => fun
  | [d] => { results := [.lit (.bool true)], args := [d] }
  | _ => none }
def classSizesRow : OpenClaim := { program := "ytffdnkgippdidaadoor", sum := "7df81bae5adfdb6f1aa46c067c53431fd7e6b30bbd4d74d5a16c9654e8da5444", func := "ragpicker/ragpickerlaw03.ClassSizes", spec := "classSizes", named := ["ragpicker/class.words"], apart := false, laid := [("ragpicker/class.words", laid_ragpicker_class_words)] }
def ClassSizesSaid : Prop := classSizesRow.holds Tryd.pinned (OpenSpec.ofChange classSizesSpec)

/-- ITS FALSE NEIGHBOUR: 'it returns false'. Refute it at one input. -/
def classSizesWrong : ChangeSpec := { name := "classSizes", fn := fun _ => fun
  | [d] => { results := [.lit (.bool false)], args := [d] }
  | _ => none }
def ClassSizesWrongFalsely : Prop := classSizesRow.holds Tryd.pinned (OpenSpec.ofChange classSizesWrong)

/- THE SECOND FORM. 'bulk': how many values and letters a reading holds, each counted each time it is reached (what is shared counts as often as it is met; a slice's spare places count too). A statement '..UptoSaid' is the law's where the arguments, and the package variables that the reading takes, are together of bulk at most 1048576: NARROWER than '..Said'. Prove '..Said' where nothing that the law and all that it calls make is longer than what came in: it says more and counts as full. Else prove '..UptoSaid'. A law counts once. -/
mutual
def uptoBulk {H : Type} : DataW H → Nat
  | .lit (.string bytes) => bytes.length + 1
  | .lit _ => 1
  | .nil => 1
  | .ptr d => uptoBulk d + 1
  | .slice elems spare => uptoBulkAll elems + uptoBulkAll spare + 1
  | .agg parts => uptoBulkAll parts + 1
  | .iface _ d => uptoBulk d + 1
  | .map entries => uptoBulkEntries entries + 1
  | .held _ => 1
def uptoBulkAll {H : Type} : List (DataW H) → Nat
  | [] => 0
  | d :: r => uptoBulk d + uptoBulkAll r
def uptoBulkEntries {H : Type} : List (Lit × DataW H) → Nat
  | [] => 0
  | x :: r => uptoBulkEntry x + uptoBulkEntries r
def uptoBulkEntry {H : Type} : Lit × DataW H → Nat
  | (.string bytes, d) => bytes.length + uptoBulk d + 1
  | (_, d) => uptoBulk d + 1
 end
def uptoSmall : (H : Type) → List (DataW H) → Bool := fun _ ds => decide (uptoBulkAll ds ≤ 1048576)
def OpenSpec.upto (s : _root_.Go.ChangeSpec) : _root_.Go.OpenSpec := { _root_.Go.OpenSpec.ofChange s with cond := some uptoSmall }

/-- 'ragpickerlaw03.ClassMore', WHERE WHAT IT READS IS OF BULK AT MOST 1048576: true; the input reads as it did. -/
def classMoreUptoRow : OpenClaim := { program := "ytffdnkgippdidaadoor", sum := "7df81bae5adfdb6f1aa46c067c53431fd7e6b30bbd4d74d5a16c9654e8da5444", func := "ragpicker/ragpickerlaw03.ClassMore", spec := "classMore", named := ["ragpicker/class.words"], apart := false, laid := [("ragpicker/class.words", laid_ragpicker_class_words)], narrowed := true }
def ClassMoreUptoSaid : Prop := classMoreUptoRow.holds Tryd.pinned (OpenSpec.upto classMoreSpec)

/-- 'ragpickerlaw03.ClassRuns', WHERE WHAT IT READS IS OF BULK AT MOST 1048576: true; the input reads as it did. -/
def classRunsUptoRow : OpenClaim := { program := "ytffdnkgippdidaadoor", sum := "7df81bae5adfdb6f1aa46c067c53431fd7e6b30bbd4d74d5a16c9654e8da5444", func := "ragpicker/ragpickerlaw03.ClassRuns", spec := "classRuns", named := ["ragpicker/class.words"], apart := false, laid := [("ragpicker/class.words", laid_ragpicker_class_words)], narrowed := true }
def ClassRunsUptoSaid : Prop := classRunsUptoRow.holds Tryd.pinned (OpenSpec.upto classRunsSpec)

/-- 'ragpickerlaw03.ClassWaste', WHERE WHAT IT READS IS OF BULK AT MOST 1048576: true; the input reads as it did. -/
def classWasteUptoRow : OpenClaim := { program := "ytffdnkgippdidaadoor", sum := "7df81bae5adfdb6f1aa46c067c53431fd7e6b30bbd4d74d5a16c9654e8da5444", func := "ragpicker/ragpickerlaw03.ClassWaste", spec := "classWaste", named := ["ragpicker/class.words"], apart := false, laid := [("ragpicker/class.words", laid_ragpicker_class_words)], narrowed := true }
def ClassWasteUptoSaid : Prop := classWasteUptoRow.holds Tryd.pinned (OpenSpec.upto classWasteSpec)

/-- 'ragpickerlaw03.ClassTells', WHERE WHAT IT READS IS OF BULK AT MOST 1048576: true; the input reads as it did. -/
def classTellsUptoRow : OpenClaim := { program := "ytffdnkgippdidaadoor", sum := "7df81bae5adfdb6f1aa46c067c53431fd7e6b30bbd4d74d5a16c9654e8da5444", func := "ragpicker/ragpickerlaw03.ClassTells", spec := "classTells", named := ["ragpicker/class.words"], apart := false, laid := [("ragpicker/class.words", laid_ragpicker_class_words)], narrowed := true }
def ClassTellsUptoSaid : Prop := classTellsUptoRow.holds Tryd.pinned (OpenSpec.upto classTellsSpec)

/-- 'ragpickerlaw03.ClassFits', WHERE WHAT IT READS IS OF BULK AT MOST 1048576: true; the input reads as it did. -/
def classFitsUptoRow : OpenClaim := { program := "ytffdnkgippdidaadoor", sum := "7df81bae5adfdb6f1aa46c067c53431fd7e6b30bbd4d74d5a16c9654e8da5444", func := "ragpicker/ragpickerlaw03.ClassFits", spec := "classFits", named := ["ragpicker/class.words"], apart := false, laid := [("ragpicker/class.words", laid_ragpicker_class_words)], narrowed := true }
def ClassFitsUptoSaid : Prop := classFitsUptoRow.holds Tryd.pinned (OpenSpec.upto classFitsSpec)

/-- 'ragpickerlaw03.ClassSizes', WHERE WHAT IT READS IS OF BULK AT MOST 1048576: true; the input reads as it did. -/
def classSizesUptoRow : OpenClaim := { program := "ytffdnkgippdidaadoor", sum := "7df81bae5adfdb6f1aa46c067c53431fd7e6b30bbd4d74d5a16c9654e8da5444", func := "ragpicker/ragpickerlaw03.ClassSizes", spec := "classSizes", named := ["ragpicker/class.words"], apart := false, laid := [("ragpicker/class.words", laid_ragpicker_class_words)], narrowed := true }
def ClassSizesUptoSaid : Prop := classSizesUptoRow.holds Tryd.pinned (OpenSpec.upto classSizesSpec)

end Rows
end Go.Proofs.YtffdnkgippdidaaDoor

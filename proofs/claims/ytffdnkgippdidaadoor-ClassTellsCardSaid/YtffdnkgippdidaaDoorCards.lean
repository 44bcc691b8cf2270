/-
  DERIVED. GIVEN WITH THE SEED: THE CARDS: each row of YtffdnkgippdidaaDoorRows.lean that lists a variable, with what it lists TIED to the program's text (the seventh form; the later family's looks); each row that meets fmt, with fmt's text TOLD by the authors' own Lean function (tested against real Go, not proved from fmt's source: count such statements apart). THE CARD IS WHAT COUNTS. Prove the row's statement (the work); the ties are given (YtffdnkgippdidaaDoorTie.lean); close each card by the builder's one call (the guide's Derived/Test/ToyasCard.lean, 'card_holds'). Laid BY PROGRAM, IN A SANDBOX (cutbox-door.mjs). By AI agents, Wed Nov 11 2026. No macro, syntax, notation, axiom, sorry.
-/
import Derived.Test.YtffdnkgippdidaaDoorRows
import GoSem.ClaimSeven
namespace Go.Proofs.YtffdnkgippdidaaDoor
namespace Rows

/-- THE TIED CARD OF 'ragpickerlaw03.ClassMore'. -/
def classMoreCard : Claim7 := { stood := { row := classMoreRow, standIns := [], harness := (true, "e18f19e0297ef8a20448a580092aeb9dd324e51f3001f0dea924702eae9891a1"), looks := false }, kinds := [], alts := [], laidByText := true, laidKinds := [.widerDeep], laidTests := true, laidLooks := .later }
def ClassMoreCardSaid : Prop := Claim7.holds Tryd.pinned (.plain (OpenSpec.ofChange classMoreSpec)) classMoreCard

/-- THE TIED CARD OF 'ragpickerlaw03.ClassRuns'. -/
def classRunsCard : Claim7 := { stood := { row := classRunsRow, standIns := [], harness := (true, "e18f19e0297ef8a20448a580092aeb9dd324e51f3001f0dea924702eae9891a1"), looks := false }, kinds := [], alts := [], laidByText := true, laidKinds := [.widerDeep], laidTests := true, laidLooks := .later }
def ClassRunsCardSaid : Prop := Claim7.holds Tryd.pinned (.plain (OpenSpec.ofChange classRunsSpec)) classRunsCard

/-- THE TIED CARD OF 'ragpickerlaw03.ClassWaste'. -/
def classWasteCard : Claim7 := { stood := { row := classWasteRow, standIns := [], harness := (true, "e18f19e0297ef8a20448a580092aeb9dd324e51f3001f0dea924702eae9891a1"), looks := false }, kinds := [], alts := [], laidByText := true, laidKinds := [.widerDeep], laidTests := true, laidLooks := .later }
def ClassWasteCardSaid : Prop := Claim7.holds Tryd.pinned (.plain (OpenSpec.ofChange classWasteSpec)) classWasteCard

/-- THE TIED CARD OF 'ragpickerlaw03.ClassTells'. -/
def classTellsCard : Claim7 := { stood := { row := classTellsRow, standIns := [], harness := (true, "e18f19e0297ef8a20448a580092aeb9dd324e51f3001f0dea924702eae9891a1"), looks := false }, kinds := [], alts := [], laidByText := true, laidKinds := [.widerDeep], laidTests := true, laidLooks := .later }
def ClassTellsCardSaid : Prop := Claim7.holds Tryd.pinned (.plain (OpenSpec.ofChange classTellsSpec)) classTellsCard

/-- THE TIED CARD OF 'ragpickerlaw03.ClassFits'. -/
def classFitsCard : Claim7 := { stood := { row := classFitsRow, standIns := [], harness := (true, "e18f19e0297ef8a20448a580092aeb9dd324e51f3001f0dea924702eae9891a1"), looks := false }, kinds := [], alts := [], laidByText := true, laidKinds := [.widerDeep], laidTests := true, laidLooks := .later }
def ClassFitsCardSaid : Prop := Claim7.holds Tryd.pinned (.plain (OpenSpec.ofChange classFitsSpec)) classFitsCard

/-- THE TIED CARD OF 'ragpickerlaw03.ClassSizes'. -/
def classSizesCard : Claim7 := { stood := { row := classSizesRow, standIns := [], harness := (true, "e18f19e0297ef8a20448a580092aeb9dd324e51f3001f0dea924702eae9891a1"), looks := false }, kinds := [], alts := [], laidByText := true, laidKinds := [.widerDeep], laidTests := true, laidLooks := .later }
def ClassSizesCardSaid : Prop := Claim7.holds Tryd.pinned (.plain (OpenSpec.ofChange classSizesSpec)) classSizesCard

/-- THE SECOND FORM's CARD OF 'ragpickerlaw03.ClassMore'. -/
def classMoreUptoCard : Claim7 := { stood := { row := classMoreUptoRow, standIns := [], harness := (true, "e18f19e0297ef8a20448a580092aeb9dd324e51f3001f0dea924702eae9891a1"), looks := false }, kinds := [], alts := [], laidByText := true, laidKinds := [.widerDeep], laidTests := true, laidLooks := .later }
def ClassMoreUptoCardSaid : Prop := Claim7.holds Tryd.pinned (.plain (OpenSpec.upto classMoreSpec)) classMoreUptoCard

/-- THE SECOND FORM's CARD OF 'ragpickerlaw03.ClassRuns'. -/
def classRunsUptoCard : Claim7 := { stood := { row := classRunsUptoRow, standIns := [], harness := (true, "e18f19e0297ef8a20448a580092aeb9dd324e51f3001f0dea924702eae9891a1"), looks := false }, kinds := [], alts := [], laidByText := true, laidKinds := [.widerDeep], laidTests := true, laidLooks := .later }
def ClassRunsUptoCardSaid : Prop := Claim7.holds Tryd.pinned (.plain (OpenSpec.upto classRunsSpec)) classRunsUptoCard

/-- THE SECOND FORM's CARD OF 'ragpickerlaw03.ClassWaste'. -/
def classWasteUptoCard : Claim7 := { stood := { row := classWasteUptoRow, standIns := [], harness := (true, "e18f19e0297ef8a20448a580092aeb9dd324e51f3001f0dea924702eae9891a1"), looks := false }, kinds := [], alts := [], laidByText := true, laidKinds := [.widerDeep], laidTests := true, laidLooks := .later }
def ClassWasteUptoCardSaid : Prop := Claim7.holds Tryd.pinned (.plain (OpenSpec.upto classWasteSpec)) classWasteUptoCard

/-- THE SECOND FORM's CARD OF 'ragpickerlaw03.ClassTells'. -/
def classTellsUptoCard : Claim7 := { stood := { row := classTellsUptoRow, standIns := [], harness := (true, "e18f19e0297ef8a20448a580092aeb9dd324e51f3001f0dea924702eae9891a1"), looks := false }, kinds := [], alts := [], laidByText := true, laidKinds := [.widerDeep], laidTests := true, laidLooks := .later }
def ClassTellsUptoCardSaid : Prop := Claim7.holds Tryd.pinned (.plain (OpenSpec.upto classTellsSpec)) classTellsUptoCard

/-- THE SECOND FORM's CARD OF 'ragpickerlaw03.ClassFits'. -/
def classFitsUptoCard : Claim7 := { stood := { row := classFitsUptoRow, standIns := [], harness := (true, "e18f19e0297ef8a20448a580092aeb9dd324e51f3001f0dea924702eae9891a1"), looks := false }, kinds := [], alts := [], laidByText := true, laidKinds := [.widerDeep], laidTests := true, laidLooks := .later }
def ClassFitsUptoCardSaid : Prop := Claim7.holds Tryd.pinned (.plain (OpenSpec.upto classFitsSpec)) classFitsUptoCard

/-- THE SECOND FORM's CARD OF 'ragpickerlaw03.ClassSizes'. -/
def classSizesUptoCard : Claim7 := { stood := { row := classSizesUptoRow, standIns := [], harness := (true, "e18f19e0297ef8a20448a580092aeb9dd324e51f3001f0dea924702eae9891a1"), looks := false }, kinds := [], alts := [], laidByText := true, laidKinds := [.widerDeep], laidTests := true, laidLooks := .later }
def ClassSizesUptoCardSaid : Prop := Claim7.holds Tryd.pinned (.plain (OpenSpec.upto classSizesSpec)) classSizesUptoCard
end Rows
end Go.Proofs.YtffdnkgippdidaaDoor

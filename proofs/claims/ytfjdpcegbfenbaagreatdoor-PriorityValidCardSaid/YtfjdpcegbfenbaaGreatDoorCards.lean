/-
  DERIVED. GIVEN WITH THE SEED: THE CARDS: each row of YtfjdpcegbfenbaaGreatDoorRows.lean that lists a variable, with what it lists TIED to the program's text (the seventh form; the later family's looks); each row that meets fmt, with fmt's text TOLD by the authors' own Lean function (tested against real Go, not proved from fmt's source: count such statements apart). THE CARD IS WHAT COUNTS. Prove the row's statement (the work); the ties are given (YtfjdpcegbfenbaaGreatDoorTie.lean); close each card by the builder's one call (the guide's Derived/Test/ToyasCard.lean, 'card_holds'). Laid BY PROGRAM, IN A SANDBOX (cutbox-door.mjs). By AI agents, Wed Nov 11 2026. No macro, syntax, notation, axiom, sorry.
-/
import Derived.Test.YtfjdpcegbfenbaaGreatDoorRows
import GoSem.ClaimSeven
namespace Go.Proofs.YtfjdpcegbfenbaaGreatDoor
namespace Rows

/-- THE TIED CARD OF 'drosslaw44.PriorityOptimal'. -/
def priorityOptimalCard : Claim7 := { stood := { row := priorityOptimalRow, standIns := [], harness := (true, "07b4bc9e71080f18ae8f0b5bda99c214c96fa5211dc573115c0e17c8ddb92837"), looks := false }, kinds := [], alts := [], laidByText := true, laidKinds := [.data], laidTests := true, laidLooks := .later }
def PriorityOptimalCardSaid : Prop := Claim7.holds Tryz.pinned (.plain (OpenSpec.ofChange priorityOptimalSpec)) priorityOptimalCard

/-- THE TIED CARD OF 'drosslaw44.PriorityValid'. -/
def priorityValidCard : Claim7 := { stood := { row := priorityValidRow, standIns := [], harness := (true, "07b4bc9e71080f18ae8f0b5bda99c214c96fa5211dc573115c0e17c8ddb92837"), looks := false }, kinds := [], alts := [], laidByText := true, laidKinds := [.data], laidTests := true, laidLooks := .later }
def PriorityValidCardSaid : Prop := Claim7.holds Tryz.pinned (.plain (OpenSpec.ofChange priorityValidSpec)) priorityValidCard

/-- THE TIED CARD OF 'drosslaw44.PriorityImproves'. -/
def priorityImprovesCard : Claim7 := { stood := { row := priorityImprovesRow, standIns := [], harness := (true, "07b4bc9e71080f18ae8f0b5bda99c214c96fa5211dc573115c0e17c8ddb92837"), looks := false }, kinds := [], alts := [], laidByText := true, laidKinds := [.data], laidTests := true, laidLooks := .later }
def PriorityImprovesCardSaid : Prop := Claim7.holds Tryz.pinned (.plain (OpenSpec.ofChange priorityImprovesSpec)) priorityImprovesCard

/-- THE TIED CARD OF 'drosslaw44.PriorityIsGlobal'. -/
def priorityIsGlobalCard : Claim7 := { stood := { row := priorityIsGlobalRow, standIns := [], harness := (true, "07b4bc9e71080f18ae8f0b5bda99c214c96fa5211dc573115c0e17c8ddb92837"), looks := false }, kinds := [], alts := [], laidByText := true, laidKinds := [.data], laidTests := true, laidLooks := .later }
def PriorityIsGlobalCardSaid : Prop := Claim7.holds Tryz.pinned (.plain (OpenSpec.ofChange priorityIsGlobalSpec)) priorityIsGlobalCard

/-- THE TIED CARD OF 'drosslaw44.PriorityIsPareto'. -/
def priorityIsParetoCard : Claim7 := { stood := { row := priorityIsParetoRow, standIns := [], harness := (true, "07b4bc9e71080f18ae8f0b5bda99c214c96fa5211dc573115c0e17c8ddb92837"), looks := false }, kinds := [], alts := [], laidByText := true, laidKinds := [.data], laidTests := true, laidLooks := .later }
def PriorityIsParetoCardSaid : Prop := Claim7.holds Tryz.pinned (.plain (OpenSpec.ofChange priorityIsParetoSpec)) priorityIsParetoCard

/-- THE TIED CARD OF 'drosslaw44.PriorityCompletion'. -/
def priorityCompletionCard : Claim7 := { stood := { row := priorityCompletionRow, standIns := [], harness := (true, "07b4bc9e71080f18ae8f0b5bda99c214c96fa5211dc573115c0e17c8ddb92837"), looks := false }, kinds := [], alts := [], laidByText := true, laidKinds := [.data], laidTests := true, laidLooks := .later }
def PriorityCompletionCardSaid : Prop := Claim7.holds Tryz.pinned (.plain (OpenSpec.ofChange priorityCompletionSpec)) priorityCompletionCard

/-- THE TIED CARD OF 'drosslaw44.PriorityGreedy'. -/
def priorityGreedyCard : Claim7 := { stood := { row := priorityGreedyRow, standIns := [], harness := (true, "07b4bc9e71080f18ae8f0b5bda99c214c96fa5211dc573115c0e17c8ddb92837"), looks := false }, kinds := [], alts := [], laidByText := true, laidKinds := [.data], laidTests := true, laidLooks := .later }
def PriorityGreedyCardSaid : Prop := Claim7.holds Tryz.pinned (.plain (OpenSpec.ofChange priorityGreedySpec)) priorityGreedyCard

/-- THE TIED CARD OF 'drosslaw44.PriorityTotal'. -/
def priorityTotalCard : Claim7 := { stood := { row := priorityTotalRow, standIns := [], harness := (true, "07b4bc9e71080f18ae8f0b5bda99c214c96fa5211dc573115c0e17c8ddb92837"), looks := false }, kinds := [], alts := [], laidByText := true, laidKinds := [.data], laidTests := true, laidLooks := .later }
def PriorityTotalCardSaid : Prop := Claim7.holds Tryz.pinned (.plain (OpenSpec.ofChange priorityTotalSpec)) priorityTotalCard

/-- THE TIED CARD OF 'drosslaw44.PriorityChain'. -/
def priorityChainCard : Claim7 := { stood := { row := priorityChainRow, standIns := [], harness := (true, "07b4bc9e71080f18ae8f0b5bda99c214c96fa5211dc573115c0e17c8ddb92837"), looks := false }, kinds := [], alts := [], laidByText := true, laidKinds := [.data], laidTests := true, laidLooks := .later }
def PriorityChainCardSaid : Prop := Claim7.holds Tryz.pinned (.plain (OpenSpec.ofChange priorityChainSpec)) priorityChainCard

/-- THE SECOND FORM's CARD OF 'drosslaw44.PriorityOptimal'. -/
def priorityOptimalUptoCard : Claim7 := { stood := { row := priorityOptimalUptoRow, standIns := [], harness := (true, "07b4bc9e71080f18ae8f0b5bda99c214c96fa5211dc573115c0e17c8ddb92837"), looks := false }, kinds := [], alts := [], laidByText := true, laidKinds := [.data], laidTests := true, laidLooks := .later }
def PriorityOptimalUptoCardSaid : Prop := Claim7.holds Tryz.pinned (.plain (OpenSpec.upto priorityOptimalSpec)) priorityOptimalUptoCard

/-- THE SECOND FORM's CARD OF 'drosslaw44.PriorityValid'. -/
def priorityValidUptoCard : Claim7 := { stood := { row := priorityValidUptoRow, standIns := [], harness := (true, "07b4bc9e71080f18ae8f0b5bda99c214c96fa5211dc573115c0e17c8ddb92837"), looks := false }, kinds := [], alts := [], laidByText := true, laidKinds := [.data], laidTests := true, laidLooks := .later }
def PriorityValidUptoCardSaid : Prop := Claim7.holds Tryz.pinned (.plain (OpenSpec.upto priorityValidSpec)) priorityValidUptoCard

/-- THE SECOND FORM's CARD OF 'drosslaw44.PriorityImproves'. -/
def priorityImprovesUptoCard : Claim7 := { stood := { row := priorityImprovesUptoRow, standIns := [], harness := (true, "07b4bc9e71080f18ae8f0b5bda99c214c96fa5211dc573115c0e17c8ddb92837"), looks := false }, kinds := [], alts := [], laidByText := true, laidKinds := [.data], laidTests := true, laidLooks := .later }
def PriorityImprovesUptoCardSaid : Prop := Claim7.holds Tryz.pinned (.plain (OpenSpec.upto priorityImprovesSpec)) priorityImprovesUptoCard

/-- THE SECOND FORM's CARD OF 'drosslaw44.PriorityIsGlobal'. -/
def priorityIsGlobalUptoCard : Claim7 := { stood := { row := priorityIsGlobalUptoRow, standIns := [], harness := (true, "07b4bc9e71080f18ae8f0b5bda99c214c96fa5211dc573115c0e17c8ddb92837"), looks := false }, kinds := [], alts := [], laidByText := true, laidKinds := [.data], laidTests := true, laidLooks := .later }
def PriorityIsGlobalUptoCardSaid : Prop := Claim7.holds Tryz.pinned (.plain (OpenSpec.upto priorityIsGlobalSpec)) priorityIsGlobalUptoCard

/-- THE SECOND FORM's CARD OF 'drosslaw44.PriorityIsPareto'. -/
def priorityIsParetoUptoCard : Claim7 := { stood := { row := priorityIsParetoUptoRow, standIns := [], harness := (true, "07b4bc9e71080f18ae8f0b5bda99c214c96fa5211dc573115c0e17c8ddb92837"), looks := false }, kinds := [], alts := [], laidByText := true, laidKinds := [.data], laidTests := true, laidLooks := .later }
def PriorityIsParetoUptoCardSaid : Prop := Claim7.holds Tryz.pinned (.plain (OpenSpec.upto priorityIsParetoSpec)) priorityIsParetoUptoCard

/-- THE SECOND FORM's CARD OF 'drosslaw44.PriorityCompletion'. -/
def priorityCompletionUptoCard : Claim7 := { stood := { row := priorityCompletionUptoRow, standIns := [], harness := (true, "07b4bc9e71080f18ae8f0b5bda99c214c96fa5211dc573115c0e17c8ddb92837"), looks := false }, kinds := [], alts := [], laidByText := true, laidKinds := [.data], laidTests := true, laidLooks := .later }
def PriorityCompletionUptoCardSaid : Prop := Claim7.holds Tryz.pinned (.plain (OpenSpec.upto priorityCompletionSpec)) priorityCompletionUptoCard

/-- THE SECOND FORM's CARD OF 'drosslaw44.PriorityGreedy'. -/
def priorityGreedyUptoCard : Claim7 := { stood := { row := priorityGreedyUptoRow, standIns := [], harness := (true, "07b4bc9e71080f18ae8f0b5bda99c214c96fa5211dc573115c0e17c8ddb92837"), looks := false }, kinds := [], alts := [], laidByText := true, laidKinds := [.data], laidTests := true, laidLooks := .later }
def PriorityGreedyUptoCardSaid : Prop := Claim7.holds Tryz.pinned (.plain (OpenSpec.upto priorityGreedySpec)) priorityGreedyUptoCard

/-- THE SECOND FORM's CARD OF 'drosslaw44.PriorityTotal'. -/
def priorityTotalUptoCard : Claim7 := { stood := { row := priorityTotalUptoRow, standIns := [], harness := (true, "07b4bc9e71080f18ae8f0b5bda99c214c96fa5211dc573115c0e17c8ddb92837"), looks := false }, kinds := [], alts := [], laidByText := true, laidKinds := [.data], laidTests := true, laidLooks := .later }
def PriorityTotalUptoCardSaid : Prop := Claim7.holds Tryz.pinned (.plain (OpenSpec.upto priorityTotalSpec)) priorityTotalUptoCard

/-- THE SECOND FORM's CARD OF 'drosslaw44.PriorityChain'. -/
def priorityChainUptoCard : Claim7 := { stood := { row := priorityChainUptoRow, standIns := [], harness := (true, "07b4bc9e71080f18ae8f0b5bda99c214c96fa5211dc573115c0e17c8ddb92837"), looks := false }, kinds := [], alts := [], laidByText := true, laidKinds := [.data], laidTests := true, laidLooks := .later }
def PriorityChainUptoCardSaid : Prop := Claim7.holds Tryz.pinned (.plain (OpenSpec.upto priorityChainSpec)) priorityChainUptoCard
end Rows
end Go.Proofs.YtfjdpcegbfenbaaGreatDoor

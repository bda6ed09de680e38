/-
  DERIVED. GIVEN WITH THE SEED: THE CARDS: each row of YthegpbgejckjlaaGreatDoorRows.lean that lists a variable, with what it lists TIED to the program's text (the seventh form; the later family's looks); each row that meets fmt, with fmt's text TOLD by the authors' own Lean function (tested against real Go, not proved from fmt's source: count such statements apart). THE CARD IS WHAT COUNTS. Prove the row's statement (the work); the ties are given (YthegpbgejckjlaaGreatDoorTie.lean); close each card by the builder's one call (the guide's Derived/Test/ToyasCard.lean, 'card_holds'). Laid BY PROGRAM, IN A SANDBOX (cutbox-door.mjs). By AI agents, Wed Nov 11 2026. No macro, syntax, notation, axiom, sorry.
-/
import Derived.Test.YthegpbgejckjlaaGreatDoorRows
import GoSem.ClaimSeven
namespace Go.Proofs.YthegpbgejckjlaaGreatDoor
namespace Rows

/-- THE TIED CARD OF 'drosslaw36.DetectValid'. -/
def detectValidCard : Claim7 := { stood := { row := detectValidRow, standIns := [], harness := (true, "986edf3621b238e78b7d5a5847b362e4b7eb8aa00e945c19b0481c1c45bcfd40"), looks := false }, kinds := [], alts := [], laidByText := true, laidKinds := [.data], laidTests := true, laidLooks := .later }
def DetectValidCardSaid : Prop := Claim7.holds Tryz.pinned (.plain (OpenSpec.ofChange detectValidSpec)) detectValidCard

/-- THE TIED CARD OF 'drosslaw36.DetectDirty'. -/
def detectDirtyCard : Claim7 := { stood := { row := detectDirtyRow, standIns := [], harness := (true, "986edf3621b238e78b7d5a5847b362e4b7eb8aa00e945c19b0481c1c45bcfd40"), looks := false }, kinds := [], alts := [], laidByText := true, laidKinds := [.data], laidTests := true, laidLooks := .later }
def DetectDirtyCardSaid : Prop := Claim7.holds Tryz.pinned (.plain (OpenSpec.ofChange detectDirtySpec)) detectDirtyCard

/-- THE TIED CARD OF 'drosslaw36.DetectErrors'. -/
def detectErrorsCard : Claim7 := { stood := { row := detectErrorsRow, standIns := [], harness := (true, "986edf3621b238e78b7d5a5847b362e4b7eb8aa00e945c19b0481c1c45bcfd40"), looks := false }, kinds := [], alts := [], laidByText := true, laidKinds := [.data], laidTests := true, laidLooks := .later }
def DetectErrorsCardSaid : Prop := Claim7.holds Tryz.pinned (.plain (OpenSpec.ofChange detectErrorsSpec)) detectErrorsCard

/-- THE TIED CARD OF 'drosslaw36.DetectAll'. -/
def detectAllCard : Claim7 := { stood := { row := detectAllRow, standIns := [], harness := (true, "986edf3621b238e78b7d5a5847b362e4b7eb8aa00e945c19b0481c1c45bcfd40"), looks := false }, kinds := [], alts := [], laidByText := true, laidKinds := [.data], laidTests := true, laidLooks := .later }
def DetectAllCardSaid : Prop := Claim7.holds Tryz.pinned (.plain (OpenSpec.ofChange detectAllSpec)) detectAllCard

/-- THE TIED CARD OF 'drosslaw36.DetectScores'. -/
def detectScoresCard : Claim7 := { stood := { row := detectScoresRow, standIns := [], harness := (true, "986edf3621b238e78b7d5a5847b362e4b7eb8aa00e945c19b0481c1c45bcfd40"), looks := false }, kinds := [], alts := [], laidByText := true, laidKinds := [.data], laidTests := true, laidLooks := .later }
def DetectScoresCardSaid : Prop := Claim7.holds Tryz.pinned (.plain (OpenSpec.ofChange detectScoresSpec)) detectScoresCard

/-- THE TIED CARD OF 'drosslaw36.DetectOf'. -/
def detectOfCard : Claim7 := { stood := { row := detectOfRow, standIns := [], harness := (true, "986edf3621b238e78b7d5a5847b362e4b7eb8aa00e945c19b0481c1c45bcfd40"), looks := false }, kinds := [], alts := [], laidByText := true, laidKinds := [.data], laidTests := true, laidLooks := .later }
def DetectOfCardSaid : Prop := Claim7.holds Tryz.pinned (.plain (OpenSpec.ofChange detectOfSpec)) detectOfCard

/-- THE TIED CARD OF 'drosslaw36.DetectFewer'. -/
def detectFewerCard : Claim7 := { stood := { row := detectFewerRow, standIns := [], harness := (true, "986edf3621b238e78b7d5a5847b362e4b7eb8aa00e945c19b0481c1c45bcfd40"), looks := false }, kinds := [], alts := [], laidByText := true, laidKinds := [.data], laidTests := true, laidLooks := .later }
def DetectFewerCardSaid : Prop := Claim7.holds Tryz.pinned (.plain (OpenSpec.ofChange detectFewerSpec)) detectFewerCard

/-- THE SECOND FORM's CARD OF 'drosslaw36.DetectValid'. -/
def detectValidUptoCard : Claim7 := { stood := { row := detectValidUptoRow, standIns := [], harness := (true, "986edf3621b238e78b7d5a5847b362e4b7eb8aa00e945c19b0481c1c45bcfd40"), looks := false }, kinds := [], alts := [], laidByText := true, laidKinds := [.data], laidTests := true, laidLooks := .later }
def DetectValidUptoCardSaid : Prop := Claim7.holds Tryz.pinned (.plain (OpenSpec.upto detectValidSpec)) detectValidUptoCard

/-- THE SECOND FORM's CARD OF 'drosslaw36.DetectDirty'. -/
def detectDirtyUptoCard : Claim7 := { stood := { row := detectDirtyUptoRow, standIns := [], harness := (true, "986edf3621b238e78b7d5a5847b362e4b7eb8aa00e945c19b0481c1c45bcfd40"), looks := false }, kinds := [], alts := [], laidByText := true, laidKinds := [.data], laidTests := true, laidLooks := .later }
def DetectDirtyUptoCardSaid : Prop := Claim7.holds Tryz.pinned (.plain (OpenSpec.upto detectDirtySpec)) detectDirtyUptoCard

/-- THE SECOND FORM's CARD OF 'drosslaw36.DetectErrors'. -/
def detectErrorsUptoCard : Claim7 := { stood := { row := detectErrorsUptoRow, standIns := [], harness := (true, "986edf3621b238e78b7d5a5847b362e4b7eb8aa00e945c19b0481c1c45bcfd40"), looks := false }, kinds := [], alts := [], laidByText := true, laidKinds := [.data], laidTests := true, laidLooks := .later }
def DetectErrorsUptoCardSaid : Prop := Claim7.holds Tryz.pinned (.plain (OpenSpec.upto detectErrorsSpec)) detectErrorsUptoCard

/-- THE SECOND FORM's CARD OF 'drosslaw36.DetectAll'. -/
def detectAllUptoCard : Claim7 := { stood := { row := detectAllUptoRow, standIns := [], harness := (true, "986edf3621b238e78b7d5a5847b362e4b7eb8aa00e945c19b0481c1c45bcfd40"), looks := false }, kinds := [], alts := [], laidByText := true, laidKinds := [.data], laidTests := true, laidLooks := .later }
def DetectAllUptoCardSaid : Prop := Claim7.holds Tryz.pinned (.plain (OpenSpec.upto detectAllSpec)) detectAllUptoCard

/-- THE SECOND FORM's CARD OF 'drosslaw36.DetectScores'. -/
def detectScoresUptoCard : Claim7 := { stood := { row := detectScoresUptoRow, standIns := [], harness := (true, "986edf3621b238e78b7d5a5847b362e4b7eb8aa00e945c19b0481c1c45bcfd40"), looks := false }, kinds := [], alts := [], laidByText := true, laidKinds := [.data], laidTests := true, laidLooks := .later }
def DetectScoresUptoCardSaid : Prop := Claim7.holds Tryz.pinned (.plain (OpenSpec.upto detectScoresSpec)) detectScoresUptoCard

/-- THE SECOND FORM's CARD OF 'drosslaw36.DetectOf'. -/
def detectOfUptoCard : Claim7 := { stood := { row := detectOfUptoRow, standIns := [], harness := (true, "986edf3621b238e78b7d5a5847b362e4b7eb8aa00e945c19b0481c1c45bcfd40"), looks := false }, kinds := [], alts := [], laidByText := true, laidKinds := [.data], laidTests := true, laidLooks := .later }
def DetectOfUptoCardSaid : Prop := Claim7.holds Tryz.pinned (.plain (OpenSpec.upto detectOfSpec)) detectOfUptoCard

/-- THE SECOND FORM's CARD OF 'drosslaw36.DetectFewer'. -/
def detectFewerUptoCard : Claim7 := { stood := { row := detectFewerUptoRow, standIns := [], harness := (true, "986edf3621b238e78b7d5a5847b362e4b7eb8aa00e945c19b0481c1c45bcfd40"), looks := false }, kinds := [], alts := [], laidByText := true, laidKinds := [.data], laidTests := true, laidLooks := .later }
def DetectFewerUptoCardSaid : Prop := Claim7.holds Tryz.pinned (.plain (OpenSpec.upto detectFewerSpec)) detectFewerUptoCard
end Rows
end Go.Proofs.YthegpbgejckjlaaGreatDoor

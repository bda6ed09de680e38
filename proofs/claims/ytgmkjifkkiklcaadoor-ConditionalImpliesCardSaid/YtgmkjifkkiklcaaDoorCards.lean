/-
  DERIVED. GIVEN WITH THE SEED: THE CARDS: each row of YtgmkjifkkiklcaaDoorRows.lean that lists a variable, with what it lists TIED to the program's text (the seventh form; the later family's looks); each row that meets fmt, with fmt's text TOLD by the authors' own Lean function (tested against real Go, not proved from fmt's source: count such statements apart). THE CARD IS WHAT COUNTS. Prove the row's statement (the work); the ties are given (YtgmkjifkkiklcaaDoorTie.lean); close each card by the builder's one call (the guide's Derived/Test/ToyasCard.lean, 'card_holds'). Laid BY PROGRAM, IN A SANDBOX (cutbox-door.mjs). By AI agents, Wed Nov 11 2026. No macro, syntax, notation, axiom, sorry.
-/
import Derived.Test.YtgmkjifkkiklcaaDoorRows
import GoSem.ClaimSeven
namespace Go.Proofs.YtgmkjifkkiklcaaDoor
namespace Rows

/-- THE TIED CARD OF 'drosslaw16.ConditionalValid'. -/
def conditionalValidCard : Claim7 := { stood := { row := conditionalValidRow, standIns := [], harness := (true, "e31d94682a3a9a511da3176c379924aaafa581a7fc5b4c53fd1c7a8881ba1bda"), looks := false }, kinds := [], alts := [], laidByText := true, laidKinds := [.data], laidTests := true, laidLooks := .later }
def ConditionalValidCardSaid : Prop := Claim7.holds Tryd.pinned (.plain (OpenSpec.ofChange conditionalValidSpec)) conditionalValidCard

/-- THE TIED CARD OF 'drosslaw16.ConditionalConsistent'. -/
def conditionalConsistentCard : Claim7 := { stood := { row := conditionalConsistentRow, standIns := [], harness := (true, "e31d94682a3a9a511da3176c379924aaafa581a7fc5b4c53fd1c7a8881ba1bda"), looks := false }, kinds := [], alts := [], laidByText := true, laidKinds := [.data], laidTests := true, laidLooks := .later }
def ConditionalConsistentCardSaid : Prop := Claim7.holds Tryd.pinned (.plain (OpenSpec.ofChange conditionalConsistentSpec)) conditionalConsistentCard

/-- THE TIED CARD OF 'drosslaw16.ConditionalCore'. -/
def conditionalCoreCard : Claim7 := { stood := { row := conditionalCoreRow, standIns := [], harness := (true, "e31d94682a3a9a511da3176c379924aaafa581a7fc5b4c53fd1c7a8881ba1bda"), looks := false }, kinds := [], alts := [], laidByText := true, laidKinds := [.data], laidTests := true, laidLooks := .later }
def ConditionalCoreCardSaid : Prop := Claim7.holds Tryd.pinned (.plain (OpenSpec.ofChange conditionalCoreSpec)) conditionalCoreCard

/-- THE TIED CARD OF 'drosslaw16.ConditionalImplies'. -/
def conditionalImpliesCard : Claim7 := { stood := { row := conditionalImpliesRow, standIns := [], harness := (true, "e31d94682a3a9a511da3176c379924aaafa581a7fc5b4c53fd1c7a8881ba1bda"), looks := false }, kinds := [], alts := [], laidByText := true, laidKinds := [.data], laidTests := true, laidLooks := .later }
def ConditionalImpliesCardSaid : Prop := Claim7.holds Tryd.pinned (.plain (OpenSpec.ofChange conditionalImpliesSpec)) conditionalImpliesCard

/-- THE TIED CARD OF 'drosslaw16.ConditionalErrors'. -/
def conditionalErrorsCard : Claim7 := { stood := { row := conditionalErrorsRow, standIns := [], harness := (true, "e31d94682a3a9a511da3176c379924aaafa581a7fc5b4c53fd1c7a8881ba1bda"), looks := false }, kinds := [], alts := [], laidByText := true, laidKinds := [.data], laidTests := true, laidLooks := .later }
def ConditionalErrorsCardSaid : Prop := Claim7.holds Tryd.pinned (.plain (OpenSpec.ofChange conditionalErrorsSpec)) conditionalErrorsCard

/-- THE TIED CARD OF 'drosslaw16.ConditionalHolds'. -/
def conditionalHoldsCard : Claim7 := { stood := { row := conditionalHoldsRow, standIns := [], harness := (true, "e31d94682a3a9a511da3176c379924aaafa581a7fc5b4c53fd1c7a8881ba1bda"), looks := false }, kinds := [], alts := [], laidByText := true, laidKinds := [.data], laidTests := true, laidLooks := .later }
def ConditionalHoldsCardSaid : Prop := Claim7.holds Tryd.pinned (.plain (OpenSpec.ofChange conditionalHoldsSpec)) conditionalHoldsCard

/-- THE TIED CARD OF 'drosslaw16.ConditionalSound'. -/
def conditionalSoundCard : Claim7 := { stood := { row := conditionalSoundRow, standIns := [], harness := (true, "e31d94682a3a9a511da3176c379924aaafa581a7fc5b4c53fd1c7a8881ba1bda"), looks := false }, kinds := [], alts := [], laidByText := true, laidKinds := [.data], laidTests := true, laidLooks := .later }
def ConditionalSoundCardSaid : Prop := Claim7.holds Tryd.pinned (.plain (OpenSpec.ofChange conditionalSoundSpec)) conditionalSoundCard

/-- THE TIED CARD OF 'drosslaw16.ConditionalFD'. -/
def conditionalFDCard : Claim7 := { stood := { row := conditionalFDRow, standIns := [], harness := (true, "e31d94682a3a9a511da3176c379924aaafa581a7fc5b4c53fd1c7a8881ba1bda"), looks := false }, kinds := [], alts := [], laidByText := true, laidKinds := [.data], laidTests := true, laidLooks := .later }
def ConditionalFDCardSaid : Prop := Claim7.holds Tryd.pinned (.plain (OpenSpec.ofChange conditionalFDSpec)) conditionalFDCard

/-- THE SECOND FORM's CARD OF 'drosslaw16.ConditionalValid'. -/
def conditionalValidUptoCard : Claim7 := { stood := { row := conditionalValidUptoRow, standIns := [], harness := (true, "e31d94682a3a9a511da3176c379924aaafa581a7fc5b4c53fd1c7a8881ba1bda"), looks := false }, kinds := [], alts := [], laidByText := true, laidKinds := [.data], laidTests := true, laidLooks := .later }
def ConditionalValidUptoCardSaid : Prop := Claim7.holds Tryd.pinned (.plain (OpenSpec.upto conditionalValidSpec)) conditionalValidUptoCard

/-- THE SECOND FORM's CARD OF 'drosslaw16.ConditionalConsistent'. -/
def conditionalConsistentUptoCard : Claim7 := { stood := { row := conditionalConsistentUptoRow, standIns := [], harness := (true, "e31d94682a3a9a511da3176c379924aaafa581a7fc5b4c53fd1c7a8881ba1bda"), looks := false }, kinds := [], alts := [], laidByText := true, laidKinds := [.data], laidTests := true, laidLooks := .later }
def ConditionalConsistentUptoCardSaid : Prop := Claim7.holds Tryd.pinned (.plain (OpenSpec.upto conditionalConsistentSpec)) conditionalConsistentUptoCard

/-- THE SECOND FORM's CARD OF 'drosslaw16.ConditionalCore'. -/
def conditionalCoreUptoCard : Claim7 := { stood := { row := conditionalCoreUptoRow, standIns := [], harness := (true, "e31d94682a3a9a511da3176c379924aaafa581a7fc5b4c53fd1c7a8881ba1bda"), looks := false }, kinds := [], alts := [], laidByText := true, laidKinds := [.data], laidTests := true, laidLooks := .later }
def ConditionalCoreUptoCardSaid : Prop := Claim7.holds Tryd.pinned (.plain (OpenSpec.upto conditionalCoreSpec)) conditionalCoreUptoCard

/-- THE SECOND FORM's CARD OF 'drosslaw16.ConditionalImplies'. -/
def conditionalImpliesUptoCard : Claim7 := { stood := { row := conditionalImpliesUptoRow, standIns := [], harness := (true, "e31d94682a3a9a511da3176c379924aaafa581a7fc5b4c53fd1c7a8881ba1bda"), looks := false }, kinds := [], alts := [], laidByText := true, laidKinds := [.data], laidTests := true, laidLooks := .later }
def ConditionalImpliesUptoCardSaid : Prop := Claim7.holds Tryd.pinned (.plain (OpenSpec.upto conditionalImpliesSpec)) conditionalImpliesUptoCard

/-- THE SECOND FORM's CARD OF 'drosslaw16.ConditionalErrors'. -/
def conditionalErrorsUptoCard : Claim7 := { stood := { row := conditionalErrorsUptoRow, standIns := [], harness := (true, "e31d94682a3a9a511da3176c379924aaafa581a7fc5b4c53fd1c7a8881ba1bda"), looks := false }, kinds := [], alts := [], laidByText := true, laidKinds := [.data], laidTests := true, laidLooks := .later }
def ConditionalErrorsUptoCardSaid : Prop := Claim7.holds Tryd.pinned (.plain (OpenSpec.upto conditionalErrorsSpec)) conditionalErrorsUptoCard

/-- THE SECOND FORM's CARD OF 'drosslaw16.ConditionalHolds'. -/
def conditionalHoldsUptoCard : Claim7 := { stood := { row := conditionalHoldsUptoRow, standIns := [], harness := (true, "e31d94682a3a9a511da3176c379924aaafa581a7fc5b4c53fd1c7a8881ba1bda"), looks := false }, kinds := [], alts := [], laidByText := true, laidKinds := [.data], laidTests := true, laidLooks := .later }
def ConditionalHoldsUptoCardSaid : Prop := Claim7.holds Tryd.pinned (.plain (OpenSpec.upto conditionalHoldsSpec)) conditionalHoldsUptoCard

/-- THE SECOND FORM's CARD OF 'drosslaw16.ConditionalSound'. -/
def conditionalSoundUptoCard : Claim7 := { stood := { row := conditionalSoundUptoRow, standIns := [], harness := (true, "e31d94682a3a9a511da3176c379924aaafa581a7fc5b4c53fd1c7a8881ba1bda"), looks := false }, kinds := [], alts := [], laidByText := true, laidKinds := [.data], laidTests := true, laidLooks := .later }
def ConditionalSoundUptoCardSaid : Prop := Claim7.holds Tryd.pinned (.plain (OpenSpec.upto conditionalSoundSpec)) conditionalSoundUptoCard

/-- THE SECOND FORM's CARD OF 'drosslaw16.ConditionalFD'. -/
def conditionalFDUptoCard : Claim7 := { stood := { row := conditionalFDUptoRow, standIns := [], harness := (true, "e31d94682a3a9a511da3176c379924aaafa581a7fc5b4c53fd1c7a8881ba1bda"), looks := false }, kinds := [], alts := [], laidByText := true, laidKinds := [.data], laidTests := true, laidLooks := .later }
def ConditionalFDUptoCardSaid : Prop := Claim7.holds Tryd.pinned (.plain (OpenSpec.upto conditionalFDSpec)) conditionalFDUptoCard
end Rows
end Go.Proofs.YtgmkjifkkiklcaaDoor

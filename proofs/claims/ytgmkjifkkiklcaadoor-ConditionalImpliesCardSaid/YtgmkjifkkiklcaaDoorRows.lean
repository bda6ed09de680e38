/-
  NARROWER THAN 'FOR EVERY INPUT', by the rows' own cells (each row's printed sentence says how): ConditionalValid: laid · ConditionalConsistent: laid · ConditionalCore: laid · ConditionalImplies: laid · ConditionalErrors: laid · ConditionalHolds: laid · ConditionalSound: laid · ConditionalFD: laid.
  DERIVED. THE GIVEN ROWS OF THIS SEAT. 8 by the template 'for every input the law returns true; each argument reads behind the call as it read before'; 0 by the template 'total and deterministic' (their statements: YtgmkjifkkiklcaaDoorTotals.lean).
  GIVEN WITH THE SEED: the statements are not yours to turn. If you find one false, say at which input.
  Laid BY PROGRAM, IN A SANDBOX (cutbox-rows.mjs): the forced cells as the released guide's own fill.sh prints them over the translation ebfba9b556358f0a… (all of the seat's roots in one cut). By AI agents, Wed Nov 11 2026. No macro, syntax, notation, axiom, sorry.
-/
import Derived.Test.YtgmkjifkkiklcaaDoorChecked
import GoSem.Claim
import GoSem.ClaimJoined
import GoSem.ClaimMapViews
import Derived.JoinedTies
import Derived.KernelRfl
namespace Go.Proofs.YtgmkjifkkiklcaaDoor
/- THE CELL 'sum', in the pinned program and in every row, IS THE sha256 OF THE DUMP (.gsa) THAT YtgmkjifkkiklcaaDoorProg.lean LOADS. Nothing in Lean hashes anything: it is a label: what it is worth is what the hold of that sum in a sandbox is worth. -/
noncomputable def Tryd.pinned : Pinned := { name := "ytgmkjifkkiklcaadoor", sum := "ebfba9b556358f0a214911dab7b5c027d1387167d39cbf01dc6981d1418f7410", checked := Tryd.checked }
namespace Rows
def none {H : Type} : Left H := { results := [], args := [] }

/- WHAT THE LISTED PACKAGE-LEVEL VARIABLES READ AS WHEN THE CALL BEGINS. Each datum BY PROGRAM (the guide's laid-datum.mjs) off the statement by which the dump's own 'gosem.cut.vars' lays the variable. In a bare row this is a premise. The card (YtgmkjifkkiklcaaDoorCards.lean) ties it to the program's text. -/
def laid_math_bits_deBruijn32tab {H : Type} : DataW H := .agg [.lit (.int .u8 0), .lit (.int .u8 1), .lit (.int .u8 28), .lit (.int .u8 2), .lit (.int .u8 29), .lit (.int .u8 14), .lit (.int .u8 24), .lit (.int .u8 3), .lit (.int .u8 30), .lit (.int .u8 22), .lit (.int .u8 20), .lit (.int .u8 15), .lit (.int .u8 25), .lit (.int .u8 17), .lit (.int .u8 4), .lit (.int .u8 8), .lit (.int .u8 31), .lit (.int .u8 27), .lit (.int .u8 13), .lit (.int .u8 23), .lit (.int .u8 21), .lit (.int .u8 19), .lit (.int .u8 16), .lit (.int .u8 7), .lit (.int .u8 26), .lit (.int .u8 12), .lit (.int .u8 18), .lit (.int .u8 6), .lit (.int .u8 11), .lit (.int .u8 5), .lit (.int .u8 10), .lit (.int .u8 9)]

/-- 'drosslaw16.ConditionalValid': WHATEVER THE INPUT: true; the input reads as it did. -/
def conditionalValidSpec : ChangeSpec := { name := "conditionalValid", fn := fun _ => fun
  | [d1, d2] => { results := [.lit (.bool true)], args := [d1, d2] }
  | _ => none }
def conditionalValidRow : OpenClaim := { program := "ytgmkjifkkiklcaadoor", sum := "ebfba9b556358f0a214911dab7b5c027d1387167d39cbf01dc6981d1418f7410", func := "dross/drosslaw16.ConditionalValid", spec := "conditionalValid", unfollowed := true, recurses := true, named := ["math/bits.deBruijn32tab"], plainKeys := false, apart := false, laid := [("math/bits.deBruijn32tab", laid_math_bits_deBruijn32tab)] }
def ConditionalValidSaid : Prop := conditionalValidRow.holds Tryd.pinned (OpenSpec.ofChange conditionalValidSpec)

/-- ITS FALSE NEIGHBOUR: 'it returns false'. Refute it at one input. -/
def conditionalValidWrong : ChangeSpec := { name := "conditionalValid", fn := fun _ => fun
  | [d1, d2] => { results := [.lit (.bool false)], args := [d1, d2] }
  | _ => none }
def ConditionalValidWrongFalsely : Prop := conditionalValidRow.holds Tryd.pinned (OpenSpec.ofChange conditionalValidWrong)

/-- 'drosslaw16.ConditionalConsistent': WHATEVER THE INPUT: true; the input reads as it did. -/
def conditionalConsistentSpec : ChangeSpec := { name := "conditionalConsistent", fn := fun _ => fun
  | [d1, d2] => { results := [.lit (.bool true)], args := [d1, d2] }
  | _ => none }
def conditionalConsistentRow : OpenClaim := { program := "ytgmkjifkkiklcaadoor", sum := "ebfba9b556358f0a214911dab7b5c027d1387167d39cbf01dc6981d1418f7410", func := "dross/drosslaw16.ConditionalConsistent", spec := "conditionalConsistent", unfollowed := true, recurses := true, named := ["math/bits.deBruijn32tab"], plainKeys := false, apart := false, laid := [("math/bits.deBruijn32tab", laid_math_bits_deBruijn32tab)] }
def ConditionalConsistentSaid : Prop := conditionalConsistentRow.holds Tryd.pinned (OpenSpec.ofChange conditionalConsistentSpec)

/-- ITS FALSE NEIGHBOUR: 'it returns false'. Refute it at one input. -/
def conditionalConsistentWrong : ChangeSpec := { name := "conditionalConsistent", fn := fun _ => fun
  | [d1, d2] => { results := [.lit (.bool false)], args := [d1, d2] }
  | _ => none }
def ConditionalConsistentWrongFalsely : Prop := conditionalConsistentRow.holds Tryd.pinned (OpenSpec.ofChange conditionalConsistentWrong)

/-- 'drosslaw16.ConditionalCore': WHATEVER THE INPUT: true; the input reads as it did. -/
def conditionalCoreSpec : ChangeSpec := { name := "conditionalCore", fn := fun _ => fun
  | [d1, d2] => { results := [.lit (.bool true)], args := [d1, d2] }
  | _ => none }
def conditionalCoreRow : OpenClaim := { program := "ytgmkjifkkiklcaadoor", sum := "ebfba9b556358f0a214911dab7b5c027d1387167d39cbf01dc6981d1418f7410", func := "dross/drosslaw16.ConditionalCore", spec := "conditionalCore", unfollowed := true, recurses := true, named := ["math/bits.deBruijn32tab"], plainKeys := false, apart := false, laid := [("math/bits.deBruijn32tab", laid_math_bits_deBruijn32tab)] }
def ConditionalCoreSaid : Prop := conditionalCoreRow.holds Tryd.pinned (OpenSpec.ofChange conditionalCoreSpec)

/-- ITS FALSE NEIGHBOUR: 'it returns false'. Refute it at one input. -/
def conditionalCoreWrong : ChangeSpec := { name := "conditionalCore", fn := fun _ => fun
  | [d1, d2] => { results := [.lit (.bool false)], args := [d1, d2] }
  | _ => none }
def ConditionalCoreWrongFalsely : Prop := conditionalCoreRow.holds Tryd.pinned (OpenSpec.ofChange conditionalCoreWrong)

/-- 'drosslaw16.ConditionalImplies': WHATEVER THE INPUT: true; the input reads as it did. -/
def conditionalImpliesSpec : ChangeSpec := { name := "conditionalImplies", fn := fun _ => fun
  | [d1, d2, d3] => { results := [.lit (.bool true)], args := [d1, d2, d3] }
  | _ => none }
def conditionalImpliesRow : OpenClaim := { program := "ytgmkjifkkiklcaadoor", sum := "ebfba9b556358f0a214911dab7b5c027d1387167d39cbf01dc6981d1418f7410", func := "dross/drosslaw16.ConditionalImplies", spec := "conditionalImplies", unfollowed := true, recurses := true, named := ["math/bits.deBruijn32tab"], plainKeys := false, apart := false, laid := [("math/bits.deBruijn32tab", laid_math_bits_deBruijn32tab)] }
def ConditionalImpliesSaid : Prop := conditionalImpliesRow.holds Tryd.pinned (OpenSpec.ofChange conditionalImpliesSpec)

/-- ITS FALSE NEIGHBOUR: 'it returns false'. Refute it at one input. -/
def conditionalImpliesWrong : ChangeSpec := { name := "conditionalImplies", fn := fun _ => fun
  | [d1, d2, d3] => { results := [.lit (.bool false)], args := [d1, d2, d3] }
  | _ => none }
def ConditionalImpliesWrongFalsely : Prop := conditionalImpliesRow.holds Tryd.pinned (OpenSpec.ofChange conditionalImpliesWrong)

/-- 'drosslaw16.ConditionalErrors': WHATEVER THE INPUT: true; the input reads as it did. -/
def conditionalErrorsSpec : ChangeSpec := { name := "conditionalErrors", fn := fun _ => fun
  | [d1, d2, d3] => { results := [.lit (.bool true)], args := [d1, d2, d3] }
  | _ => none }
def conditionalErrorsRow : OpenClaim := { program := "ytgmkjifkkiklcaadoor", sum := "ebfba9b556358f0a214911dab7b5c027d1387167d39cbf01dc6981d1418f7410", func := "dross/drosslaw16.ConditionalErrors", spec := "conditionalErrors", unfollowed := true, recurses := true, named := ["math/bits.deBruijn32tab"], plainKeys := false, apart := false, laid := [("math/bits.deBruijn32tab", laid_math_bits_deBruijn32tab)] }
def ConditionalErrorsSaid : Prop := conditionalErrorsRow.holds Tryd.pinned (OpenSpec.ofChange conditionalErrorsSpec)

/-- ITS FALSE NEIGHBOUR: 'it returns false'. Refute it at one input. -/
def conditionalErrorsWrong : ChangeSpec := { name := "conditionalErrors", fn := fun _ => fun
  | [d1, d2, d3] => { results := [.lit (.bool false)], args := [d1, d2, d3] }
  | _ => none }
def ConditionalErrorsWrongFalsely : Prop := conditionalErrorsRow.holds Tryd.pinned (OpenSpec.ofChange conditionalErrorsWrong)

/-- 'drosslaw16.ConditionalHolds': WHATEVER THE INPUT: true; the input reads as it did. -/
def conditionalHoldsSpec : ChangeSpec := { name := "conditionalHolds", fn := fun _ => fun
  | [d1, d2] => { results := [.lit (.bool true)], args := [d1, d2] }
  | _ => none }
def conditionalHoldsRow : OpenClaim := { program := "ytgmkjifkkiklcaadoor", sum := "ebfba9b556358f0a214911dab7b5c027d1387167d39cbf01dc6981d1418f7410", func := "dross/drosslaw16.ConditionalHolds", spec := "conditionalHolds", unfollowed := true, recurses := true, named := ["math/bits.deBruijn32tab"], plainKeys := false, apart := false, laid := [("math/bits.deBruijn32tab", laid_math_bits_deBruijn32tab)] }
def ConditionalHoldsSaid : Prop := conditionalHoldsRow.holds Tryd.pinned (OpenSpec.ofChange conditionalHoldsSpec)

/-- ITS FALSE NEIGHBOUR: 'it returns false'. Refute it at one input. -/
def conditionalHoldsWrong : ChangeSpec := { name := "conditionalHolds", fn := fun _ => fun
  | [d1, d2] => { results := [.lit (.bool false)], args := [d1, d2] }
  | _ => none }
def ConditionalHoldsWrongFalsely : Prop := conditionalHoldsRow.holds Tryd.pinned (OpenSpec.ofChange conditionalHoldsWrong)

/-- 'drosslaw16.ConditionalSound': WHATEVER THE INPUT: true; the input reads as it did. -/
def conditionalSoundSpec : ChangeSpec := { name := "conditionalSound", fn := fun _ => fun
  | [d1, d2, d3] => { results := [.lit (.bool true)], args := [d1, d2, d3] }
  | _ => none }
def conditionalSoundRow : OpenClaim := { program := "ytgmkjifkkiklcaadoor", sum := "ebfba9b556358f0a214911dab7b5c027d1387167d39cbf01dc6981d1418f7410", func := "dross/drosslaw16.ConditionalSound", spec := "conditionalSound", unfollowed := true, recurses := true, named := ["math/bits.deBruijn32tab"], plainKeys := false, apart := false, laid := [("math/bits.deBruijn32tab", laid_math_bits_deBruijn32tab)] }
def ConditionalSoundSaid : Prop := conditionalSoundRow.holds Tryd.pinned (OpenSpec.ofChange conditionalSoundSpec)

/-- ITS FALSE NEIGHBOUR: 'it returns false'. Refute it at one input. -/
def conditionalSoundWrong : ChangeSpec := { name := "conditionalSound", fn := fun _ => fun
  | [d1, d2, d3] => { results := [.lit (.bool false)], args := [d1, d2, d3] }
  | _ => none }
def ConditionalSoundWrongFalsely : Prop := conditionalSoundRow.holds Tryd.pinned (OpenSpec.ofChange conditionalSoundWrong)

/-- 'drosslaw16.ConditionalFD': WHATEVER THE INPUT: true; the input reads as it did. -/
def conditionalFDSpec : ChangeSpec := { name := "conditionalFD", fn := fun _ => fun
  | [d1, d2, d3] => { results := [.lit (.bool true)], args := [d1, d2, d3] }
  | _ => none }
def conditionalFDRow : OpenClaim := { program := "ytgmkjifkkiklcaadoor", sum := "ebfba9b556358f0a214911dab7b5c027d1387167d39cbf01dc6981d1418f7410", func := "dross/drosslaw16.ConditionalFD", spec := "conditionalFD", unfollowed := true, recurses := true, named := ["math/bits.deBruijn32tab"], plainKeys := false, apart := false, laid := [("math/bits.deBruijn32tab", laid_math_bits_deBruijn32tab)] }
def ConditionalFDSaid : Prop := conditionalFDRow.holds Tryd.pinned (OpenSpec.ofChange conditionalFDSpec)

/-- ITS FALSE NEIGHBOUR: 'it returns false'. Refute it at one input. -/
def conditionalFDWrong : ChangeSpec := { name := "conditionalFD", fn := fun _ => fun
  | [d1, d2, d3] => { results := [.lit (.bool false)], args := [d1, d2, d3] }
  | _ => none }
def ConditionalFDWrongFalsely : Prop := conditionalFDRow.holds Tryd.pinned (OpenSpec.ofChange conditionalFDWrong)

/- THE SECOND FORM. 'bulk': how many values and letters a reading holds, each counted each time it is reached (what is shared counts as often as it is met; a slice's spare places count too). A statement '..UptoSaid' is the law's where the arguments, and the package variables that the reading takes, are together of bulk at most 1048576: NARROWER than '..Said'. Prove '..Said' where nothing that the law and all that it calls make is longer than what came in: it says more and counts as full. Else prove '..UptoSaid'. A law counts once. -/
mutual
def uptoBulk {H : Type} : DataW H → Nat
  | .lit (.string bytes) => bytes.length + 1
  | .lit _ => 1
  | .nil => 1
  | .ptr d => uptoBulk d + 1
  | .slice elems spare => uptoBulkAll elems + uptoBulkAll spare + 1
  | .agg parts => uptoBulkAll parts + 1
  | .iface _ d => uptoBulk d + 1
  | .map entries => uptoBulkEntries entries + 1
  | .held _ => 1
def uptoBulkAll {H : Type} : List (DataW H) → Nat
  | [] => 0
  | d :: r => uptoBulk d + uptoBulkAll r
def uptoBulkEntries {H : Type} : List (Lit × DataW H) → Nat
  | [] => 0
  | x :: r => uptoBulkEntry x + uptoBulkEntries r
def uptoBulkEntry {H : Type} : Lit × DataW H → Nat
  | (.string bytes, d) => bytes.length + uptoBulk d + 1
  | (_, d) => uptoBulk d + 1
 end
def uptoSmall : (H : Type) → List (DataW H) → Bool := fun _ ds => decide (uptoBulkAll ds ≤ 1048576)
def OpenSpec.upto (s : _root_.Go.ChangeSpec) : _root_.Go.OpenSpec := { _root_.Go.OpenSpec.ofChange s with cond := some uptoSmall }

/-- 'drosslaw16.ConditionalValid', WHERE WHAT IT READS IS OF BULK AT MOST 1048576: true; the input reads as it did. -/
def conditionalValidUptoRow : OpenClaim := { program := "ytgmkjifkkiklcaadoor", sum := "ebfba9b556358f0a214911dab7b5c027d1387167d39cbf01dc6981d1418f7410", func := "dross/drosslaw16.ConditionalValid", spec := "conditionalValid", unfollowed := true, recurses := true, named := ["math/bits.deBruijn32tab"], plainKeys := false, apart := false, laid := [("math/bits.deBruijn32tab", laid_math_bits_deBruijn32tab)], narrowed := true }
def ConditionalValidUptoSaid : Prop := conditionalValidUptoRow.holds Tryd.pinned (OpenSpec.upto conditionalValidSpec)

/-- 'drosslaw16.ConditionalConsistent', WHERE WHAT IT READS IS OF BULK AT MOST 1048576: true; the input reads as it did. -/
def conditionalConsistentUptoRow : OpenClaim := { program := "ytgmkjifkkiklcaadoor", sum := "ebfba9b556358f0a214911dab7b5c027d1387167d39cbf01dc6981d1418f7410", func := "dross/drosslaw16.ConditionalConsistent", spec := "conditionalConsistent", unfollowed := true, recurses := true, named := ["math/bits.deBruijn32tab"], plainKeys := false, apart := false, laid := [("math/bits.deBruijn32tab", laid_math_bits_deBruijn32tab)], narrowed := true }
def ConditionalConsistentUptoSaid : Prop := conditionalConsistentUptoRow.holds Tryd.pinned (OpenSpec.upto conditionalConsistentSpec)

/-- 'drosslaw16.ConditionalCore', WHERE WHAT IT READS IS OF BULK AT MOST 1048576: true; the input reads as it did. -/
def conditionalCoreUptoRow : OpenClaim := { program := "ytgmkjifkkiklcaadoor", sum := "ebfba9b556358f0a214911dab7b5c027d1387167d39cbf01dc6981d1418f7410", func := "dross/drosslaw16.ConditionalCore", spec := "conditionalCore", unfollowed := true, recurses := true, named := ["math/bits.deBruijn32tab"], plainKeys := false, apart := false, laid := [("math/bits.deBruijn32tab", laid_math_bits_deBruijn32tab)], narrowed := true }
def ConditionalCoreUptoSaid : Prop := conditionalCoreUptoRow.holds Tryd.pinned (OpenSpec.upto conditionalCoreSpec)

/-- 'drosslaw16.ConditionalImplies', WHERE WHAT IT READS IS OF BULK AT MOST 1048576: true; the input reads as it did. -/
def conditionalImpliesUptoRow : OpenClaim := { program := "ytgmkjifkkiklcaadoor", sum := "ebfba9b556358f0a214911dab7b5c027d1387167d39cbf01dc6981d1418f7410", func := "dross/drosslaw16.ConditionalImplies", spec := "conditionalImplies", unfollowed := true, recurses := true, named := ["math/bits.deBruijn32tab"], plainKeys := false, apart := false, laid := [("math/bits.deBruijn32tab", laid_math_bits_deBruijn32tab)], narrowed := true }
def ConditionalImpliesUptoSaid : Prop := conditionalImpliesUptoRow.holds Tryd.pinned (OpenSpec.upto conditionalImpliesSpec)

/-- 'drosslaw16.ConditionalErrors', WHERE WHAT IT READS IS OF BULK AT MOST 1048576: true; the input reads as it did. -/
def conditionalErrorsUptoRow : OpenClaim := { program := "ytgmkjifkkiklcaadoor", sum := "ebfba9b556358f0a214911dab7b5c027d1387167d39cbf01dc6981d1418f7410", func := "dross/drosslaw16.ConditionalErrors", spec := "conditionalErrors", unfollowed := true, recurses := true, named := ["math/bits.deBruijn32tab"], plainKeys := false, apart := false, laid := [("math/bits.deBruijn32tab", laid_math_bits_deBruijn32tab)], narrowed := true }
def ConditionalErrorsUptoSaid : Prop := conditionalErrorsUptoRow.holds Tryd.pinned (OpenSpec.upto conditionalErrorsSpec)

/-- 'drosslaw16.ConditionalHolds', WHERE WHAT IT READS IS OF BULK AT MOST 1048576: true; the input reads as it did. -/
def conditionalHoldsUptoRow : OpenClaim := { program := "ytgmkjifkkiklcaadoor", sum := "ebfba9b556358f0a214911dab7b5c027d1387167d39cbf01dc6981d1418f7410", func := "dross/drosslaw16.ConditionalHolds", spec := "conditionalHolds", unfollowed := true, recurses := true, named := ["math/bits.deBruijn32tab"], plainKeys := false, apart := false, laid := [("math/bits.deBruijn32tab", laid_math_bits_deBruijn32tab)], narrowed := true }
def ConditionalHoldsUptoSaid : Prop := conditionalHoldsUptoRow.holds Tryd.pinned (OpenSpec.upto conditionalHoldsSpec)

/-- 'drosslaw16.ConditionalSound', WHERE WHAT IT READS IS OF BULK AT MOST 1048576: true; the input reads as it did. -/
def conditionalSoundUptoRow : OpenClaim := { program := "ytgmkjifkkiklcaadoor", sum := "ebfba9b556358f0a214911dab7b5c027d1387167d39cbf01dc6981d1418f7410", func := "dross/drosslaw16.ConditionalSound", spec := "conditionalSound", unfollowed := true, recurses := true, named := ["math/bits.deBruijn32tab"], plainKeys := false, apart := false, laid := [("math/bits.deBruijn32tab", laid_math_bits_deBruijn32tab)], narrowed := true }
def ConditionalSoundUptoSaid : Prop := conditionalSoundUptoRow.holds Tryd.pinned (OpenSpec.upto conditionalSoundSpec)

/-- 'drosslaw16.ConditionalFD', WHERE WHAT IT READS IS OF BULK AT MOST 1048576: true; the input reads as it did. -/
def conditionalFDUptoRow : OpenClaim := { program := "ytgmkjifkkiklcaadoor", sum := "ebfba9b556358f0a214911dab7b5c027d1387167d39cbf01dc6981d1418f7410", func := "dross/drosslaw16.ConditionalFD", spec := "conditionalFD", unfollowed := true, recurses := true, named := ["math/bits.deBruijn32tab"], plainKeys := false, apart := false, laid := [("math/bits.deBruijn32tab", laid_math_bits_deBruijn32tab)], narrowed := true }
def ConditionalFDUptoSaid : Prop := conditionalFDUptoRow.holds Tryd.pinned (OpenSpec.upto conditionalFDSpec)

end Rows
end Go.Proofs.YtgmkjifkkiklcaaDoor

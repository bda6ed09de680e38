/-
  No cell of these rows narrows 'for every input' (looked for: loops, veiled, ifaces, maps, wideKeys, modest, calm, conditions, laid).
  DERIVED. THE GIVEN ROWS OF THIS SEAT. 9 by the template 'for every input the law returns true; each argument reads behind the call as it read before'; 0 by the template 'total and deterministic' (their statements: YtngcamcnkfkmdaaTotals.lean).
  GIVEN WITH THE SEED: the statements are not yours to turn. If you find one false, say at which input.
  Laid BY PROGRAM, IN A SANDBOX (cutbox-rows.mjs): the forced cells as the released guide's own fill.sh prints them over the translation e7eb1ea55b9e637e… (all of the seat's roots in one cut). By AI agents, Wed Nov 11 2026. No macro, syntax, notation, axiom, sorry.
-/
import Derived.Test.YtngcamcnkfkmdaaChecked
import GoSem.Claim
import GoSem.ClaimJoined
import GoSem.ClaimMapViews
import Derived.JoinedTies
import Derived.KernelRfl
namespace Go.Proofs.Ytngcamcnkfkmdaa
/- THE CELL 'sum', in the pinned program and in every row, IS THE sha256 OF THE DUMP (.gsa) THAT YtngcamcnkfkmdaaProg.lean LOADS. Nothing in Lean hashes anything: it is a label: what it is worth is what the hold of that sum in a sandbox is worth. -/
noncomputable def Try.pinned : Pinned := { name := "ytngcamcnkfkmdaa", sum := "e7eb1ea55b9e637e262e2ab534df058da5f96053b26e51fb44b68d6886943a51", checked := Try.checked }
namespace Rows
def none {H : Type} : Left H := { results := [], args := [] }

/-- 'drosslaw43.EnumerateAll': WHATEVER THE INPUT: true; the input reads as it did. -/
def enumerateAllSpec : ChangeSpec := { name := "enumerateAll", fn := fun _ => fun
  | [d1, d2] => { results := [.lit (.bool true)], args := [d1, d2] }
  | _ => none }
def enumerateAllRow : OpenClaim := { program := "ytngcamcnkfkmdaa", sum := "e7eb1ea55b9e637e262e2ab534df058da5f96053b26e51fb44b68d6886943a51", func := "dross/drosslaw43.EnumerateAll", spec := "enumerateAll", unfollowed := true, recurses := true, apart := false }
def EnumerateAllSaid : Prop := enumerateAllRow.holds Try.pinned (OpenSpec.ofChange enumerateAllSpec)

/-- ITS FALSE NEIGHBOUR: 'it returns false'. Refute it at one input. -/
def enumerateAllWrong : ChangeSpec := { name := "enumerateAll", fn := fun _ => fun
  | [d1, d2] => { results := [.lit (.bool false)], args := [d1, d2] }
  | _ => none }
def EnumerateAllWrongFalsely : Prop := enumerateAllRow.holds Try.pinned (OpenSpec.ofChange enumerateAllWrong)

/-- 'drosslaw43.EnumerateCommon': WHATEVER THE INPUT: true; the input reads as it did. -/
def enumerateCommonSpec : ChangeSpec := { name := "enumerateCommon", fn := fun _ => fun
  | [d] => { results := [.lit (.bool true)], args := [d] }
  | _ => none }
def enumerateCommonRow : OpenClaim := { program := "ytngcamcnkfkmdaa", sum := "e7eb1ea55b9e637e262e2ab534df058da5f96053b26e51fb44b68d6886943a51", func := "dross/drosslaw43.EnumerateCommon", spec := "enumerateCommon", unfollowed := true, recurses := true, apart := false }
def EnumerateCommonSaid : Prop := enumerateCommonRow.holds Try.pinned (OpenSpec.ofChange enumerateCommonSpec)

/-- ITS FALSE NEIGHBOUR: 'it returns false'. Refute it at one input. -/
def enumerateCommonWrong : ChangeSpec := { name := "enumerateCommon", fn := fun _ => fun
  | [d] => { results := [.lit (.bool false)], args := [d] }
  | _ => none }
def EnumerateCommonWrongFalsely : Prop := enumerateCommonRow.holds Try.pinned (OpenSpec.ofChange enumerateCommonWrong)

/-- 'drosslaw43.EnumerateContains': WHATEVER THE INPUT: true; the input reads as it did. -/
def enumerateContainsSpec : ChangeSpec := { name := "enumerateContains", fn := fun _ => fun
  | [d1, d2] => { results := [.lit (.bool true)], args := [d1, d2] }
  | _ => none }
def enumerateContainsRow : OpenClaim := { program := "ytngcamcnkfkmdaa", sum := "e7eb1ea55b9e637e262e2ab534df058da5f96053b26e51fb44b68d6886943a51", func := "dross/drosslaw43.EnumerateContains", spec := "enumerateContains", unfollowed := true, recurses := true, apart := false }
def EnumerateContainsSaid : Prop := enumerateContainsRow.holds Try.pinned (OpenSpec.ofChange enumerateContainsSpec)

/-- ITS FALSE NEIGHBOUR: 'it returns false'. Refute it at one input. -/
def enumerateContainsWrong : ChangeSpec := { name := "enumerateContains", fn := fun _ => fun
  | [d1, d2] => { results := [.lit (.bool false)], args := [d1, d2] }
  | _ => none }
def EnumerateContainsWrongFalsely : Prop := enumerateContainsRow.holds Try.pinned (OpenSpec.ofChange enumerateContainsWrong)

/-- 'drosslaw43.EnumerateNext': WHATEVER THE INPUT: true; the input reads as it did. -/
def enumerateNextSpec : ChangeSpec := { name := "enumerateNext", fn := fun _ => fun
  | [d1, d2] => { results := [.lit (.bool true)], args := [d1, d2] }
  | _ => none }
def enumerateNextRow : OpenClaim := { program := "ytngcamcnkfkmdaa", sum := "e7eb1ea55b9e637e262e2ab534df058da5f96053b26e51fb44b68d6886943a51", func := "dross/drosslaw43.EnumerateNext", spec := "enumerateNext", unfollowed := true, recurses := true, apart := false }
def EnumerateNextSaid : Prop := enumerateNextRow.holds Try.pinned (OpenSpec.ofChange enumerateNextSpec)

/-- ITS FALSE NEIGHBOUR: 'it returns false'. Refute it at one input. -/
def enumerateNextWrong : ChangeSpec := { name := "enumerateNext", fn := fun _ => fun
  | [d1, d2] => { results := [.lit (.bool false)], args := [d1, d2] }
  | _ => none }
def EnumerateNextWrongFalsely : Prop := enumerateNextRow.holds Try.pinned (OpenSpec.ofChange enumerateNextWrong)

/-- 'drosslaw43.EnumerateWalk': WHATEVER THE INPUT: true; the input reads as it did. -/
def enumerateWalkSpec : ChangeSpec := { name := "enumerateWalk", fn := fun _ => fun
  | [d] => { results := [.lit (.bool true)], args := [d] }
  | _ => none }
def enumerateWalkRow : OpenClaim := { program := "ytngcamcnkfkmdaa", sum := "e7eb1ea55b9e637e262e2ab534df058da5f96053b26e51fb44b68d6886943a51", func := "dross/drosslaw43.EnumerateWalk", spec := "enumerateWalk", unfollowed := true, recurses := true, apart := false }
def EnumerateWalkSaid : Prop := enumerateWalkRow.holds Try.pinned (OpenSpec.ofChange enumerateWalkSpec)

/-- ITS FALSE NEIGHBOUR: 'it returns false'. Refute it at one input. -/
def enumerateWalkWrong : ChangeSpec := { name := "enumerateWalk", fn := fun _ => fun
  | [d] => { results := [.lit (.bool false)], args := [d] }
  | _ => none }
def EnumerateWalkWrongFalsely : Prop := enumerateWalkRow.holds Try.pinned (OpenSpec.ofChange enumerateWalkWrong)

/-- 'drosslaw43.EnumerateLeast': WHATEVER THE INPUT: true; the input reads as it did. -/
def enumerateLeastSpec : ChangeSpec := { name := "enumerateLeast", fn := fun _ => fun
  | [d1, d2] => { results := [.lit (.bool true)], args := [d1, d2] }
  | _ => none }
def enumerateLeastRow : OpenClaim := { program := "ytngcamcnkfkmdaa", sum := "e7eb1ea55b9e637e262e2ab534df058da5f96053b26e51fb44b68d6886943a51", func := "dross/drosslaw43.EnumerateLeast", spec := "enumerateLeast", unfollowed := true, recurses := true, apart := false }
def EnumerateLeastSaid : Prop := enumerateLeastRow.holds Try.pinned (OpenSpec.ofChange enumerateLeastSpec)

/-- ITS FALSE NEIGHBOUR: 'it returns false'. Refute it at one input. -/
def enumerateLeastWrong : ChangeSpec := { name := "enumerateLeast", fn := fun _ => fun
  | [d1, d2] => { results := [.lit (.bool false)], args := [d1, d2] }
  | _ => none }
def EnumerateLeastWrongFalsely : Prop := enumerateLeastRow.holds Try.pinned (OpenSpec.ofChange enumerateLeastWrong)

/-- 'drosslaw43.EnumerateCount': WHATEVER THE INPUT: true; the input reads as it did. -/
def enumerateCountSpec : ChangeSpec := { name := "enumerateCount", fn := fun _ => fun
  | [d1, d2] => { results := [.lit (.bool true)], args := [d1, d2] }
  | _ => none }
def enumerateCountRow : OpenClaim := { program := "ytngcamcnkfkmdaa", sum := "e7eb1ea55b9e637e262e2ab534df058da5f96053b26e51fb44b68d6886943a51", func := "dross/drosslaw43.EnumerateCount", spec := "enumerateCount", unfollowed := true, recurses := true, apart := false }
def EnumerateCountSaid : Prop := enumerateCountRow.holds Try.pinned (OpenSpec.ofChange enumerateCountSpec)

/-- ITS FALSE NEIGHBOUR: 'it returns false'. Refute it at one input. -/
def enumerateCountWrong : ChangeSpec := { name := "enumerateCount", fn := fun _ => fun
  | [d1, d2] => { results := [.lit (.bool false)], args := [d1, d2] }
  | _ => none }
def EnumerateCountWrongFalsely : Prop := enumerateCountRow.holds Try.pinned (OpenSpec.ofChange enumerateCountWrong)

/-- 'drosslaw43.EnumeratePairs': WHATEVER THE INPUT: true; the input reads as it did. -/
def enumeratePairsSpec : ChangeSpec := { name := "enumeratePairs", fn := fun _ => fun
  | [d1, d2] => { results := [.lit (.bool true)], args := [d1, d2] }
  | _ => none }
def enumeratePairsRow : OpenClaim := { program := "ytngcamcnkfkmdaa", sum := "e7eb1ea55b9e637e262e2ab534df058da5f96053b26e51fb44b68d6886943a51", func := "dross/drosslaw43.EnumeratePairs", spec := "enumeratePairs", unfollowed := true, recurses := true, apart := false }
def EnumeratePairsSaid : Prop := enumeratePairsRow.holds Try.pinned (OpenSpec.ofChange enumeratePairsSpec)

/-- ITS FALSE NEIGHBOUR: 'it returns false'. Refute it at one input. -/
def enumeratePairsWrong : ChangeSpec := { name := "enumeratePairs", fn := fun _ => fun
  | [d1, d2] => { results := [.lit (.bool false)], args := [d1, d2] }
  | _ => none }
def EnumeratePairsWrongFalsely : Prop := enumeratePairsRow.holds Try.pinned (OpenSpec.ofChange enumeratePairsWrong)

/-- 'drosslaw43.EnumerateErrors': WHATEVER THE INPUT: true; the input reads as it did. -/
def enumerateErrorsSpec : ChangeSpec := { name := "enumerateErrors", fn := fun _ => fun
  | [d] => { results := [.lit (.bool true)], args := [d] }
  | _ => none }
def enumerateErrorsRow : OpenClaim := { program := "ytngcamcnkfkmdaa", sum := "e7eb1ea55b9e637e262e2ab534df058da5f96053b26e51fb44b68d6886943a51", func := "dross/drosslaw43.EnumerateErrors", spec := "enumerateErrors", unfollowed := true, recurses := true, apart := false }
def EnumerateErrorsSaid : Prop := enumerateErrorsRow.holds Try.pinned (OpenSpec.ofChange enumerateErrorsSpec)

/-- ITS FALSE NEIGHBOUR: 'it returns false'. Refute it at one input. -/
def enumerateErrorsWrong : ChangeSpec := { name := "enumerateErrors", fn := fun _ => fun
  | [d] => { results := [.lit (.bool false)], args := [d] }
  | _ => none }
def EnumerateErrorsWrongFalsely : Prop := enumerateErrorsRow.holds Try.pinned (OpenSpec.ofChange enumerateErrorsWrong)

/- THE SECOND FORM. 'bulk': how many values and letters a reading holds, each counted each time it is reached (what is shared counts as often as it is met; a slice's spare places count too). A statement '..UptoSaid' is the law's where the arguments, and the package variables that the reading takes, are together of bulk at most 1048576: NARROWER than '..Said'. Prove '..Said' where nothing that the law and all that it calls make is longer than what came in: it says more and counts as full. Else prove '..UptoSaid'. A law counts once. -/
mutual
def uptoBulk {H : Type} : DataW H → Nat
  | .lit (.string bytes) => bytes.length + 1
  | .lit _ => 1
  | .nil => 1
  | .ptr d => uptoBulk d + 1
  | .slice elems spare => uptoBulkAll elems + uptoBulkAll spare + 1
  | .agg parts => uptoBulkAll parts + 1
  | .iface _ d => uptoBulk d + 1
  | .map entries => uptoBulkEntries entries + 1
  | .held _ => 1
def uptoBulkAll {H : Type} : List (DataW H) → Nat
  | [] => 0
  | d :: r => uptoBulk d + uptoBulkAll r
def uptoBulkEntries {H : Type} : List (Lit × DataW H) → Nat
  | [] => 0
  | x :: r => uptoBulkEntry x + uptoBulkEntries r
def uptoBulkEntry {H : Type} : Lit × DataW H → Nat
  | (.string bytes, d) => bytes.length + uptoBulk d + 1
  | (_, d) => uptoBulk d + 1
 end
def uptoSmall : (H : Type) → List (DataW H) → Bool := fun _ ds => decide (uptoBulkAll ds ≤ 1048576)
def OpenSpec.upto (s : _root_.Go.ChangeSpec) : _root_.Go.OpenSpec := { _root_.Go.OpenSpec.ofChange s with cond := some uptoSmall }

/-- 'drosslaw43.EnumerateAll', WHERE WHAT IT READS IS OF BULK AT MOST 1048576: true; the input reads as it did. -/
def enumerateAllUptoRow : OpenClaim := { program := "ytngcamcnkfkmdaa", sum := "e7eb1ea55b9e637e262e2ab534df058da5f96053b26e51fb44b68d6886943a51", func := "dross/drosslaw43.EnumerateAll", spec := "enumerateAll", unfollowed := true, recurses := true, apart := false, narrowed := true }
def EnumerateAllUptoSaid : Prop := enumerateAllUptoRow.holds Try.pinned (OpenSpec.upto enumerateAllSpec)

/-- 'drosslaw43.EnumerateCommon', WHERE WHAT IT READS IS OF BULK AT MOST 1048576: true; the input reads as it did. -/
def enumerateCommonUptoRow : OpenClaim := { program := "ytngcamcnkfkmdaa", sum := "e7eb1ea55b9e637e262e2ab534df058da5f96053b26e51fb44b68d6886943a51", func := "dross/drosslaw43.EnumerateCommon", spec := "enumerateCommon", unfollowed := true, recurses := true, apart := false, narrowed := true }
def EnumerateCommonUptoSaid : Prop := enumerateCommonUptoRow.holds Try.pinned (OpenSpec.upto enumerateCommonSpec)

/-- 'drosslaw43.EnumerateContains', WHERE WHAT IT READS IS OF BULK AT MOST 1048576: true; the input reads as it did. -/
def enumerateContainsUptoRow : OpenClaim := { program := "ytngcamcnkfkmdaa", sum := "e7eb1ea55b9e637e262e2ab534df058da5f96053b26e51fb44b68d6886943a51", func := "dross/drosslaw43.EnumerateContains", spec := "enumerateContains", unfollowed := true, recurses := true, apart := false, narrowed := true }
def EnumerateContainsUptoSaid : Prop := enumerateContainsUptoRow.holds Try.pinned (OpenSpec.upto enumerateContainsSpec)

/-- 'drosslaw43.EnumerateNext', WHERE WHAT IT READS IS OF BULK AT MOST 1048576: true; the input reads as it did. -/
def enumerateNextUptoRow : OpenClaim := { program := "ytngcamcnkfkmdaa", sum := "e7eb1ea55b9e637e262e2ab534df058da5f96053b26e51fb44b68d6886943a51", func := "dross/drosslaw43.EnumerateNext", spec := "enumerateNext", unfollowed := true, recurses := true, apart := false, narrowed := true }
def EnumerateNextUptoSaid : Prop := enumerateNextUptoRow.holds Try.pinned (OpenSpec.upto enumerateNextSpec)

/-- 'drosslaw43.EnumerateWalk', WHERE WHAT IT READS IS OF BULK AT MOST 1048576: true; the input reads as it did. -/
def enumerateWalkUptoRow : OpenClaim := { program := "ytngcamcnkfkmdaa", sum := "e7eb1ea55b9e637e262e2ab534df058da5f96053b26e51fb44b68d6886943a51", func := "dross/drosslaw43.EnumerateWalk", spec := "enumerateWalk", unfollowed := true, recurses := true, apart := false, narrowed := true }
def EnumerateWalkUptoSaid : Prop := enumerateWalkUptoRow.holds Try.pinned (OpenSpec.upto enumerateWalkSpec)

/-- 'drosslaw43.EnumerateLeast', WHERE WHAT IT READS IS OF BULK AT MOST 1048576: true; the input reads as it did. -/
def enumerateLeastUptoRow : OpenClaim := { program := "ytngcamcnkfkmdaa", sum := "e7eb1ea55b9e637e262e2ab534df058da5f96053b26e51fb44b68d6886943a51", func := "dross/drosslaw43.EnumerateLeast", spec := "enumerateLeast", unfollowed := true, recurses := true, apart := false, narrowed := true }
def EnumerateLeastUptoSaid : Prop := enumerateLeastUptoRow.holds Try.pinned (OpenSpec.upto enumerateLeastSpec)

/-- 'drosslaw43.EnumerateCount', WHERE WHAT IT READS IS OF BULK AT MOST 1048576: true; the input reads as it did. -/
def enumerateCountUptoRow : OpenClaim := { program := "ytngcamcnkfkmdaa", sum := "e7eb1ea55b9e637e262e2ab534df058da5f96053b26e51fb44b68d6886943a51", func := "dross/drosslaw43.EnumerateCount", spec := "enumerateCount", unfollowed := true, recurses := true, apart := false, narrowed := true }
def EnumerateCountUptoSaid : Prop := enumerateCountUptoRow.holds Try.pinned (OpenSpec.upto enumerateCountSpec)

/-- 'drosslaw43.EnumeratePairs', WHERE WHAT IT READS IS OF BULK AT MOST 1048576: true; the input reads as it did. -/
def enumeratePairsUptoRow : OpenClaim := { program := "ytngcamcnkfkmdaa", sum := "e7eb1ea55b9e637e262e2ab534df058da5f96053b26e51fb44b68d6886943a51", func := "dross/drosslaw43.EnumeratePairs", spec := "enumeratePairs", unfollowed := true, recurses := true, apart := false, narrowed := true }
def EnumeratePairsUptoSaid : Prop := enumeratePairsUptoRow.holds Try.pinned (OpenSpec.upto enumeratePairsSpec)

/-- 'drosslaw43.EnumerateErrors', WHERE WHAT IT READS IS OF BULK AT MOST 1048576: true; the input reads as it did. -/
def enumerateErrorsUptoRow : OpenClaim := { program := "ytngcamcnkfkmdaa", sum := "e7eb1ea55b9e637e262e2ab534df058da5f96053b26e51fb44b68d6886943a51", func := "dross/drosslaw43.EnumerateErrors", spec := "enumerateErrors", unfollowed := true, recurses := true, apart := false, narrowed := true }
def EnumerateErrorsUptoSaid : Prop := enumerateErrorsUptoRow.holds Try.pinned (OpenSpec.upto enumerateErrorsSpec)

end Rows
end Go.Proofs.Ytngcamcnkfkmdaa

/-
  NARROWER THAN 'FOR EVERY INPUT', by the rows' own cells (each row's printed sentence says how): PriorityOptimal: laid · PriorityValid: laid · PriorityImproves: laid · PriorityIsGlobal: laid · PriorityIsPareto: laid · PriorityCompletion: laid · PriorityGreedy: laid · PriorityTotal: laid · PriorityChain: laid.
  DERIVED. THE GIVEN ROWS OF THIS SEAT. 9 by the template 'for every input the law returns true; each argument reads behind the call as it read before'; 0 by the template 'total and deterministic' (their statements: YtfjdpcegbfenbaaGreatDoorTotals.lean).
  GIVEN WITH THE SEED: the statements are not yours to turn. If you find one false, say at which input.
  Laid BY PROGRAM, IN A SANDBOX (cutbox-rows.mjs): the forced cells as the released guide's own fill.sh prints them over the translation 05e59ef196b89535… (all of the seat's roots in one cut). By AI agents, Wed Nov 11 2026. No macro, syntax, notation, axiom, sorry.
-/
import Derived.Test.YtfjdpcegbfenbaaGreatDoorChecked
import GoSem.Claim
import GoSem.ClaimJoined
import GoSem.ClaimMapViews
import Derived.JoinedTies
import Derived.KernelRfl
namespace Go.Proofs.YtfjdpcegbfenbaaGreatDoor
/- THE CELL 'sum', in the pinned program and in every row, IS THE sha256 OF THE DUMP (.gsa) THAT YtfjdpcegbfenbaaGreatDoorProg.lean LOADS. Nothing in Lean hashes anything: it is a label: what it is worth is what the hold of that sum in a sandbox is worth. -/
noncomputable def Tryz.pinned : Pinned := { name := "ytfjdpcegbfenbaagreatdoor", sum := "05e59ef196b895353e6ced3e53fe2b97bb927cbc2f63827039ca7a3fb39ff6ff", checked := Tryz.checked }
namespace Rows
def none {H : Type} : Left H := { results := [], args := [] }

/- WHAT THE LISTED PACKAGE-LEVEL VARIABLES READ AS WHEN THE CALL BEGINS. Each datum BY PROGRAM (the guide's laid-datum.mjs) off the statement by which the dump's own 'gosem.cut.vars' lays the variable. In a bare row this is a premise. The card (YtfjdpcegbfenbaaGreatDoorCards.lean) ties it to the program's text. -/
def laid_math_bits_deBruijn32tab {H : Type} : DataW H := .agg [.lit (.int .u8 0), .lit (.int .u8 1), .lit (.int .u8 28), .lit (.int .u8 2), .lit (.int .u8 29), .lit (.int .u8 14), .lit (.int .u8 24), .lit (.int .u8 3), .lit (.int .u8 30), .lit (.int .u8 22), .lit (.int .u8 20), .lit (.int .u8 15), .lit (.int .u8 25), .lit (.int .u8 17), .lit (.int .u8 4), .lit (.int .u8 8), .lit (.int .u8 31), .lit (.int .u8 27), .lit (.int .u8 13), .lit (.int .u8 23), .lit (.int .u8 21), .lit (.int .u8 19), .lit (.int .u8 16), .lit (.int .u8 7), .lit (.int .u8 26), .lit (.int .u8 12), .lit (.int .u8 18), .lit (.int .u8 6), .lit (.int .u8 11), .lit (.int .u8 5), .lit (.int .u8 10), .lit (.int .u8 9)]

/-- 'drosslaw44.PriorityOptimal': WHATEVER THE INPUT: true; the input reads as it did. -/
def priorityOptimalSpec : ChangeSpec := { name := "priorityOptimal", fn := fun _ => fun
  | [d1, d2] => { results := [.lit (.bool true)], args := [d1, d2] }
  | _ => none }
def priorityOptimalRow : OpenClaim := { program := "ytfjdpcegbfenbaagreatdoor", sum := "05e59ef196b895353e6ced3e53fe2b97bb927cbc2f63827039ca7a3fb39ff6ff", func := "dross/drosslaw44.PriorityOptimal", spec := "priorityOptimal", inPlace := ["slices.overlaps[int64]"], unfollowed := true, recurses := true, named := ["math/bits.deBruijn32tab"], apart := false, laid := [("math/bits.deBruijn32tab", laid_math_bits_deBruijn32tab)] }
def PriorityOptimalSaid : Prop := priorityOptimalRow.holds Tryz.pinned (OpenSpec.ofChange priorityOptimalSpec)

/-- ITS FALSE NEIGHBOUR: 'it returns false'. Refute it at one input. -/
def priorityOptimalWrong : ChangeSpec := { name := "priorityOptimal", fn := fun _ => fun
  | [d1, d2] => { results := [.lit (.bool false)], args := [d1, d2] }
  | _ => none }
def PriorityOptimalWrongFalsely : Prop := priorityOptimalRow.holds Tryz.pinned (OpenSpec.ofChange priorityOptimalWrong)

/-- 'drosslaw44.PriorityValid': WHATEVER THE INPUT: true; the input reads as it did. -/
def priorityValidSpec : ChangeSpec := { name := "priorityValid", fn := fun _ => fun
  | [d1, d2] => { results := [.lit (.bool true)], args := [d1, d2] }
  | _ => none }
def priorityValidRow : OpenClaim := { program := "ytfjdpcegbfenbaagreatdoor", sum := "05e59ef196b895353e6ced3e53fe2b97bb927cbc2f63827039ca7a3fb39ff6ff", func := "dross/drosslaw44.PriorityValid", spec := "priorityValid", inPlace := ["slices.overlaps[int64]"], unfollowed := true, recurses := true, named := ["math/bits.deBruijn32tab"], apart := false, laid := [("math/bits.deBruijn32tab", laid_math_bits_deBruijn32tab)] }
def PriorityValidSaid : Prop := priorityValidRow.holds Tryz.pinned (OpenSpec.ofChange priorityValidSpec)

/-- ITS FALSE NEIGHBOUR: 'it returns false'. Refute it at one input. -/
def priorityValidWrong : ChangeSpec := { name := "priorityValid", fn := fun _ => fun
  | [d1, d2] => { results := [.lit (.bool false)], args := [d1, d2] }
  | _ => none }
def PriorityValidWrongFalsely : Prop := priorityValidRow.holds Tryz.pinned (OpenSpec.ofChange priorityValidWrong)

/-- 'drosslaw44.PriorityImproves': WHATEVER THE INPUT: true; the input reads as it did. -/
def priorityImprovesSpec : ChangeSpec := { name := "priorityImproves", fn := fun _ => fun
  | [d1, d2, d3] => { results := [.lit (.bool true)], args := [d1, d2, d3] }
  | _ => none }
def priorityImprovesRow : OpenClaim := { program := "ytfjdpcegbfenbaagreatdoor", sum := "05e59ef196b895353e6ced3e53fe2b97bb927cbc2f63827039ca7a3fb39ff6ff", func := "dross/drosslaw44.PriorityImproves", spec := "priorityImproves", inPlace := ["slices.overlaps[int64]"], unfollowed := true, recurses := true, named := ["math/bits.deBruijn32tab"], apart := false, laid := [("math/bits.deBruijn32tab", laid_math_bits_deBruijn32tab)] }
def PriorityImprovesSaid : Prop := priorityImprovesRow.holds Tryz.pinned (OpenSpec.ofChange priorityImprovesSpec)

/-- ITS FALSE NEIGHBOUR: 'it returns false'. Refute it at one input. -/
def priorityImprovesWrong : ChangeSpec := { name := "priorityImproves", fn := fun _ => fun
  | [d1, d2, d3] => { results := [.lit (.bool false)], args := [d1, d2, d3] }
  | _ => none }
def PriorityImprovesWrongFalsely : Prop := priorityImprovesRow.holds Tryz.pinned (OpenSpec.ofChange priorityImprovesWrong)

/-- 'drosslaw44.PriorityIsGlobal': WHATEVER THE INPUT: true; the input reads as it did. -/
def priorityIsGlobalSpec : ChangeSpec := { name := "priorityIsGlobal", fn := fun _ => fun
  | [d1, d2, d3] => { results := [.lit (.bool true)], args := [d1, d2, d3] }
  | _ => none }
def priorityIsGlobalRow : OpenClaim := { program := "ytfjdpcegbfenbaagreatdoor", sum := "05e59ef196b895353e6ced3e53fe2b97bb927cbc2f63827039ca7a3fb39ff6ff", func := "dross/drosslaw44.PriorityIsGlobal", spec := "priorityIsGlobal", inPlace := ["slices.overlaps[int64]"], unfollowed := true, recurses := true, named := ["math/bits.deBruijn32tab"], apart := false, laid := [("math/bits.deBruijn32tab", laid_math_bits_deBruijn32tab)] }
def PriorityIsGlobalSaid : Prop := priorityIsGlobalRow.holds Tryz.pinned (OpenSpec.ofChange priorityIsGlobalSpec)

/-- ITS FALSE NEIGHBOUR: 'it returns false'. Refute it at one input. -/
def priorityIsGlobalWrong : ChangeSpec := { name := "priorityIsGlobal", fn := fun _ => fun
  | [d1, d2, d3] => { results := [.lit (.bool false)], args := [d1, d2, d3] }
  | _ => none }
def PriorityIsGlobalWrongFalsely : Prop := priorityIsGlobalRow.holds Tryz.pinned (OpenSpec.ofChange priorityIsGlobalWrong)

/-- 'drosslaw44.PriorityIsPareto': WHATEVER THE INPUT: true; the input reads as it did. -/
def priorityIsParetoSpec : ChangeSpec := { name := "priorityIsPareto", fn := fun _ => fun
  | [d1, d2, d3] => { results := [.lit (.bool true)], args := [d1, d2, d3] }
  | _ => none }
def priorityIsParetoRow : OpenClaim := { program := "ytfjdpcegbfenbaagreatdoor", sum := "05e59ef196b895353e6ced3e53fe2b97bb927cbc2f63827039ca7a3fb39ff6ff", func := "dross/drosslaw44.PriorityIsPareto", spec := "priorityIsPareto", inPlace := ["slices.overlaps[int64]"], unfollowed := true, recurses := true, named := ["math/bits.deBruijn32tab"], apart := false, laid := [("math/bits.deBruijn32tab", laid_math_bits_deBruijn32tab)] }
def PriorityIsParetoSaid : Prop := priorityIsParetoRow.holds Tryz.pinned (OpenSpec.ofChange priorityIsParetoSpec)

/-- ITS FALSE NEIGHBOUR: 'it returns false'. Refute it at one input. -/
def priorityIsParetoWrong : ChangeSpec := { name := "priorityIsPareto", fn := fun _ => fun
  | [d1, d2, d3] => { results := [.lit (.bool false)], args := [d1, d2, d3] }
  | _ => none }
def PriorityIsParetoWrongFalsely : Prop := priorityIsParetoRow.holds Tryz.pinned (OpenSpec.ofChange priorityIsParetoWrong)

/-- 'drosslaw44.PriorityCompletion': WHATEVER THE INPUT: true; the input reads as it did. -/
def priorityCompletionSpec : ChangeSpec := { name := "priorityCompletion", fn := fun _ => fun
  | [d1, d2, d3] => { results := [.lit (.bool true)], args := [d1, d2, d3] }
  | _ => none }
def priorityCompletionRow : OpenClaim := { program := "ytfjdpcegbfenbaagreatdoor", sum := "05e59ef196b895353e6ced3e53fe2b97bb927cbc2f63827039ca7a3fb39ff6ff", func := "dross/drosslaw44.PriorityCompletion", spec := "priorityCompletion", inPlace := ["slices.overlaps[int64]"], unfollowed := true, recurses := true, named := ["math/bits.deBruijn32tab"], apart := false, laid := [("math/bits.deBruijn32tab", laid_math_bits_deBruijn32tab)] }
def PriorityCompletionSaid : Prop := priorityCompletionRow.holds Tryz.pinned (OpenSpec.ofChange priorityCompletionSpec)

/-- ITS FALSE NEIGHBOUR: 'it returns false'. Refute it at one input. -/
def priorityCompletionWrong : ChangeSpec := { name := "priorityCompletion", fn := fun _ => fun
  | [d1, d2, d3] => { results := [.lit (.bool false)], args := [d1, d2, d3] }
  | _ => none }
def PriorityCompletionWrongFalsely : Prop := priorityCompletionRow.holds Tryz.pinned (OpenSpec.ofChange priorityCompletionWrong)

/-- 'drosslaw44.PriorityGreedy': WHATEVER THE INPUT: true; the input reads as it did. -/
def priorityGreedySpec : ChangeSpec := { name := "priorityGreedy", fn := fun _ => fun
  | [d1, d2] => { results := [.lit (.bool true)], args := [d1, d2] }
  | _ => none }
def priorityGreedyRow : OpenClaim := { program := "ytfjdpcegbfenbaagreatdoor", sum := "05e59ef196b895353e6ced3e53fe2b97bb927cbc2f63827039ca7a3fb39ff6ff", func := "dross/drosslaw44.PriorityGreedy", spec := "priorityGreedy", inPlace := ["slices.overlaps[int64]"], unfollowed := true, recurses := true, named := ["math/bits.deBruijn32tab"], apart := false, laid := [("math/bits.deBruijn32tab", laid_math_bits_deBruijn32tab)] }
def PriorityGreedySaid : Prop := priorityGreedyRow.holds Tryz.pinned (OpenSpec.ofChange priorityGreedySpec)

/-- ITS FALSE NEIGHBOUR: 'it returns false'. Refute it at one input. -/
def priorityGreedyWrong : ChangeSpec := { name := "priorityGreedy", fn := fun _ => fun
  | [d1, d2] => { results := [.lit (.bool false)], args := [d1, d2] }
  | _ => none }
def PriorityGreedyWrongFalsely : Prop := priorityGreedyRow.holds Tryz.pinned (OpenSpec.ofChange priorityGreedyWrong)

/-- 'drosslaw44.PriorityTotal': WHATEVER THE INPUT: true; the input reads as it did. -/
def priorityTotalSpec : ChangeSpec := { name := "priorityTotal", fn := fun _ => fun
  | [d1, d2] => { results := [.lit (.bool true)], args := [d1, d2] }
  | _ => none }
def priorityTotalRow : OpenClaim := { program := "ytfjdpcegbfenbaagreatdoor", sum := "05e59ef196b895353e6ced3e53fe2b97bb927cbc2f63827039ca7a3fb39ff6ff", func := "dross/drosslaw44.PriorityTotal", spec := "priorityTotal", inPlace := ["slices.overlaps[int64]"], unfollowed := true, recurses := true, named := ["math/bits.deBruijn32tab"], apart := false, laid := [("math/bits.deBruijn32tab", laid_math_bits_deBruijn32tab)] }
def PriorityTotalSaid : Prop := priorityTotalRow.holds Tryz.pinned (OpenSpec.ofChange priorityTotalSpec)

/-- ITS FALSE NEIGHBOUR: 'it returns false'. Refute it at one input. -/
def priorityTotalWrong : ChangeSpec := { name := "priorityTotal", fn := fun _ => fun
  | [d1, d2] => { results := [.lit (.bool false)], args := [d1, d2] }
  | _ => none }
def PriorityTotalWrongFalsely : Prop := priorityTotalRow.holds Tryz.pinned (OpenSpec.ofChange priorityTotalWrong)

/-- 'drosslaw44.PriorityChain': WHATEVER THE INPUT: true; the input reads as it did. -/
def priorityChainSpec : ChangeSpec := { name := "priorityChain", fn := fun _ => fun
  | [d1, d2] => { results := [.lit (.bool true)], args := [d1, d2] }
  | _ => none }
def priorityChainRow : OpenClaim := { program := "ytfjdpcegbfenbaagreatdoor", sum := "05e59ef196b895353e6ced3e53fe2b97bb927cbc2f63827039ca7a3fb39ff6ff", func := "dross/drosslaw44.PriorityChain", spec := "priorityChain", inPlace := ["slices.overlaps[int64]"], unfollowed := true, recurses := true, named := ["math/bits.deBruijn32tab"], apart := false, laid := [("math/bits.deBruijn32tab", laid_math_bits_deBruijn32tab)] }
def PriorityChainSaid : Prop := priorityChainRow.holds Tryz.pinned (OpenSpec.ofChange priorityChainSpec)

/-- ITS FALSE NEIGHBOUR: 'it returns false'. Refute it at one input. -/
def priorityChainWrong : ChangeSpec := { name := "priorityChain", fn := fun _ => fun
  | [d1, d2] => { results := [.lit (.bool false)], args := [d1, d2] }
  | _ => none }
def PriorityChainWrongFalsely : Prop := priorityChainRow.holds Tryz.pinned (OpenSpec.ofChange priorityChainWrong)

/- THE SECOND FORM. 'bulk': how many values and letters a reading holds, each counted each time it is reached (what is shared counts as often as it is met; a slice's spare places count too). A statement '..UptoSaid' is the law's where the arguments, and the package variables that the reading takes, are together of bulk at most 1048576: NARROWER than '..Said'. Prove '..Said' where nothing that the law and all that it calls make is longer than what came in: it says more and counts as full. Else prove '..UptoSaid'. A law counts once. -/
mutual
def uptoBulk {H : Type} : DataW H → Nat
  | .lit (.string bytes) => bytes.length + 1
  | .lit _ => 1
  | .nil => 1
  | .ptr d => uptoBulk d + 1
  | .slice elems spare => uptoBulkAll elems + uptoBulkAll spare + 1
  | .agg parts => uptoBulkAll parts + 1
  | .iface _ d => uptoBulk d + 1
  | .map entries => uptoBulkEntries entries + 1
  | .held _ => 1
def uptoBulkAll {H : Type} : List (DataW H) → Nat
  | [] => 0
  | d :: r => uptoBulk d + uptoBulkAll r
def uptoBulkEntries {H : Type} : List (Lit × DataW H) → Nat
  | [] => 0
  | x :: r => uptoBulkEntry x + uptoBulkEntries r
def uptoBulkEntry {H : Type} : Lit × DataW H → Nat
  | (.string bytes, d) => bytes.length + uptoBulk d + 1
  | (_, d) => uptoBulk d + 1
 end
def uptoSmall : (H : Type) → List (DataW H) → Bool := fun _ ds => decide (uptoBulkAll ds ≤ 1048576)
def OpenSpec.upto (s : _root_.Go.ChangeSpec) : _root_.Go.OpenSpec := { _root_.Go.OpenSpec.ofChange s with cond := some uptoSmall }

/-- 'drosslaw44.PriorityOptimal', WHERE WHAT IT READS IS OF BULK AT MOST 1048576: true; the input reads as it did. -/
def priorityOptimalUptoRow : OpenClaim := { program := "ytfjdpcegbfenbaagreatdoor", sum := "05e59ef196b895353e6ced3e53fe2b97bb927cbc2f63827039ca7a3fb39ff6ff", func := "dross/drosslaw44.PriorityOptimal", spec := "priorityOptimal", inPlace := ["slices.overlaps[int64]"], unfollowed := true, recurses := true, named := ["math/bits.deBruijn32tab"], apart := false, laid := [("math/bits.deBruijn32tab", laid_math_bits_deBruijn32tab)], narrowed := true }
def PriorityOptimalUptoSaid : Prop := priorityOptimalUptoRow.holds Tryz.pinned (OpenSpec.upto priorityOptimalSpec)

/-- 'drosslaw44.PriorityValid', WHERE WHAT IT READS IS OF BULK AT MOST 1048576: true; the input reads as it did. -/
def priorityValidUptoRow : OpenClaim := { program := "ytfjdpcegbfenbaagreatdoor", sum := "05e59ef196b895353e6ced3e53fe2b97bb927cbc2f63827039ca7a3fb39ff6ff", func := "dross/drosslaw44.PriorityValid", spec := "priorityValid", inPlace := ["slices.overlaps[int64]"], unfollowed := true, recurses := true, named := ["math/bits.deBruijn32tab"], apart := false, laid := [("math/bits.deBruijn32tab", laid_math_bits_deBruijn32tab)], narrowed := true }
def PriorityValidUptoSaid : Prop := priorityValidUptoRow.holds Tryz.pinned (OpenSpec.upto priorityValidSpec)

/-- 'drosslaw44.PriorityImproves', WHERE WHAT IT READS IS OF BULK AT MOST 1048576: true; the input reads as it did. -/
def priorityImprovesUptoRow : OpenClaim := { program := "ytfjdpcegbfenbaagreatdoor", sum := "05e59ef196b895353e6ced3e53fe2b97bb927cbc2f63827039ca7a3fb39ff6ff", func := "dross/drosslaw44.PriorityImproves", spec := "priorityImproves", inPlace := ["slices.overlaps[int64]"], unfollowed := true, recurses := true, named := ["math/bits.deBruijn32tab"], apart := false, laid := [("math/bits.deBruijn32tab", laid_math_bits_deBruijn32tab)], narrowed := true }
def PriorityImprovesUptoSaid : Prop := priorityImprovesUptoRow.holds Tryz.pinned (OpenSpec.upto priorityImprovesSpec)

/-- 'drosslaw44.PriorityIsGlobal', WHERE WHAT IT READS IS OF BULK AT MOST 1048576: true; the input reads as it did. -/
def priorityIsGlobalUptoRow : OpenClaim := { program := "ytfjdpcegbfenbaagreatdoor", sum := "05e59ef196b895353e6ced3e53fe2b97bb927cbc2f63827039ca7a3fb39ff6ff", func := "dross/drosslaw44.PriorityIsGlobal", spec := "priorityIsGlobal", inPlace := ["slices.overlaps[int64]"], unfollowed := true, recurses := true, named := ["math/bits.deBruijn32tab"], apart := false, laid := [("math/bits.deBruijn32tab", laid_math_bits_deBruijn32tab)], narrowed := true }
def PriorityIsGlobalUptoSaid : Prop := priorityIsGlobalUptoRow.holds Tryz.pinned (OpenSpec.upto priorityIsGlobalSpec)

/-- 'drosslaw44.PriorityIsPareto', WHERE WHAT IT READS IS OF BULK AT MOST 1048576: true; the input reads as it did. -/
def priorityIsParetoUptoRow : OpenClaim := { program := "ytfjdpcegbfenbaagreatdoor", sum := "05e59ef196b895353e6ced3e53fe2b97bb927cbc2f63827039ca7a3fb39ff6ff", func := "dross/drosslaw44.PriorityIsPareto", spec := "priorityIsPareto", inPlace := ["slices.overlaps[int64]"], unfollowed := true, recurses := true, named := ["math/bits.deBruijn32tab"], apart := false, laid := [("math/bits.deBruijn32tab", laid_math_bits_deBruijn32tab)], narrowed := true }
def PriorityIsParetoUptoSaid : Prop := priorityIsParetoUptoRow.holds Tryz.pinned (OpenSpec.upto priorityIsParetoSpec)

/-- 'drosslaw44.PriorityCompletion', WHERE WHAT IT READS IS OF BULK AT MOST 1048576: true; the input reads as it did. -/
def priorityCompletionUptoRow : OpenClaim := { program := "ytfjdpcegbfenbaagreatdoor", sum := "05e59ef196b895353e6ced3e53fe2b97bb927cbc2f63827039ca7a3fb39ff6ff", func := "dross/drosslaw44.PriorityCompletion", spec := "priorityCompletion", inPlace := ["slices.overlaps[int64]"], unfollowed := true, recurses := true, named := ["math/bits.deBruijn32tab"], apart := false, laid := [("math/bits.deBruijn32tab", laid_math_bits_deBruijn32tab)], narrowed := true }
def PriorityCompletionUptoSaid : Prop := priorityCompletionUptoRow.holds Tryz.pinned (OpenSpec.upto priorityCompletionSpec)

/-- 'drosslaw44.PriorityGreedy', WHERE WHAT IT READS IS OF BULK AT MOST 1048576: true; the input reads as it did. -/
def priorityGreedyUptoRow : OpenClaim := { program := "ytfjdpcegbfenbaagreatdoor", sum := "05e59ef196b895353e6ced3e53fe2b97bb927cbc2f63827039ca7a3fb39ff6ff", func := "dross/drosslaw44.PriorityGreedy", spec := "priorityGreedy", inPlace := ["slices.overlaps[int64]"], unfollowed := true, recurses := true, named := ["math/bits.deBruijn32tab"], apart := false, laid := [("math/bits.deBruijn32tab", laid_math_bits_deBruijn32tab)], narrowed := true }
def PriorityGreedyUptoSaid : Prop := priorityGreedyUptoRow.holds Tryz.pinned (OpenSpec.upto priorityGreedySpec)

/-- 'drosslaw44.PriorityTotal', WHERE WHAT IT READS IS OF BULK AT MOST 1048576: true; the input reads as it did. -/
def priorityTotalUptoRow : OpenClaim := { program := "ytfjdpcegbfenbaagreatdoor", sum := "05e59ef196b895353e6ced3e53fe2b97bb927cbc2f63827039ca7a3fb39ff6ff", func := "dross/drosslaw44.PriorityTotal", spec := "priorityTotal", inPlace := ["slices.overlaps[int64]"], unfollowed := true, recurses := true, named := ["math/bits.deBruijn32tab"], apart := false, laid := [("math/bits.deBruijn32tab", laid_math_bits_deBruijn32tab)], narrowed := true }
def PriorityTotalUptoSaid : Prop := priorityTotalUptoRow.holds Tryz.pinned (OpenSpec.upto priorityTotalSpec)

/-- 'drosslaw44.PriorityChain', WHERE WHAT IT READS IS OF BULK AT MOST 1048576: true; the input reads as it did. -/
def priorityChainUptoRow : OpenClaim := { program := "ytfjdpcegbfenbaagreatdoor", sum := "05e59ef196b895353e6ced3e53fe2b97bb927cbc2f63827039ca7a3fb39ff6ff", func := "dross/drosslaw44.PriorityChain", spec := "priorityChain", inPlace := ["slices.overlaps[int64]"], unfollowed := true, recurses := true, named := ["math/bits.deBruijn32tab"], apart := false, laid := [("math/bits.deBruijn32tab", laid_math_bits_deBruijn32tab)], narrowed := true }
def PriorityChainUptoSaid : Prop := priorityChainUptoRow.holds Tryz.pinned (OpenSpec.upto priorityChainSpec)

end Rows
end Go.Proofs.YtfjdpcegbfenbaaGreatDoor

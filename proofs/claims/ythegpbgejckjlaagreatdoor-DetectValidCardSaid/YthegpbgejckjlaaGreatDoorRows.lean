/-
  NARROWER THAN 'FOR EVERY INPUT', by the rows' own cells (each row's printed sentence says how): DetectValid: laid · DetectDirty: laid · DetectErrors: laid · DetectAll: laid · DetectScores: laid · DetectOf: laid · DetectFewer: laid.
  DERIVED. THE GIVEN ROWS OF THIS SEAT. 7 by the template 'for every input the law returns true; each argument reads behind the call as it read before'; 0 by the template 'total and deterministic' (their statements: YthegpbgejckjlaaGreatDoorTotals.lean).
  GIVEN WITH THE SEED: the statements are not yours to turn. If you find one false, say at which input.
  Laid BY PROGRAM, IN A SANDBOX (cutbox-rows.mjs): the forced cells as the released guide's own fill.sh prints them over the translation 9b0a74bb413c5e1b… (all of the seat's roots in one cut). By AI agents, Wed Nov 11 2026. No macro, syntax, notation, axiom, sorry.
-/
import Derived.Test.YthegpbgejckjlaaGreatDoorChecked
import GoSem.Claim
import GoSem.ClaimJoined
import GoSem.ClaimMapViews
import Derived.JoinedTies
import Derived.KernelRfl
namespace Go.Proofs.YthegpbgejckjlaaGreatDoor
/- THE CELL 'sum', in the pinned program and in every row, IS THE sha256 OF THE DUMP (.gsa) THAT YthegpbgejckjlaaGreatDoorProg.lean LOADS. Nothing in Lean hashes anything: it is a label: what it is worth is what the hold of that sum in a sandbox is worth. -/
noncomputable def Tryz.pinned : Pinned := { name := "ythegpbgejckjlaagreatdoor", sum := "9b0a74bb413c5e1b721b8fe89ef83f9e958424e28bedd69323da85350e68faa3", checked := Tryz.checked }
namespace Rows
def none {H : Type} : Left H := { results := [], args := [] }

/- WHAT THE LISTED PACKAGE-LEVEL VARIABLES READ AS WHEN THE CALL BEGINS. Each datum BY PROGRAM (the guide's laid-datum.mjs) off the statement by which the dump's own 'gosem.cut.vars' lays the variable. In a bare row this is a premise. The card (YthegpbgejckjlaaGreatDoorCards.lean) ties it to the program's text. -/
def laid_math_bits_deBruijn32tab {H : Type} : DataW H := .agg [.lit (.int .u8 0), .lit (.int .u8 1), .lit (.int .u8 28), .lit (.int .u8 2), .lit (.int .u8 29), .lit (.int .u8 14), .lit (.int .u8 24), .lit (.int .u8 3), .lit (.int .u8 30), .lit (.int .u8 22), .lit (.int .u8 20), .lit (.int .u8 15), .lit (.int .u8 25), .lit (.int .u8 17), .lit (.int .u8 4), .lit (.int .u8 8), .lit (.int .u8 31), .lit (.int .u8 27), .lit (.int .u8 13), .lit (.int .u8 23), .lit (.int .u8 21), .lit (.int .u8 19), .lit (.int .u8 16), .lit (.int .u8 7), .lit (.int .u8 26), .lit (.int .u8 12), .lit (.int .u8 18), .lit (.int .u8 6), .lit (.int .u8 11), .lit (.int .u8 5), .lit (.int .u8 10), .lit (.int .u8 9)]

/-- 'drosslaw36.DetectValid': WHATEVER THE INPUT: true; the input reads as it did. -/
def detectValidSpec : ChangeSpec := { name := "detectValid", fn := fun _ => fun
  | [d1, d2] => { results := [.lit (.bool true)], args := [d1, d2] }
  | _ => none }
def detectValidRow : OpenClaim := { program := "ythegpbgejckjlaagreatdoor", sum := "9b0a74bb413c5e1b721b8fe89ef83f9e958424e28bedd69323da85350e68faa3", func := "dross/drosslaw36.DetectValid", spec := "detectValid", inPlace := ["internal/abi.NoEscape", "internal/bytealg.abigen_runtime_cmpstring", "math/bits.Add64", "math/bits.Sub64"], unfollowed := true, recurses := true, named := ["math/bits.deBruijn32tab"], plainKeys := false, apart := false, laid := [("math/bits.deBruijn32tab", laid_math_bits_deBruijn32tab)] }
def DetectValidSaid : Prop := detectValidRow.holds Tryz.pinned (OpenSpec.ofChange detectValidSpec)

/-- ITS FALSE NEIGHBOUR: 'it returns false'. Refute it at one input. -/
def detectValidWrong : ChangeSpec := { name := "detectValid", fn := fun _ => fun
  | [d1, d2] => { results := [.lit (.bool false)], args := [d1, d2] }
  | _ => none }
def DetectValidWrongFalsely : Prop := detectValidRow.holds Tryz.pinned (OpenSpec.ofChange detectValidWrong)

/-- 'drosslaw36.DetectDirty': WHATEVER THE INPUT: true; the input reads as it did. -/
def detectDirtySpec : ChangeSpec := { name := "detectDirty", fn := fun _ => fun
  | [d1, d2, d3] => { results := [.lit (.bool true)], args := [d1, d2, d3] }
  | _ => none }
def detectDirtyRow : OpenClaim := { program := "ythegpbgejckjlaagreatdoor", sum := "9b0a74bb413c5e1b721b8fe89ef83f9e958424e28bedd69323da85350e68faa3", func := "dross/drosslaw36.DetectDirty", spec := "detectDirty", inPlace := ["internal/abi.NoEscape", "internal/bytealg.abigen_runtime_cmpstring", "math/bits.Add64", "math/bits.Sub64"], unfollowed := true, recurses := true, named := ["math/bits.deBruijn32tab"], plainKeys := false, apart := false, laid := [("math/bits.deBruijn32tab", laid_math_bits_deBruijn32tab)] }
def DetectDirtySaid : Prop := detectDirtyRow.holds Tryz.pinned (OpenSpec.ofChange detectDirtySpec)

/-- ITS FALSE NEIGHBOUR: 'it returns false'. Refute it at one input. -/
def detectDirtyWrong : ChangeSpec := { name := "detectDirty", fn := fun _ => fun
  | [d1, d2, d3] => { results := [.lit (.bool false)], args := [d1, d2, d3] }
  | _ => none }
def DetectDirtyWrongFalsely : Prop := detectDirtyRow.holds Tryz.pinned (OpenSpec.ofChange detectDirtyWrong)

/-- 'drosslaw36.DetectErrors': WHATEVER THE INPUT: true; the input reads as it did. -/
def detectErrorsSpec : ChangeSpec := { name := "detectErrors", fn := fun _ => fun
  | [d1, d2, d3] => { results := [.lit (.bool true)], args := [d1, d2, d3] }
  | _ => none }
def detectErrorsRow : OpenClaim := { program := "ythegpbgejckjlaagreatdoor", sum := "9b0a74bb413c5e1b721b8fe89ef83f9e958424e28bedd69323da85350e68faa3", func := "dross/drosslaw36.DetectErrors", spec := "detectErrors", inPlace := ["internal/abi.NoEscape", "internal/bytealg.abigen_runtime_cmpstring", "math/bits.Add64", "math/bits.Sub64"], unfollowed := true, recurses := true, named := ["math/bits.deBruijn32tab"], plainKeys := false, apart := false, laid := [("math/bits.deBruijn32tab", laid_math_bits_deBruijn32tab)] }
def DetectErrorsSaid : Prop := detectErrorsRow.holds Tryz.pinned (OpenSpec.ofChange detectErrorsSpec)

/-- ITS FALSE NEIGHBOUR: 'it returns false'. Refute it at one input. -/
def detectErrorsWrong : ChangeSpec := { name := "detectErrors", fn := fun _ => fun
  | [d1, d2, d3] => { results := [.lit (.bool false)], args := [d1, d2, d3] }
  | _ => none }
def DetectErrorsWrongFalsely : Prop := detectErrorsRow.holds Tryz.pinned (OpenSpec.ofChange detectErrorsWrong)

/-- 'drosslaw36.DetectAll': WHATEVER THE INPUT: true; the input reads as it did. -/
def detectAllSpec : ChangeSpec := { name := "detectAll", fn := fun _ => fun
  | [d1, d2] => { results := [.lit (.bool true)], args := [d1, d2] }
  | _ => none }
def detectAllRow : OpenClaim := { program := "ythegpbgejckjlaagreatdoor", sum := "9b0a74bb413c5e1b721b8fe89ef83f9e958424e28bedd69323da85350e68faa3", func := "dross/drosslaw36.DetectAll", spec := "detectAll", inPlace := ["internal/abi.NoEscape", "internal/bytealg.abigen_runtime_cmpstring", "math/bits.Add64", "math/bits.Sub64"], unfollowed := true, recurses := true, named := ["math/bits.deBruijn32tab"], plainKeys := false, apart := false, laid := [("math/bits.deBruijn32tab", laid_math_bits_deBruijn32tab)] }
def DetectAllSaid : Prop := detectAllRow.holds Tryz.pinned (OpenSpec.ofChange detectAllSpec)

/-- ITS FALSE NEIGHBOUR: 'it returns false'. Refute it at one input. -/
def detectAllWrong : ChangeSpec := { name := "detectAll", fn := fun _ => fun
  | [d1, d2] => { results := [.lit (.bool false)], args := [d1, d2] }
  | _ => none }
def DetectAllWrongFalsely : Prop := detectAllRow.holds Tryz.pinned (OpenSpec.ofChange detectAllWrong)

/-- 'drosslaw36.DetectScores': WHATEVER THE INPUT: true; the input reads as it did. -/
def detectScoresSpec : ChangeSpec := { name := "detectScores", fn := fun _ => fun
  | [d1, d2] => { results := [.lit (.bool true)], args := [d1, d2] }
  | _ => none }
def detectScoresRow : OpenClaim := { program := "ythegpbgejckjlaagreatdoor", sum := "9b0a74bb413c5e1b721b8fe89ef83f9e958424e28bedd69323da85350e68faa3", func := "dross/drosslaw36.DetectScores", spec := "detectScores", inPlace := ["internal/abi.NoEscape", "internal/bytealg.abigen_runtime_cmpstring", "math/bits.Add64", "math/bits.Sub64"], unfollowed := true, recurses := true, named := ["math/bits.deBruijn32tab"], plainKeys := false, apart := false, laid := [("math/bits.deBruijn32tab", laid_math_bits_deBruijn32tab)] }
def DetectScoresSaid : Prop := detectScoresRow.holds Tryz.pinned (OpenSpec.ofChange detectScoresSpec)

/-- ITS FALSE NEIGHBOUR: 'it returns false'. Refute it at one input. -/
def detectScoresWrong : ChangeSpec := { name := "detectScores", fn := fun _ => fun
  | [d1, d2] => { results := [.lit (.bool false)], args := [d1, d2] }
  | _ => none }
def DetectScoresWrongFalsely : Prop := detectScoresRow.holds Tryz.pinned (OpenSpec.ofChange detectScoresWrong)

/-- 'drosslaw36.DetectOf': WHATEVER THE INPUT: true; the input reads as it did. -/
def detectOfSpec : ChangeSpec := { name := "detectOf", fn := fun _ => fun
  | [d1, d2] => { results := [.lit (.bool true)], args := [d1, d2] }
  | _ => none }
def detectOfRow : OpenClaim := { program := "ythegpbgejckjlaagreatdoor", sum := "9b0a74bb413c5e1b721b8fe89ef83f9e958424e28bedd69323da85350e68faa3", func := "dross/drosslaw36.DetectOf", spec := "detectOf", inPlace := ["internal/abi.NoEscape", "internal/bytealg.abigen_runtime_cmpstring", "math/bits.Add64", "math/bits.Sub64"], unfollowed := true, recurses := true, named := ["math/bits.deBruijn32tab"], plainKeys := false, apart := false, laid := [("math/bits.deBruijn32tab", laid_math_bits_deBruijn32tab)] }
def DetectOfSaid : Prop := detectOfRow.holds Tryz.pinned (OpenSpec.ofChange detectOfSpec)

/-- ITS FALSE NEIGHBOUR: 'it returns false'. Refute it at one input. -/
def detectOfWrong : ChangeSpec := { name := "detectOf", fn := fun _ => fun
  | [d1, d2] => { results := [.lit (.bool false)], args := [d1, d2] }
  | _ => none }
def DetectOfWrongFalsely : Prop := detectOfRow.holds Tryz.pinned (OpenSpec.ofChange detectOfWrong)

/-- 'drosslaw36.DetectFewer': WHATEVER THE INPUT: true; the input reads as it did. -/
def detectFewerSpec : ChangeSpec := { name := "detectFewer", fn := fun _ => fun
  | [d1, d2, d3] => { results := [.lit (.bool true)], args := [d1, d2, d3] }
  | _ => none }
def detectFewerRow : OpenClaim := { program := "ythegpbgejckjlaagreatdoor", sum := "9b0a74bb413c5e1b721b8fe89ef83f9e958424e28bedd69323da85350e68faa3", func := "dross/drosslaw36.DetectFewer", spec := "detectFewer", inPlace := ["internal/abi.NoEscape", "internal/bytealg.abigen_runtime_cmpstring", "math/bits.Add64", "math/bits.Sub64"], unfollowed := true, recurses := true, named := ["math/bits.deBruijn32tab"], plainKeys := false, apart := false, laid := [("math/bits.deBruijn32tab", laid_math_bits_deBruijn32tab)] }
def DetectFewerSaid : Prop := detectFewerRow.holds Tryz.pinned (OpenSpec.ofChange detectFewerSpec)

/-- ITS FALSE NEIGHBOUR: 'it returns false'. Refute it at one input. -/
def detectFewerWrong : ChangeSpec := { name := "detectFewer", fn := fun _ => fun
  | [d1, d2, d3] => { results := [.lit (.bool false)], args := [d1, d2, d3] }
  | _ => none }
def DetectFewerWrongFalsely : Prop := detectFewerRow.holds Tryz.pinned (OpenSpec.ofChange detectFewerWrong)

/- THE SECOND FORM. 'bulk': how many values and letters a reading holds, each counted each time it is reached (what is shared counts as often as it is met; a slice's spare places count too). A statement '..UptoSaid' is the law's where the arguments, and the package variables that the reading takes, are together of bulk at most 1048576: NARROWER than '..Said'. Prove '..Said' where nothing that the law and all that it calls make is longer than what came in: it says more and counts as full. Else prove '..UptoSaid'. A law counts once. -/
mutual
def uptoBulk {H : Type} : DataW H → Nat
  | .lit (.string bytes) => bytes.length + 1
  | .lit _ => 1
  | .nil => 1
  | .ptr d => uptoBulk d + 1
  | .slice elems spare => uptoBulkAll elems + uptoBulkAll spare + 1
  | .agg parts => uptoBulkAll parts + 1
  | .iface _ d => uptoBulk d + 1
  | .map entries => uptoBulkEntries entries + 1
  | .held _ => 1
def uptoBulkAll {H : Type} : List (DataW H) → Nat
  | [] => 0
  | d :: r => uptoBulk d + uptoBulkAll r
def uptoBulkEntries {H : Type} : List (Lit × DataW H) → Nat
  | [] => 0
  | x :: r => uptoBulkEntry x + uptoBulkEntries r
def uptoBulkEntry {H : Type} : Lit × DataW H → Nat
  | (.string bytes, d) => bytes.length + uptoBulk d + 1
  | (_, d) => uptoBulk d + 1
 end
def uptoSmall : (H : Type) → List (DataW H) → Bool := fun _ ds => decide (uptoBulkAll ds ≤ 1048576)
def OpenSpec.upto (s : _root_.Go.ChangeSpec) : _root_.Go.OpenSpec := { _root_.Go.OpenSpec.ofChange s with cond := some uptoSmall }

/-- 'drosslaw36.DetectValid', WHERE WHAT IT READS IS OF BULK AT MOST 1048576: true; the input reads as it did. -/
def detectValidUptoRow : OpenClaim := { program := "ythegpbgejckjlaagreatdoor", sum := "9b0a74bb413c5e1b721b8fe89ef83f9e958424e28bedd69323da85350e68faa3", func := "dross/drosslaw36.DetectValid", spec := "detectValid", inPlace := ["internal/abi.NoEscape", "internal/bytealg.abigen_runtime_cmpstring", "math/bits.Add64", "math/bits.Sub64"], unfollowed := true, recurses := true, named := ["math/bits.deBruijn32tab"], plainKeys := false, apart := false, laid := [("math/bits.deBruijn32tab", laid_math_bits_deBruijn32tab)], narrowed := true }
def DetectValidUptoSaid : Prop := detectValidUptoRow.holds Tryz.pinned (OpenSpec.upto detectValidSpec)

/-- 'drosslaw36.DetectDirty', WHERE WHAT IT READS IS OF BULK AT MOST 1048576: true; the input reads as it did. -/
def detectDirtyUptoRow : OpenClaim := { program := "ythegpbgejckjlaagreatdoor", sum := "9b0a74bb413c5e1b721b8fe89ef83f9e958424e28bedd69323da85350e68faa3", func := "dross/drosslaw36.DetectDirty", spec := "detectDirty", inPlace := ["internal/abi.NoEscape", "internal/bytealg.abigen_runtime_cmpstring", "math/bits.Add64", "math/bits.Sub64"], unfollowed := true, recurses := true, named := ["math/bits.deBruijn32tab"], plainKeys := false, apart := false, laid := [("math/bits.deBruijn32tab", laid_math_bits_deBruijn32tab)], narrowed := true }
def DetectDirtyUptoSaid : Prop := detectDirtyUptoRow.holds Tryz.pinned (OpenSpec.upto detectDirtySpec)

/-- 'drosslaw36.DetectErrors', WHERE WHAT IT READS IS OF BULK AT MOST 1048576: true; the input reads as it did. -/
def detectErrorsUptoRow : OpenClaim := { program := "ythegpbgejckjlaagreatdoor", sum := "9b0a74bb413c5e1b721b8fe89ef83f9e958424e28bedd69323da85350e68faa3", func := "dross/drosslaw36.DetectErrors", spec := "detectErrors", inPlace := ["internal/abi.NoEscape", "internal/bytealg.abigen_runtime_cmpstring", "math/bits.Add64", "math/bits.Sub64"], unfollowed := true, recurses := true, named := ["math/bits.deBruijn32tab"], plainKeys := false, apart := false, laid := [("math/bits.deBruijn32tab", laid_math_bits_deBruijn32tab)], narrowed := true }
def DetectErrorsUptoSaid : Prop := detectErrorsUptoRow.holds Tryz.pinned (OpenSpec.upto detectErrorsSpec)

/-- 'drosslaw36.DetectAll', WHERE WHAT IT READS IS OF BULK AT MOST 1048576: true; the input reads as it did. -/
def detectAllUptoRow : OpenClaim := { program := "ythegpbgejckjlaagreatdoor", sum := "9b0a74bb413c5e1b721b8fe89ef83f9e958424e28bedd69323da85350e68faa3", func := "dross/drosslaw36.DetectAll", spec := "detectAll", inPlace := ["internal/abi.NoEscape", "internal/bytealg.abigen_runtime_cmpstring", "math/bits.Add64", "math/bits.Sub64"], unfollowed := true, recurses := true, named := ["math/bits.deBruijn32tab"], plainKeys := false, apart := false, laid := [("math/bits.deBruijn32tab", laid_math_bits_deBruijn32tab)], narrowed := true }
def DetectAllUptoSaid : Prop := detectAllUptoRow.holds Tryz.pinned (OpenSpec.upto detectAllSpec)

/-- 'drosslaw36.DetectScores', WHERE WHAT IT READS IS OF BULK AT MOST 1048576: true; the input reads as it did. -/
def detectScoresUptoRow : OpenClaim := { program := "ythegpbgejckjlaagreatdoor", sum := "9b0a74bb413c5e1b721b8fe89ef83f9e958424e28bedd69323da85350e68faa3", func := "dross/drosslaw36.DetectScores", spec := "detectScores", inPlace := ["internal/abi.NoEscape", "internal/bytealg.abigen_runtime_cmpstring", "math/bits.Add64", "math/bits.Sub64"], unfollowed := true, recurses := true, named := ["math/bits.deBruijn32tab"], plainKeys := false, apart := false, laid := [("math/bits.deBruijn32tab", laid_math_bits_deBruijn32tab)], narrowed := true }
def DetectScoresUptoSaid : Prop := detectScoresUptoRow.holds Tryz.pinned (OpenSpec.upto detectScoresSpec)

/-- 'drosslaw36.DetectOf', WHERE WHAT IT READS IS OF BULK AT MOST 1048576: true; the input reads as it did. -/
def detectOfUptoRow : OpenClaim := { program := "ythegpbgejckjlaagreatdoor", sum := "9b0a74bb413c5e1b721b8fe89ef83f9e958424e28bedd69323da85350e68faa3", func := "dross/drosslaw36.DetectOf", spec := "detectOf", inPlace := ["internal/abi.NoEscape", "internal/bytealg.abigen_runtime_cmpstring", "math/bits.Add64", "math/bits.Sub64"], unfollowed := true, recurses := true, named := ["math/bits.deBruijn32tab"], plainKeys := false, apart := false, laid := [("math/bits.deBruijn32tab", laid_math_bits_deBruijn32tab)], narrowed := true }
def DetectOfUptoSaid : Prop := detectOfUptoRow.holds Tryz.pinned (OpenSpec.upto detectOfSpec)

/-- 'drosslaw36.DetectFewer', WHERE WHAT IT READS IS OF BULK AT MOST 1048576: true; the input reads as it did. -/
def detectFewerUptoRow : OpenClaim := { program := "ythegpbgejckjlaagreatdoor", sum := "9b0a74bb413c5e1b721b8fe89ef83f9e958424e28bedd69323da85350e68faa3", func := "dross/drosslaw36.DetectFewer", spec := "detectFewer", inPlace := ["internal/abi.NoEscape", "internal/bytealg.abigen_runtime_cmpstring", "math/bits.Add64", "math/bits.Sub64"], unfollowed := true, recurses := true, named := ["math/bits.deBruijn32tab"], plainKeys := false, apart := false, laid := [("math/bits.deBruijn32tab", laid_math_bits_deBruijn32tab)], narrowed := true }
def DetectFewerUptoSaid : Prop := detectFewerUptoRow.holds Tryz.pinned (OpenSpec.upto detectFewerSpec)

end Rows
end Go.Proofs.YthegpbgejckjlaaGreatDoor

/-
  No cell of these rows narrows 'for every input' (looked for: loops, veiled, ifaces, maps, wideKeys, modest, calm, conditions, laid).
  DERIVED. THE GIVEN ROWS OF THIS SEAT. 8 by the template 'for every input the law returns true; each argument reads behind the call as it read before'; 0 by the template 'total and deterministic' (their statements: YtdohjmmogbefmaaGreatTotals.lean).
  GIVEN WITH THE SEED: the statements are not yours to turn. If you find one false, say at which input.
  Laid BY PROGRAM, IN A SANDBOX (cutbox-rows.mjs): the forced cells as the released guide's own fill.sh prints them over the translation 89aae99c24b6c120… (all of the seat's roots in one cut). By AI agents, Wed Nov 11 2026. No macro, syntax, notation, axiom, sorry.
-/
import Derived.Test.YtdohjmmogbefmaaGreatChecked
import GoSem.Claim
import GoSem.ClaimJoined
import GoSem.ClaimMapViews
import Derived.JoinedTies
import Derived.KernelRfl
namespace Go.Proofs.YtdohjmmogbefmaaGreat
/- THE CELL 'sum', in the pinned program and in every row, IS THE sha256 OF THE DUMP (.gsa) THAT YtdohjmmogbefmaaGreatProg.lean LOADS. Nothing in Lean hashes anything: it is a label: what it is worth is what the hold of that sum in a sandbox is worth. -/
noncomputable def Tryz.pinned : Pinned := { name := "ytdohjmmogbefmaagreat", sum := "89aae99c24b6c120128a63c6bc8be021ca69ad168a8f5eafb81a187b9f6931f1", checked := Tryz.checked }
namespace Rows
def none {H : Type} : Left H := { results := [], args := [] }

/-- 'drosslaw49.AttackHead': WHATEVER THE INPUT: true; the input reads as it did. -/
def attackHeadSpec : ChangeSpec := { name := "attackHead", fn := fun _ => fun
  | [d1, d2] => { results := [.lit (.bool true)], args := [d1, d2] }
  | _ => none }
def attackHeadRow : OpenClaim := { program := "ytdohjmmogbefmaagreat", sum := "89aae99c24b6c120128a63c6bc8be021ca69ad168a8f5eafb81a187b9f6931f1", func := "dross/drosslaw49.AttackHead", spec := "attackHead", unfollowed := true, recurses := true, apart := false }
def AttackHeadSaid : Prop := attackHeadRow.holds Tryz.pinned (OpenSpec.ofChange attackHeadSpec)

/-- ITS FALSE NEIGHBOUR: 'it returns false'. Refute it at one input. -/
def attackHeadWrong : ChangeSpec := { name := "attackHead", fn := fun _ => fun
  | [d1, d2] => { results := [.lit (.bool false)], args := [d1, d2] }
  | _ => none }
def AttackHeadWrongFalsely : Prop := attackHeadRow.holds Tryz.pinned (OpenSpec.ofChange attackHeadWrong)

/-- 'drosslaw49.AttackContents': WHATEVER THE INPUT: true; the input reads as it did. -/
def attackContentsSpec : ChangeSpec := { name := "attackContents", fn := fun _ => fun
  | [d1, d2] => { results := [.lit (.bool true)], args := [d1, d2] }
  | _ => none }
def attackContentsRow : OpenClaim := { program := "ytdohjmmogbefmaagreat", sum := "89aae99c24b6c120128a63c6bc8be021ca69ad168a8f5eafb81a187b9f6931f1", func := "dross/drosslaw49.AttackContents", spec := "attackContents", unfollowed := true, recurses := true, apart := false }
def AttackContentsSaid : Prop := attackContentsRow.holds Tryz.pinned (OpenSpec.ofChange attackContentsSpec)

/-- ITS FALSE NEIGHBOUR: 'it returns false'. Refute it at one input. -/
def attackContentsWrong : ChangeSpec := { name := "attackContents", fn := fun _ => fun
  | [d1, d2] => { results := [.lit (.bool false)], args := [d1, d2] }
  | _ => none }
def AttackContentsWrongFalsely : Prop := attackContentsRow.holds Tryz.pinned (OpenSpec.ofChange attackContentsWrong)

/-- 'drosslaw49.AttackPairs': WHATEVER THE INPUT: true; the input reads as it did. -/
def attackPairsSpec : ChangeSpec := { name := "attackPairs", fn := fun _ => fun
  | [d] => { results := [.lit (.bool true)], args := [d] }
  | _ => none }
def attackPairsRow : OpenClaim := { program := "ytdohjmmogbefmaagreat", sum := "89aae99c24b6c120128a63c6bc8be021ca69ad168a8f5eafb81a187b9f6931f1", func := "dross/drosslaw49.AttackPairs", spec := "attackPairs", unfollowed := true, recurses := true, apart := false }
def AttackPairsSaid : Prop := attackPairsRow.holds Tryz.pinned (OpenSpec.ofChange attackPairsSpec)

/-- ITS FALSE NEIGHBOUR: 'it returns false'. Refute it at one input. -/
def attackPairsWrong : ChangeSpec := { name := "attackPairs", fn := fun _ => fun
  | [d] => { results := [.lit (.bool false)], args := [d] }
  | _ => none }
def AttackPairsWrongFalsely : Prop := attackPairsRow.holds Tryz.pinned (OpenSpec.ofChange attackPairsWrong)

/-- 'drosslaw49.AttackPlus': WHATEVER THE INPUT: true; the input reads as it did. -/
def attackPlusSpec : ChangeSpec := { name := "attackPlus", fn := fun _ => fun
  | [d1, d2] => { results := [.lit (.bool true)], args := [d1, d2] }
  | _ => none }
def attackPlusRow : OpenClaim := { program := "ytdohjmmogbefmaagreat", sum := "89aae99c24b6c120128a63c6bc8be021ca69ad168a8f5eafb81a187b9f6931f1", func := "dross/drosslaw49.AttackPlus", spec := "attackPlus", unfollowed := true, recurses := true, apart := false }
def AttackPlusSaid : Prop := attackPlusRow.holds Tryz.pinned (OpenSpec.ofChange attackPlusSpec)

/-- ITS FALSE NEIGHBOUR: 'it returns false'. Refute it at one input. -/
def attackPlusWrong : ChangeSpec := { name := "attackPlus", fn := fun _ => fun
  | [d1, d2] => { results := [.lit (.bool false)], args := [d1, d2] }
  | _ => none }
def AttackPlusWrongFalsely : Prop := attackPlusRow.holds Tryz.pinned (OpenSpec.ofChange attackPlusWrong)

/-- 'drosslaw49.AttackAttacks': WHATEVER THE INPUT: true; the input reads as it did. -/
def attackAttacksSpec : ChangeSpec := { name := "attackAttacks", fn := fun _ => fun
  | [d1, d2, d3] => { results := [.lit (.bool true)], args := [d1, d2, d3] }
  | _ => none }
def attackAttacksRow : OpenClaim := { program := "ytdohjmmogbefmaagreat", sum := "89aae99c24b6c120128a63c6bc8be021ca69ad168a8f5eafb81a187b9f6931f1", func := "dross/drosslaw49.AttackAttacks", spec := "attackAttacks", unfollowed := true, recurses := true, apart := false }
def AttackAttacksSaid : Prop := attackAttacksRow.holds Tryz.pinned (OpenSpec.ofChange attackAttacksSpec)

/-- ITS FALSE NEIGHBOUR: 'it returns false'. Refute it at one input. -/
def attackAttacksWrong : ChangeSpec := { name := "attackAttacks", fn := fun _ => fun
  | [d1, d2, d3] => { results := [.lit (.bool false)], args := [d1, d2, d3] }
  | _ => none }
def AttackAttacksWrongFalsely : Prop := attackAttacksRow.holds Tryz.pinned (OpenSpec.ofChange attackAttacksWrong)

/-- 'drosslaw49.AttackConstraints': WHATEVER THE INPUT: true; the input reads as it did. -/
def attackConstraintsSpec : ChangeSpec := { name := "attackConstraints", fn := fun _ => fun
  | [d1, d2] => { results := [.lit (.bool true)], args := [d1, d2] }
  | _ => none }
def attackConstraintsRow : OpenClaim := { program := "ytdohjmmogbefmaagreat", sum := "89aae99c24b6c120128a63c6bc8be021ca69ad168a8f5eafb81a187b9f6931f1", func := "dross/drosslaw49.AttackConstraints", spec := "attackConstraints", unfollowed := true, recurses := true, apart := false }
def AttackConstraintsSaid : Prop := attackConstraintsRow.holds Tryz.pinned (OpenSpec.ofChange attackConstraintsSpec)

/-- ITS FALSE NEIGHBOUR: 'it returns false'. Refute it at one input. -/
def attackConstraintsWrong : ChangeSpec := { name := "attackConstraints", fn := fun _ => fun
  | [d1, d2] => { results := [.lit (.bool false)], args := [d1, d2] }
  | _ => none }
def AttackConstraintsWrongFalsely : Prop := attackConstraintsRow.holds Tryz.pinned (OpenSpec.ofChange attackConstraintsWrong)

/-- 'drosslaw49.AttackClass': WHATEVER THE INPUT: true; the input reads as it did. -/
def attackClassSpec : ChangeSpec := { name := "attackClass", fn := fun _ => fun
  | [d] => { results := [.lit (.bool true)], args := [d] }
  | _ => none }
def attackClassRow : OpenClaim := { program := "ytdohjmmogbefmaagreat", sum := "89aae99c24b6c120128a63c6bc8be021ca69ad168a8f5eafb81a187b9f6931f1", func := "dross/drosslaw49.AttackClass", spec := "attackClass", unfollowed := true, recurses := true, apart := false }
def AttackClassSaid : Prop := attackClassRow.holds Tryz.pinned (OpenSpec.ofChange attackClassSpec)

/-- ITS FALSE NEIGHBOUR: 'it returns false'. Refute it at one input. -/
def attackClassWrong : ChangeSpec := { name := "attackClass", fn := fun _ => fun
  | [d] => { results := [.lit (.bool false)], args := [d] }
  | _ => none }
def AttackClassWrongFalsely : Prop := attackClassRow.holds Tryz.pinned (OpenSpec.ofChange attackClassWrong)

/-- 'drosslaw49.AttackErrors': WHATEVER THE INPUT: true; the input reads as it did. -/
def attackErrorsSpec : ChangeSpec := { name := "attackErrors", fn := fun _ => fun
  | [d1, d2] => { results := [.lit (.bool true)], args := [d1, d2] }
  | _ => none }
def attackErrorsRow : OpenClaim := { program := "ytdohjmmogbefmaagreat", sum := "89aae99c24b6c120128a63c6bc8be021ca69ad168a8f5eafb81a187b9f6931f1", func := "dross/drosslaw49.AttackErrors", spec := "attackErrors", unfollowed := true, recurses := true, apart := false }
def AttackErrorsSaid : Prop := attackErrorsRow.holds Tryz.pinned (OpenSpec.ofChange attackErrorsSpec)

/-- ITS FALSE NEIGHBOUR: 'it returns false'. Refute it at one input. -/
def attackErrorsWrong : ChangeSpec := { name := "attackErrors", fn := fun _ => fun
  | [d1, d2] => { results := [.lit (.bool false)], args := [d1, d2] }
  | _ => none }
def AttackErrorsWrongFalsely : Prop := attackErrorsRow.holds Tryz.pinned (OpenSpec.ofChange attackErrorsWrong)

/- THE SECOND FORM. 'bulk': how many values and letters a reading holds, each counted each time it is reached (what is shared counts as often as it is met; a slice's spare places count too). A statement '..UptoSaid' is the law's where the arguments, and the package variables that the reading takes, are together of bulk at most 1048576: NARROWER than '..Said'. Prove '..Said' where nothing that the law and all that it calls make is longer than what came in: it says more and counts as full. Else prove '..UptoSaid'. A law counts once. -/
mutual
def uptoBulk {H : Type} : DataW H → Nat
  | .lit (.string bytes) => bytes.length + 1
  | .lit _ => 1
  | .nil => 1
  | .ptr d => uptoBulk d + 1
  | .slice elems spare => uptoBulkAll elems + uptoBulkAll spare + 1
  | .agg parts => uptoBulkAll parts + 1
  | .iface _ d => uptoBulk d + 1
  | .map entries => uptoBulkEntries entries + 1
  | .held _ => 1
def uptoBulkAll {H : Type} : List (DataW H) → Nat
  | [] => 0
  | d :: r => uptoBulk d + uptoBulkAll r
def uptoBulkEntries {H : Type} : List (Lit × DataW H) → Nat
  | [] => 0
  | x :: r => uptoBulkEntry x + uptoBulkEntries r
def uptoBulkEntry {H : Type} : Lit × DataW H → Nat
  | (.string bytes, d) => bytes.length + uptoBulk d + 1
  | (_, d) => uptoBulk d + 1
 end
def uptoSmall : (H : Type) → List (DataW H) → Bool := fun _ ds => decide (uptoBulkAll ds ≤ 1048576)
def OpenSpec.upto (s : _root_.Go.ChangeSpec) : _root_.Go.OpenSpec := { _root_.Go.OpenSpec.ofChange s with cond := some uptoSmall }

/-- 'drosslaw49.AttackHead', WHERE WHAT IT READS IS OF BULK AT MOST 1048576: true; the input reads as it did. -/
def attackHeadUptoRow : OpenClaim := { program := "ytdohjmmogbefmaagreat", sum := "89aae99c24b6c120128a63c6bc8be021ca69ad168a8f5eafb81a187b9f6931f1", func := "dross/drosslaw49.AttackHead", spec := "attackHead", unfollowed := true, recurses := true, apart := false, narrowed := true }
def AttackHeadUptoSaid : Prop := attackHeadUptoRow.holds Tryz.pinned (OpenSpec.upto attackHeadSpec)

/-- 'drosslaw49.AttackContents', WHERE WHAT IT READS IS OF BULK AT MOST 1048576: true; the input reads as it did. -/
def attackContentsUptoRow : OpenClaim := { program := "ytdohjmmogbefmaagreat", sum := "89aae99c24b6c120128a63c6bc8be021ca69ad168a8f5eafb81a187b9f6931f1", func := "dross/drosslaw49.AttackContents", spec := "attackContents", unfollowed := true, recurses := true, apart := false, narrowed := true }
def AttackContentsUptoSaid : Prop := attackContentsUptoRow.holds Tryz.pinned (OpenSpec.upto attackContentsSpec)

/-- 'drosslaw49.AttackPairs', WHERE WHAT IT READS IS OF BULK AT MOST 1048576: true; the input reads as it did. -/
def attackPairsUptoRow : OpenClaim := { program := "ytdohjmmogbefmaagreat", sum := "89aae99c24b6c120128a63c6bc8be021ca69ad168a8f5eafb81a187b9f6931f1", func := "dross/drosslaw49.AttackPairs", spec := "attackPairs", unfollowed := true, recurses := true, apart := false, narrowed := true }
def AttackPairsUptoSaid : Prop := attackPairsUptoRow.holds Tryz.pinned (OpenSpec.upto attackPairsSpec)

/-- 'drosslaw49.AttackPlus', WHERE WHAT IT READS IS OF BULK AT MOST 1048576: true; the input reads as it did. -/
def attackPlusUptoRow : OpenClaim := { program := "ytdohjmmogbefmaagreat", sum := "89aae99c24b6c120128a63c6bc8be021ca69ad168a8f5eafb81a187b9f6931f1", func := "dross/drosslaw49.AttackPlus", spec := "attackPlus", unfollowed := true, recurses := true, apart := false, narrowed := true }
def AttackPlusUptoSaid : Prop := attackPlusUptoRow.holds Tryz.pinned (OpenSpec.upto attackPlusSpec)

/-- 'drosslaw49.AttackAttacks', WHERE WHAT IT READS IS OF BULK AT MOST 1048576: true; the input reads as it did. -/
def attackAttacksUptoRow : OpenClaim := { program := "ytdohjmmogbefmaagreat", sum := "89aae99c24b6c120128a63c6bc8be021ca69ad168a8f5eafb81a187b9f6931f1", func := "dross/drosslaw49.AttackAttacks", spec := "attackAttacks", unfollowed := true, recurses := true, apart := false, narrowed := true }
def AttackAttacksUptoSaid : Prop := attackAttacksUptoRow.holds Tryz.pinned (OpenSpec.upto attackAttacksSpec)

/-- 'drosslaw49.AttackConstraints', WHERE WHAT IT READS IS OF BULK AT MOST 1048576: true; the input reads as it did. -/
def attackConstraintsUptoRow : OpenClaim := { program := "ytdohjmmogbefmaagreat", sum := "89aae99c24b6c120128a63c6bc8be021ca69ad168a8f5eafb81a187b9f6931f1", func := "dross/drosslaw49.AttackConstraints", spec := "attackConstraints", unfollowed := true, recurses := true, apart := false, narrowed := true }
def AttackConstraintsUptoSaid : Prop := attackConstraintsUptoRow.holds Tryz.pinned (OpenSpec.upto attackConstraintsSpec)

/-- 'drosslaw49.AttackClass', WHERE WHAT IT READS IS OF BULK AT MOST 1048576: true; the input reads as it did. -/
def attackClassUptoRow : OpenClaim := { program := "ytdohjmmogbefmaagreat", sum := "89aae99c24b6c120128a63c6bc8be021ca69ad168a8f5eafb81a187b9f6931f1", func := "dross/drosslaw49.AttackClass", spec := "attackClass", unfollowed := true, recurses := true, apart := false, narrowed := true }
def AttackClassUptoSaid : Prop := attackClassUptoRow.holds Tryz.pinned (OpenSpec.upto attackClassSpec)

/-- 'drosslaw49.AttackErrors', WHERE WHAT IT READS IS OF BULK AT MOST 1048576: true; the input reads as it did. -/
def attackErrorsUptoRow : OpenClaim := { program := "ytdohjmmogbefmaagreat", sum := "89aae99c24b6c120128a63c6bc8be021ca69ad168a8f5eafb81a187b9f6931f1", func := "dross/drosslaw49.AttackErrors", spec := "attackErrors", unfollowed := true, recurses := true, apart := false, narrowed := true }
def AttackErrorsUptoSaid : Prop := attackErrorsUptoRow.holds Tryz.pinned (OpenSpec.upto attackErrorsSpec)

end Rows
end Go.Proofs.YtdohjmmogbefmaaGreat

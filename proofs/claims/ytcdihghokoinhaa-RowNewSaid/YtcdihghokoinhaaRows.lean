/-
  No cell of these rows narrows 'for every input' (looked for: loops, veiled, ifaces, maps, wideKeys, modest, calm, conditions, laid).
  DERIVED. THE GIVEN ROWS OF THIS SEAT. 13 by the template 'for every input the law returns true; each argument reads behind the call as it read before'; 0 by the template 'total and deterministic' (their statements: YtcdihghokoinhaaTotals.lean).
  GIVEN WITH THE SEED: the statements are not yours to turn. If you find one false, say at which input.
  Laid BY PROGRAM, IN A SANDBOX (cutbox-rows.mjs): the forced cells as the released guide's own fill.sh prints them over the translation 56709da071857b3e… (all of the seat's roots in one cut). By AI agents, Wed Nov 11 2026. No macro, syntax, notation, axiom, sorry.
-/
import Derived.Test.YtcdihghokoinhaaChecked
import GoSem.Claim
import GoSem.ClaimJoined
import GoSem.ClaimMapViews
import Derived.JoinedTies
import Derived.KernelRfl
namespace Go.Proofs.Ytcdihghokoinhaa
/- THE CELL 'sum', in the pinned program and in every row, IS THE sha256 OF THE DUMP (.gsa) THAT YtcdihghokoinhaaProg.lean LOADS. Nothing in Lean hashes anything: it is a label: what it is worth is what the hold of that sum in a sandbox is worth. -/
noncomputable def Try.pinned : Pinned := { name := "ytcdihghokoinhaa", sum := "56709da071857b3e0c04097ed4f42df0ba46d2cc1d63e940a572b241e461b51f", checked := Try.checked }
namespace Rows
def none {H : Type} : Left H := { results := [], args := [] }

/-- 'reevelaw7.RightTexts': WHATEVER THE INPUT: true; the input reads as it did. -/
def rightTextsSpec : ChangeSpec := { name := "rightTexts", fn := fun _ => fun
  | [d1, d2] => { results := [.lit (.bool true)], args := [d1, d2] }
  | _ => none }
def rightTextsRow : OpenClaim := { program := "ytcdihghokoinhaa", sum := "56709da071857b3e0c04097ed4f42df0ba46d2cc1d63e940a572b241e461b51f", func := "reeve/reevelaw7.RightTexts", spec := "rightTexts", apart := false }
def RightTextsSaid : Prop := rightTextsRow.holds Try.pinned (OpenSpec.ofChange rightTextsSpec)

/-- ITS FALSE NEIGHBOUR: 'it returns false'. Refute it at one input. -/
def rightTextsWrong : ChangeSpec := { name := "rightTexts", fn := fun _ => fun
  | [d1, d2] => { results := [.lit (.bool false)], args := [d1, d2] }
  | _ => none }
def RightTextsWrongFalsely : Prop := rightTextsRow.holds Try.pinned (OpenSpec.ofChange rightTextsWrong)

/-- 'reevelaw2.RowKnown': WHATEVER THE INPUT: true; the input reads as it did. -/
def rowKnownSpec : ChangeSpec := { name := "rowKnown", fn := fun _ => fun
  | [] => { results := [.lit (.bool true)], args := [] }
  | _ => none }
def rowKnownRow : OpenClaim := { program := "ytcdihghokoinhaa", sum := "56709da071857b3e0c04097ed4f42df0ba46d2cc1d63e940a572b241e461b51f", func := "reeve/reevelaw2.RowKnown", spec := "rowKnown", apart := false }
def RowKnownSaid : Prop := rowKnownRow.holds Try.pinned (OpenSpec.ofChange rowKnownSpec)

/-- ITS FALSE NEIGHBOUR: 'it returns false'. Refute it at one input. -/
def rowKnownWrong : ChangeSpec := { name := "rowKnown", fn := fun _ => fun
  | [] => { results := [.lit (.bool false)], args := [] }
  | _ => none }
def RowKnownWrongFalsely : Prop := rowKnownRow.holds Try.pinned (OpenSpec.ofChange rowKnownWrong)

/-- 'reevelaw2.RowPlays': WHATEVER THE INPUT: true; the input reads as it did. -/
def rowPlaysSpec : ChangeSpec := { name := "rowPlays", fn := fun _ => fun
  | [d1, d2] => { results := [.lit (.bool true)], args := [d1, d2] }
  | _ => none }
def rowPlaysRow : OpenClaim := { program := "ytcdihghokoinhaa", sum := "56709da071857b3e0c04097ed4f42df0ba46d2cc1d63e940a572b241e461b51f", func := "reeve/reevelaw2.RowPlays", spec := "rowPlays", apart := false }
def RowPlaysSaid : Prop := rowPlaysRow.holds Try.pinned (OpenSpec.ofChange rowPlaysSpec)

/-- ITS FALSE NEIGHBOUR: 'it returns false'. Refute it at one input. -/
def rowPlaysWrong : ChangeSpec := { name := "rowPlays", fn := fun _ => fun
  | [d1, d2] => { results := [.lit (.bool false)], args := [d1, d2] }
  | _ => none }
def RowPlaysWrongFalsely : Prop := rowPlaysRow.holds Try.pinned (OpenSpec.ofChange rowPlaysWrong)

/-- 'reevelaw2.RowLasts': WHATEVER THE INPUT: true; the input reads as it did. -/
def rowLastsSpec : ChangeSpec := { name := "rowLasts", fn := fun _ => fun
  | [d1, d2] => { results := [.lit (.bool true)], args := [d1, d2] }
  | _ => none }
def rowLastsRow : OpenClaim := { program := "ytcdihghokoinhaa", sum := "56709da071857b3e0c04097ed4f42df0ba46d2cc1d63e940a572b241e461b51f", func := "reeve/reevelaw2.RowLasts", spec := "rowLasts", apart := false }
def RowLastsSaid : Prop := rowLastsRow.holds Try.pinned (OpenSpec.ofChange rowLastsSpec)

/-- ITS FALSE NEIGHBOUR: 'it returns false'. Refute it at one input. -/
def rowLastsWrong : ChangeSpec := { name := "rowLasts", fn := fun _ => fun
  | [d1, d2] => { results := [.lit (.bool false)], args := [d1, d2] }
  | _ => none }
def RowLastsWrongFalsely : Prop := rowLastsRow.holds Try.pinned (OpenSpec.ofChange rowLastsWrong)

/-- 'reevelaw2.RowNew': WHATEVER THE INPUT: true; the input reads as it did. -/
def rowNewSpec : ChangeSpec := { name := "rowNew", fn := fun _ => fun
  | [d] => { results := [.lit (.bool true)], args := [d] }
  | _ => none }
def rowNewRow : OpenClaim := { program := "ytcdihghokoinhaa", sum := "56709da071857b3e0c04097ed4f42df0ba46d2cc1d63e940a572b241e461b51f", func := "reeve/reevelaw2.RowNew", spec := "rowNew", apart := false }
def RowNewSaid : Prop := rowNewRow.holds Try.pinned (OpenSpec.ofChange rowNewSpec)

/-- ITS FALSE NEIGHBOUR: 'it returns false'. Refute it at one input. -/
def rowNewWrong : ChangeSpec := { name := "rowNew", fn := fun _ => fun
  | [d] => { results := [.lit (.bool false)], args := [d] }
  | _ => none }
def RowNewWrongFalsely : Prop := rowNewRow.holds Try.pinned (OpenSpec.ofChange rowNewWrong)

/-- 'reevelaw7.RightLattice': WHATEVER THE INPUT: true; the input reads as it did. -/
def rightLatticeSpec : ChangeSpec := { name := "rightLattice", fn := fun _ => fun
  | [d1, d2, d3] => { results := [.lit (.bool true)], args := [d1, d2, d3] }
  | _ => none }
def rightLatticeRow : OpenClaim := { program := "ytcdihghokoinhaa", sum := "56709da071857b3e0c04097ed4f42df0ba46d2cc1d63e940a572b241e461b51f", func := "reeve/reevelaw7.RightLattice", spec := "rightLattice", apart := false }
def RightLatticeSaid : Prop := rightLatticeRow.holds Try.pinned (OpenSpec.ofChange rightLatticeSpec)

/-- ITS FALSE NEIGHBOUR: 'it returns false'. Refute it at one input. -/
def rightLatticeWrong : ChangeSpec := { name := "rightLattice", fn := fun _ => fun
  | [d1, d2, d3] => { results := [.lit (.bool false)], args := [d1, d2, d3] }
  | _ => none }
def RightLatticeWrongFalsely : Prop := rightLatticeRow.holds Try.pinned (OpenSpec.ofChange rightLatticeWrong)

/-- 'reevelaw7.RightKnown': WHATEVER THE INPUT: true; the input reads as it did. -/
def rightKnownSpec : ChangeSpec := { name := "rightKnown", fn := fun _ => fun
  | [] => { results := [.lit (.bool true)], args := [] }
  | _ => none }
def rightKnownRow : OpenClaim := { program := "ytcdihghokoinhaa", sum := "56709da071857b3e0c04097ed4f42df0ba46d2cc1d63e940a572b241e461b51f", func := "reeve/reevelaw7.RightKnown", spec := "rightKnown", apart := false }
def RightKnownSaid : Prop := rightKnownRow.holds Try.pinned (OpenSpec.ofChange rightKnownSpec)

/-- ITS FALSE NEIGHBOUR: 'it returns false'. Refute it at one input. -/
def rightKnownWrong : ChangeSpec := { name := "rightKnown", fn := fun _ => fun
  | [] => { results := [.lit (.bool false)], args := [] }
  | _ => none }
def RightKnownWrongFalsely : Prop := rightKnownRow.holds Try.pinned (OpenSpec.ofChange rightKnownWrong)

/-- 'reevelaw7.RightSays': WHATEVER THE INPUT: true; the input reads as it did. -/
def rightSaysSpec : ChangeSpec := { name := "rightSays", fn := fun _ => fun
  | [d1, d2, d3] => { results := [.lit (.bool true)], args := [d1, d2, d3] }
  | _ => none }
def rightSaysRow : OpenClaim := { program := "ytcdihghokoinhaa", sum := "56709da071857b3e0c04097ed4f42df0ba46d2cc1d63e940a572b241e461b51f", func := "reeve/reevelaw7.RightSays", spec := "rightSays", apart := false }
def RightSaysSaid : Prop := rightSaysRow.holds Try.pinned (OpenSpec.ofChange rightSaysSpec)

/-- ITS FALSE NEIGHBOUR: 'it returns false'. Refute it at one input. -/
def rightSaysWrong : ChangeSpec := { name := "rightSays", fn := fun _ => fun
  | [d1, d2, d3] => { results := [.lit (.bool false)], args := [d1, d2, d3] }
  | _ => none }
def RightSaysWrongFalsely : Prop := rightSaysRow.holds Try.pinned (OpenSpec.ofChange rightSaysWrong)

/-- 'reevelaw3.NvmSwaps': WHATEVER THE INPUT: true; the input reads as it did. -/
def nvmSwapsSpec : ChangeSpec := { name := "nvmSwaps", fn := fun _ => fun
  | [d] => { results := [.lit (.bool true)], args := [d] }
  | _ => none }
def nvmSwapsRow : OpenClaim := { program := "ytcdihghokoinhaa", sum := "56709da071857b3e0c04097ed4f42df0ba46d2cc1d63e940a572b241e461b51f", func := "reeve/reevelaw3.NvmSwaps", spec := "nvmSwaps", apart := false }
def NvmSwapsSaid : Prop := nvmSwapsRow.holds Try.pinned (OpenSpec.ofChange nvmSwapsSpec)

/-- ITS FALSE NEIGHBOUR: 'it returns false'. Refute it at one input. -/
def nvmSwapsWrong : ChangeSpec := { name := "nvmSwaps", fn := fun _ => fun
  | [d] => { results := [.lit (.bool false)], args := [d] }
  | _ => none }
def NvmSwapsWrongFalsely : Prop := nvmSwapsRow.holds Try.pinned (OpenSpec.ofChange nvmSwapsWrong)

/-- 'reevelaw3.NvmSure': WHATEVER THE INPUT: true; the input reads as it did. -/
def nvmSureSpec : ChangeSpec := { name := "nvmSure", fn := fun _ => fun
  | [d1, d2, d3] => { results := [.lit (.bool true)], args := [d1, d2, d3] }
  | _ => none }
def nvmSureRow : OpenClaim := { program := "ytcdihghokoinhaa", sum := "56709da071857b3e0c04097ed4f42df0ba46d2cc1d63e940a572b241e461b51f", func := "reeve/reevelaw3.NvmSure", spec := "nvmSure", apart := false }
def NvmSureSaid : Prop := nvmSureRow.holds Try.pinned (OpenSpec.ofChange nvmSureSpec)

/-- ITS FALSE NEIGHBOUR: 'it returns false'. Refute it at one input. -/
def nvmSureWrong : ChangeSpec := { name := "nvmSure", fn := fun _ => fun
  | [d1, d2, d3] => { results := [.lit (.bool false)], args := [d1, d2, d3] }
  | _ => none }
def NvmSureWrongFalsely : Prop := nvmSureRow.holds Try.pinned (OpenSpec.ofChange nvmSureWrong)

/-- 'reevelaw3.NvmFrom': WHATEVER THE INPUT: true; the input reads as it did. -/
def nvmFromSpec : ChangeSpec := { name := "nvmFrom", fn := fun _ => fun
  | [d1, d2] => { results := [.lit (.bool true)], args := [d1, d2] }
  | _ => none }
def nvmFromRow : OpenClaim := { program := "ytcdihghokoinhaa", sum := "56709da071857b3e0c04097ed4f42df0ba46d2cc1d63e940a572b241e461b51f", func := "reeve/reevelaw3.NvmFrom", spec := "nvmFrom", apart := false }
def NvmFromSaid : Prop := nvmFromRow.holds Try.pinned (OpenSpec.ofChange nvmFromSpec)

/-- ITS FALSE NEIGHBOUR: 'it returns false'. Refute it at one input. -/
def nvmFromWrong : ChangeSpec := { name := "nvmFrom", fn := fun _ => fun
  | [d1, d2] => { results := [.lit (.bool false)], args := [d1, d2] }
  | _ => none }
def NvmFromWrongFalsely : Prop := nvmFromRow.holds Try.pinned (OpenSpec.ofChange nvmFromWrong)

/-- 'reevelaw3.NvmPlays': WHATEVER THE INPUT: true; the input reads as it did. -/
def nvmPlaysSpec : ChangeSpec := { name := "nvmPlays", fn := fun _ => fun
  | [d1, d2] => { results := [.lit (.bool true)], args := [d1, d2] }
  | _ => none }
def nvmPlaysRow : OpenClaim := { program := "ytcdihghokoinhaa", sum := "56709da071857b3e0c04097ed4f42df0ba46d2cc1d63e940a572b241e461b51f", func := "reeve/reevelaw3.NvmPlays", spec := "nvmPlays", apart := false }
def NvmPlaysSaid : Prop := nvmPlaysRow.holds Try.pinned (OpenSpec.ofChange nvmPlaysSpec)

/-- ITS FALSE NEIGHBOUR: 'it returns false'. Refute it at one input. -/
def nvmPlaysWrong : ChangeSpec := { name := "nvmPlays", fn := fun _ => fun
  | [d1, d2] => { results := [.lit (.bool false)], args := [d1, d2] }
  | _ => none }
def NvmPlaysWrongFalsely : Prop := nvmPlaysRow.holds Try.pinned (OpenSpec.ofChange nvmPlaysWrong)

/-- 'reevelaw3.NvmKnown': WHATEVER THE INPUT: true; the input reads as it did. -/
def nvmKnownSpec : ChangeSpec := { name := "nvmKnown", fn := fun _ => fun
  | [] => { results := [.lit (.bool true)], args := [] }
  | _ => none }
def nvmKnownRow : OpenClaim := { program := "ytcdihghokoinhaa", sum := "56709da071857b3e0c04097ed4f42df0ba46d2cc1d63e940a572b241e461b51f", func := "reeve/reevelaw3.NvmKnown", spec := "nvmKnown", apart := false }
def NvmKnownSaid : Prop := nvmKnownRow.holds Try.pinned (OpenSpec.ofChange nvmKnownSpec)

/-- ITS FALSE NEIGHBOUR: 'it returns false'. Refute it at one input. -/
def nvmKnownWrong : ChangeSpec := { name := "nvmKnown", fn := fun _ => fun
  | [] => { results := [.lit (.bool false)], args := [] }
  | _ => none }
def NvmKnownWrongFalsely : Prop := nvmKnownRow.holds Try.pinned (OpenSpec.ofChange nvmKnownWrong)

/- THE SECOND FORM. 'bulk': how many values and letters a reading holds, each counted each time it is reached (what is shared counts as often as it is met; a slice's spare places count too). A statement '..UptoSaid' is the law's where the arguments, and the package variables that the reading takes, are together of bulk at most 1048576: NARROWER than '..Said'. Prove '..Said' where nothing that the law and all that it calls make is longer than what came in: it says more and counts as full. Else prove '..UptoSaid'. A law counts once. -/
mutual
def uptoBulk {H : Type} : DataW H → Nat
  | .lit (.string bytes) => bytes.length + 1
  | .lit _ => 1
  | .nil => 1
  | .ptr d => uptoBulk d + 1
  | .slice elems spare => uptoBulkAll elems + uptoBulkAll spare + 1
  | .agg parts => uptoBulkAll parts + 1
  | .iface _ d => uptoBulk d + 1
  | .map entries => uptoBulkEntries entries + 1
  | .held _ => 1
def uptoBulkAll {H : Type} : List (DataW H) → Nat
  | [] => 0
  | d :: r => uptoBulk d + uptoBulkAll r
def uptoBulkEntries {H : Type} : List (Lit × DataW H) → Nat
  | [] => 0
  | x :: r => uptoBulkEntry x + uptoBulkEntries r
def uptoBulkEntry {H : Type} : Lit × DataW H → Nat
  | (.string bytes, d) => bytes.length + uptoBulk d + 1
  | (_, d) => uptoBulk d + 1
 end
def uptoSmall : (H : Type) → List (DataW H) → Bool := fun _ ds => decide (uptoBulkAll ds ≤ 1048576)
def OpenSpec.upto (s : _root_.Go.ChangeSpec) : _root_.Go.OpenSpec := { _root_.Go.OpenSpec.ofChange s with cond := some uptoSmall }

/-- 'reevelaw7.RightTexts', WHERE WHAT IT READS IS OF BULK AT MOST 1048576: true; the input reads as it did. -/
def rightTextsUptoRow : OpenClaim := { program := "ytcdihghokoinhaa", sum := "56709da071857b3e0c04097ed4f42df0ba46d2cc1d63e940a572b241e461b51f", func := "reeve/reevelaw7.RightTexts", spec := "rightTexts", apart := false, narrowed := true }
def RightTextsUptoSaid : Prop := rightTextsUptoRow.holds Try.pinned (OpenSpec.upto rightTextsSpec)

/-- 'reevelaw2.RowKnown', WHERE WHAT IT READS IS OF BULK AT MOST 1048576: true; the input reads as it did. -/
def rowKnownUptoRow : OpenClaim := { program := "ytcdihghokoinhaa", sum := "56709da071857b3e0c04097ed4f42df0ba46d2cc1d63e940a572b241e461b51f", func := "reeve/reevelaw2.RowKnown", spec := "rowKnown", apart := false, narrowed := true }
def RowKnownUptoSaid : Prop := rowKnownUptoRow.holds Try.pinned (OpenSpec.upto rowKnownSpec)

/-- 'reevelaw2.RowPlays', WHERE WHAT IT READS IS OF BULK AT MOST 1048576: true; the input reads as it did. -/
def rowPlaysUptoRow : OpenClaim := { program := "ytcdihghokoinhaa", sum := "56709da071857b3e0c04097ed4f42df0ba46d2cc1d63e940a572b241e461b51f", func := "reeve/reevelaw2.RowPlays", spec := "rowPlays", apart := false, narrowed := true }
def RowPlaysUptoSaid : Prop := rowPlaysUptoRow.holds Try.pinned (OpenSpec.upto rowPlaysSpec)

/-- 'reevelaw2.RowLasts', WHERE WHAT IT READS IS OF BULK AT MOST 1048576: true; the input reads as it did. -/
def rowLastsUptoRow : OpenClaim := { program := "ytcdihghokoinhaa", sum := "56709da071857b3e0c04097ed4f42df0ba46d2cc1d63e940a572b241e461b51f", func := "reeve/reevelaw2.RowLasts", spec := "rowLasts", apart := false, narrowed := true }
def RowLastsUptoSaid : Prop := rowLastsUptoRow.holds Try.pinned (OpenSpec.upto rowLastsSpec)

/-- 'reevelaw2.RowNew', WHERE WHAT IT READS IS OF BULK AT MOST 1048576: true; the input reads as it did. -/
def rowNewUptoRow : OpenClaim := { program := "ytcdihghokoinhaa", sum := "56709da071857b3e0c04097ed4f42df0ba46d2cc1d63e940a572b241e461b51f", func := "reeve/reevelaw2.RowNew", spec := "rowNew", apart := false, narrowed := true }
def RowNewUptoSaid : Prop := rowNewUptoRow.holds Try.pinned (OpenSpec.upto rowNewSpec)

/-- 'reevelaw7.RightLattice', WHERE WHAT IT READS IS OF BULK AT MOST 1048576: true; the input reads as it did. -/
def rightLatticeUptoRow : OpenClaim := { program := "ytcdihghokoinhaa", sum := "56709da071857b3e0c04097ed4f42df0ba46d2cc1d63e940a572b241e461b51f", func := "reeve/reevelaw7.RightLattice", spec := "rightLattice", apart := false, narrowed := true }
def RightLatticeUptoSaid : Prop := rightLatticeUptoRow.holds Try.pinned (OpenSpec.upto rightLatticeSpec)

/-- 'reevelaw7.RightKnown', WHERE WHAT IT READS IS OF BULK AT MOST 1048576: true; the input reads as it did. -/
def rightKnownUptoRow : OpenClaim := { program := "ytcdihghokoinhaa", sum := "56709da071857b3e0c04097ed4f42df0ba46d2cc1d63e940a572b241e461b51f", func := "reeve/reevelaw7.RightKnown", spec := "rightKnown", apart := false, narrowed := true }
def RightKnownUptoSaid : Prop := rightKnownUptoRow.holds Try.pinned (OpenSpec.upto rightKnownSpec)

/-- 'reevelaw7.RightSays', WHERE WHAT IT READS IS OF BULK AT MOST 1048576: true; the input reads as it did. -/
def rightSaysUptoRow : OpenClaim := { program := "ytcdihghokoinhaa", sum := "56709da071857b3e0c04097ed4f42df0ba46d2cc1d63e940a572b241e461b51f", func := "reeve/reevelaw7.RightSays", spec := "rightSays", apart := false, narrowed := true }
def RightSaysUptoSaid : Prop := rightSaysUptoRow.holds Try.pinned (OpenSpec.upto rightSaysSpec)

/-- 'reevelaw3.NvmSwaps', WHERE WHAT IT READS IS OF BULK AT MOST 1048576: true; the input reads as it did. -/
def nvmSwapsUptoRow : OpenClaim := { program := "ytcdihghokoinhaa", sum := "56709da071857b3e0c04097ed4f42df0ba46d2cc1d63e940a572b241e461b51f", func := "reeve/reevelaw3.NvmSwaps", spec := "nvmSwaps", apart := false, narrowed := true }
def NvmSwapsUptoSaid : Prop := nvmSwapsUptoRow.holds Try.pinned (OpenSpec.upto nvmSwapsSpec)

/-- 'reevelaw3.NvmSure', WHERE WHAT IT READS IS OF BULK AT MOST 1048576: true; the input reads as it did. -/
def nvmSureUptoRow : OpenClaim := { program := "ytcdihghokoinhaa", sum := "56709da071857b3e0c04097ed4f42df0ba46d2cc1d63e940a572b241e461b51f", func := "reeve/reevelaw3.NvmSure", spec := "nvmSure", apart := false, narrowed := true }
def NvmSureUptoSaid : Prop := nvmSureUptoRow.holds Try.pinned (OpenSpec.upto nvmSureSpec)

/-- 'reevelaw3.NvmFrom', WHERE WHAT IT READS IS OF BULK AT MOST 1048576: true; the input reads as it did. -/
def nvmFromUptoRow : OpenClaim := { program := "ytcdihghokoinhaa", sum := "56709da071857b3e0c04097ed4f42df0ba46d2cc1d63e940a572b241e461b51f", func := "reeve/reevelaw3.NvmFrom", spec := "nvmFrom", apart := false, narrowed := true }
def NvmFromUptoSaid : Prop := nvmFromUptoRow.holds Try.pinned (OpenSpec.upto nvmFromSpec)

/-- 'reevelaw3.NvmPlays', WHERE WHAT IT READS IS OF BULK AT MOST 1048576: true; the input reads as it did. -/
def nvmPlaysUptoRow : OpenClaim := { program := "ytcdihghokoinhaa", sum := "56709da071857b3e0c04097ed4f42df0ba46d2cc1d63e940a572b241e461b51f", func := "reeve/reevelaw3.NvmPlays", spec := "nvmPlays", apart := false, narrowed := true }
def NvmPlaysUptoSaid : Prop := nvmPlaysUptoRow.holds Try.pinned (OpenSpec.upto nvmPlaysSpec)

/-- 'reevelaw3.NvmKnown', WHERE WHAT IT READS IS OF BULK AT MOST 1048576: true; the input reads as it did. -/
def nvmKnownUptoRow : OpenClaim := { program := "ytcdihghokoinhaa", sum := "56709da071857b3e0c04097ed4f42df0ba46d2cc1d63e940a572b241e461b51f", func := "reeve/reevelaw3.NvmKnown", spec := "nvmKnown", apart := false, narrowed := true }
def NvmKnownUptoSaid : Prop := nvmKnownUptoRow.holds Try.pinned (OpenSpec.upto nvmKnownSpec)

end Rows
end Go.Proofs.Ytcdihghokoinhaa

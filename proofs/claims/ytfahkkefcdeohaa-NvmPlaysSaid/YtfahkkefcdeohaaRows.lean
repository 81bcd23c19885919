/-
  No cell of these rows narrows 'for every input' (looked for: loops, veiled, ifaces, maps, wideKeys, modest, calm, conditions, laid).
  DERIVED. THE GIVEN ROWS OF THIS SEAT. 5 by the template 'for every input the law returns true; each argument reads behind the call as it read before'; 0 by the template 'total and deterministic' (their statements: YtfahkkefcdeohaaTotals.lean).
  GIVEN WITH THE SEED: the statements are not yours to turn. If you find one false, say at which input.
  Laid BY PROGRAM, IN A SANDBOX (cutbox-rows.mjs): the forced cells as the released guide's own fill.sh prints them over the translation 387c083ef0f2da48… (all of the seat's roots in one cut). By AI agents, Wed Nov 11 2026. No macro, syntax, notation, axiom, sorry.
-/
import Derived.Test.YtfahkkefcdeohaaChecked
import GoSem.Claim
import GoSem.ClaimJoined
import GoSem.ClaimMapViews
import Derived.JoinedTies
import Derived.KernelRfl
namespace Go.Proofs.Ytfahkkefcdeohaa
/- THE CELL 'sum', in the pinned program and in every row, IS THE sha256 OF THE DUMP (.gsa) THAT YtfahkkefcdeohaaProg.lean LOADS. Nothing in Lean hashes anything: it is a label: what it is worth is what the hold of that sum in a sandbox is worth. -/
noncomputable def Try.pinned : Pinned := { name := "ytfahkkefcdeohaa", sum := "387c083ef0f2da48a602fc0afc754427fa0fca2e4257e2d08bec62f1c505b77b", checked := Try.checked }
namespace Rows
def none {H : Type} : Left H := { results := [], args := [] }

/-- 'reevelaw2.RowLasts': WHATEVER THE INPUT: true; the input reads as it did. -/
def rowLastsSpec : ChangeSpec := { name := "rowLasts", fn := fun _ => fun
  | [d1, d2] => { results := [.lit (.bool true)], args := [d1, d2] }
  | _ => none }
def rowLastsRow : OpenClaim := { program := "ytfahkkefcdeohaa", sum := "387c083ef0f2da48a602fc0afc754427fa0fca2e4257e2d08bec62f1c505b77b", func := "reeve/reevelaw2.RowLasts", spec := "rowLasts", apart := false }
def RowLastsSaid : Prop := rowLastsRow.holds Try.pinned (OpenSpec.ofChange rowLastsSpec)

/-- ITS FALSE NEIGHBOUR: 'it returns false'. Refute it at one input. -/
def rowLastsWrong : ChangeSpec := { name := "rowLasts", fn := fun _ => fun
  | [d1, d2] => { results := [.lit (.bool false)], args := [d1, d2] }
  | _ => none }
def RowLastsWrongFalsely : Prop := rowLastsRow.holds Try.pinned (OpenSpec.ofChange rowLastsWrong)

/-- 'reevelaw3.NvmSwaps': WHATEVER THE INPUT: true; the input reads as it did. -/
def nvmSwapsSpec : ChangeSpec := { name := "nvmSwaps", fn := fun _ => fun
  | [d] => { results := [.lit (.bool true)], args := [d] }
  | _ => none }
def nvmSwapsRow : OpenClaim := { program := "ytfahkkefcdeohaa", sum := "387c083ef0f2da48a602fc0afc754427fa0fca2e4257e2d08bec62f1c505b77b", func := "reeve/reevelaw3.NvmSwaps", spec := "nvmSwaps", apart := false }
def NvmSwapsSaid : Prop := nvmSwapsRow.holds Try.pinned (OpenSpec.ofChange nvmSwapsSpec)

/-- ITS FALSE NEIGHBOUR: 'it returns false'. Refute it at one input. -/
def nvmSwapsWrong : ChangeSpec := { name := "nvmSwaps", fn := fun _ => fun
  | [d] => { results := [.lit (.bool false)], args := [d] }
  | _ => none }
def NvmSwapsWrongFalsely : Prop := nvmSwapsRow.holds Try.pinned (OpenSpec.ofChange nvmSwapsWrong)

/-- 'reevelaw3.NvmSure': WHATEVER THE INPUT: true; the input reads as it did. -/
def nvmSureSpec : ChangeSpec := { name := "nvmSure", fn := fun _ => fun
  | [d1, d2, d3] => { results := [.lit (.bool true)], args := [d1, d2, d3] }
  | _ => none }
def nvmSureRow : OpenClaim := { program := "ytfahkkefcdeohaa", sum := "387c083ef0f2da48a602fc0afc754427fa0fca2e4257e2d08bec62f1c505b77b", func := "reeve/reevelaw3.NvmSure", spec := "nvmSure", apart := false }
def NvmSureSaid : Prop := nvmSureRow.holds Try.pinned (OpenSpec.ofChange nvmSureSpec)

/-- ITS FALSE NEIGHBOUR: 'it returns false'. Refute it at one input. -/
def nvmSureWrong : ChangeSpec := { name := "nvmSure", fn := fun _ => fun
  | [d1, d2, d3] => { results := [.lit (.bool false)], args := [d1, d2, d3] }
  | _ => none }
def NvmSureWrongFalsely : Prop := nvmSureRow.holds Try.pinned (OpenSpec.ofChange nvmSureWrong)

/-- 'reevelaw3.NvmFrom': WHATEVER THE INPUT: true; the input reads as it did. -/
def nvmFromSpec : ChangeSpec := { name := "nvmFrom", fn := fun _ => fun
  | [d1, d2] => { results := [.lit (.bool true)], args := [d1, d2] }
  | _ => none }
def nvmFromRow : OpenClaim := { program := "ytfahkkefcdeohaa", sum := "387c083ef0f2da48a602fc0afc754427fa0fca2e4257e2d08bec62f1c505b77b", func := "reeve/reevelaw3.NvmFrom", spec := "nvmFrom", apart := false }
def NvmFromSaid : Prop := nvmFromRow.holds Try.pinned (OpenSpec.ofChange nvmFromSpec)

/-- ITS FALSE NEIGHBOUR: 'it returns false'. Refute it at one input. -/
def nvmFromWrong : ChangeSpec := { name := "nvmFrom", fn := fun _ => fun
  | [d1, d2] => { results := [.lit (.bool false)], args := [d1, d2] }
  | _ => none }
def NvmFromWrongFalsely : Prop := nvmFromRow.holds Try.pinned (OpenSpec.ofChange nvmFromWrong)

/-- 'reevelaw3.NvmPlays': WHATEVER THE INPUT: true; the input reads as it did. -/
def nvmPlaysSpec : ChangeSpec := { name := "nvmPlays", fn := fun _ => fun
  | [d1, d2] => { results := [.lit (.bool true)], args := [d1, d2] }
  | _ => none }
def nvmPlaysRow : OpenClaim := { program := "ytfahkkefcdeohaa", sum := "387c083ef0f2da48a602fc0afc754427fa0fca2e4257e2d08bec62f1c505b77b", func := "reeve/reevelaw3.NvmPlays", spec := "nvmPlays", apart := false }
def NvmPlaysSaid : Prop := nvmPlaysRow.holds Try.pinned (OpenSpec.ofChange nvmPlaysSpec)

/-- ITS FALSE NEIGHBOUR: 'it returns false'. Refute it at one input. -/
def nvmPlaysWrong : ChangeSpec := { name := "nvmPlays", fn := fun _ => fun
  | [d1, d2] => { results := [.lit (.bool false)], args := [d1, d2] }
  | _ => none }
def NvmPlaysWrongFalsely : Prop := nvmPlaysRow.holds Try.pinned (OpenSpec.ofChange nvmPlaysWrong)

/- THE SECOND FORM. 'bulk': how many values and letters a reading holds, each counted each time it is reached (what is shared counts as often as it is met; a slice's spare places count too). A statement '..UptoSaid' is the law's where the arguments, and the package variables that the reading takes, are together of bulk at most 1048576: NARROWER than '..Said'. Prove '..Said' where nothing that the law and all that it calls make is longer than what came in: it says more and counts as full. Else prove '..UptoSaid'. A law counts once. -/
mutual
def uptoBulk {H : Type} : DataW H → Nat
  | .lit (.string bytes) => bytes.length + 1
  | .lit _ => 1
  | .nil => 1
  | .ptr d => uptoBulk d + 1
  | .slice elems spare => uptoBulkAll elems + uptoBulkAll spare + 1
  | .agg parts => uptoBulkAll parts + 1
  | .iface _ d => uptoBulk d + 1
  | .map entries => uptoBulkEntries entries + 1
  | .held _ => 1
def uptoBulkAll {H : Type} : List (DataW H) → Nat
  | [] => 0
  | d :: r => uptoBulk d + uptoBulkAll r
def uptoBulkEntries {H : Type} : List (Lit × DataW H) → Nat
  | [] => 0
  | x :: r => uptoBulkEntry x + uptoBulkEntries r
def uptoBulkEntry {H : Type} : Lit × DataW H → Nat
  | (.string bytes, d) => bytes.length + uptoBulk d + 1
  | (_, d) => uptoBulk d + 1
 end
def uptoSmall : (H : Type) → List (DataW H) → Bool := fun _ ds => decide (uptoBulkAll ds ≤ 1048576)
def OpenSpec.upto (s : _root_.Go.ChangeSpec) : _root_.Go.OpenSpec := { _root_.Go.OpenSpec.ofChange s with cond := some uptoSmall }

/-- 'reevelaw2.RowLasts', WHERE WHAT IT READS IS OF BULK AT MOST 1048576: true; the input reads as it did. -/
def rowLastsUptoRow : OpenClaim := { program := "ytfahkkefcdeohaa", sum := "387c083ef0f2da48a602fc0afc754427fa0fca2e4257e2d08bec62f1c505b77b", func := "reeve/reevelaw2.RowLasts", spec := "rowLasts", apart := false, narrowed := true }
def RowLastsUptoSaid : Prop := rowLastsUptoRow.holds Try.pinned (OpenSpec.upto rowLastsSpec)

/-- 'reevelaw3.NvmSwaps', WHERE WHAT IT READS IS OF BULK AT MOST 1048576: true; the input reads as it did. -/
def nvmSwapsUptoRow : OpenClaim := { program := "ytfahkkefcdeohaa", sum := "387c083ef0f2da48a602fc0afc754427fa0fca2e4257e2d08bec62f1c505b77b", func := "reeve/reevelaw3.NvmSwaps", spec := "nvmSwaps", apart := false, narrowed := true }
def NvmSwapsUptoSaid : Prop := nvmSwapsUptoRow.holds Try.pinned (OpenSpec.upto nvmSwapsSpec)

/-- 'reevelaw3.NvmSure', WHERE WHAT IT READS IS OF BULK AT MOST 1048576: true; the input reads as it did. -/
def nvmSureUptoRow : OpenClaim := { program := "ytfahkkefcdeohaa", sum := "387c083ef0f2da48a602fc0afc754427fa0fca2e4257e2d08bec62f1c505b77b", func := "reeve/reevelaw3.NvmSure", spec := "nvmSure", apart := false, narrowed := true }
def NvmSureUptoSaid : Prop := nvmSureUptoRow.holds Try.pinned (OpenSpec.upto nvmSureSpec)

/-- 'reevelaw3.NvmFrom', WHERE WHAT IT READS IS OF BULK AT MOST 1048576: true; the input reads as it did. -/
def nvmFromUptoRow : OpenClaim := { program := "ytfahkkefcdeohaa", sum := "387c083ef0f2da48a602fc0afc754427fa0fca2e4257e2d08bec62f1c505b77b", func := "reeve/reevelaw3.NvmFrom", spec := "nvmFrom", apart := false, narrowed := true }
def NvmFromUptoSaid : Prop := nvmFromUptoRow.holds Try.pinned (OpenSpec.upto nvmFromSpec)

/-- 'reevelaw3.NvmPlays', WHERE WHAT IT READS IS OF BULK AT MOST 1048576: true; the input reads as it did. -/
def nvmPlaysUptoRow : OpenClaim := { program := "ytfahkkefcdeohaa", sum := "387c083ef0f2da48a602fc0afc754427fa0fca2e4257e2d08bec62f1c505b77b", func := "reeve/reevelaw3.NvmPlays", spec := "nvmPlays", apart := false, narrowed := true }
def NvmPlaysUptoSaid : Prop := nvmPlaysUptoRow.holds Try.pinned (OpenSpec.upto nvmPlaysSpec)

end Rows
end Go.Proofs.Ytfahkkefcdeohaa

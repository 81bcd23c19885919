/-
  No cell of these rows narrows 'for every input' (looked for: loops, veiled, ifaces, maps, wideKeys, modest, calm, conditions, laid).
  DERIVED. THE GIVEN ROWS OF THIS SEAT. 10 by the template 'for every input the law returns true; each argument reads behind the call as it read before'; 0 by the template 'total and deterministic' (their statements: YtlaipllgmddkiaaGreatTotals.lean).
  GIVEN WITH THE SEED: the statements are not yours to turn. If you find one false, say at which input.
  Laid BY PROGRAM, IN A SANDBOX (cutbox-rows.mjs): the forced cells as the released guide's own fill.sh prints them over the translation 3abe100a7576a93f… (all of the seat's roots in one cut). By AI agents, Wed Nov 11 2026. No macro, syntax, notation, axiom, sorry.
-/
import Derived.Test.YtlaipllgmddkiaaGreatChecked
import GoSem.Claim
import GoSem.ClaimJoined
import GoSem.ClaimMapViews
import Derived.JoinedTies
import Derived.KernelRfl
namespace Go.Proofs.YtlaipllgmddkiaaGreat
/- THE CELL 'sum', in the pinned program and in every row, IS THE sha256 OF THE DUMP (.gsa) THAT YtlaipllgmddkiaaGreatProg.lean LOADS. Nothing in Lean hashes anything: it is a label: what it is worth is what the hold of that sum in a sandbox is worth. -/
noncomputable def Tryz.pinned : Pinned := { name := "ytlaipllgmddkiaagreat", sum := "3abe100a7576a93fc981aef84c8c9166688d02ca7ce788c56e904bf3d97e091d", checked := Tryz.checked }
namespace Rows
def none {H : Type} : Left H := { results := [], args := [] }

/-- 'reevelaw18.MailSays': WHATEVER THE INPUT: true; the input reads as it did. -/
def mailSaysSpec : ChangeSpec := { name := "mailSays", fn := fun _ => fun
  | [d1, d2, d3] => { results := [.lit (.bool true)], args := [d1, d2, d3] }
  | _ => none }
def mailSaysRow : OpenClaim := { program := "ytlaipllgmddkiaagreat", sum := "3abe100a7576a93fc981aef84c8c9166688d02ca7ce788c56e904bf3d97e091d", func := "reeve/reevelaw18.MailSays", spec := "mailSays", inPlace := ["internal/bytealg.IndexByteString", "internal/bytealg.IndexString"], unfollowed := true, recurses := true, named := ["internal/bytealg.MaxLen"], apart := false }
def MailSaysSaid : Prop := mailSaysRow.holds Tryz.pinned (OpenSpec.ofChange mailSaysSpec)

/-- ITS FALSE NEIGHBOUR: 'it returns false'. Refute it at one input. -/
def mailSaysWrong : ChangeSpec := { name := "mailSays", fn := fun _ => fun
  | [d1, d2, d3] => { results := [.lit (.bool false)], args := [d1, d2, d3] }
  | _ => none }
def MailSaysWrongFalsely : Prop := mailSaysRow.holds Tryz.pinned (OpenSpec.ofChange mailSaysWrong)

/-- 'reevelaw15.CarveSays': WHATEVER THE INPUT: true; the input reads as it did. -/
def carveSaysSpec : ChangeSpec := { name := "carveSays", fn := fun _ => fun
  | [d1, d2, d3] => { results := [.lit (.bool true)], args := [d1, d2, d3] }
  | _ => none }
def carveSaysRow : OpenClaim := { program := "ytlaipllgmddkiaagreat", sum := "3abe100a7576a93fc981aef84c8c9166688d02ca7ce788c56e904bf3d97e091d", func := "reeve/reevelaw15.CarveSays", spec := "carveSays", inPlace := ["internal/bytealg.IndexByteString", "internal/bytealg.IndexString"], unfollowed := true, recurses := true, named := ["internal/bytealg.MaxLen"], apart := false }
def CarveSaysSaid : Prop := carveSaysRow.holds Tryz.pinned (OpenSpec.ofChange carveSaysSpec)

/-- ITS FALSE NEIGHBOUR: 'it returns false'. Refute it at one input. -/
def carveSaysWrong : ChangeSpec := { name := "carveSays", fn := fun _ => fun
  | [d1, d2, d3] => { results := [.lit (.bool false)], args := [d1, d2, d3] }
  | _ => none }
def CarveSaysWrongFalsely : Prop := carveSaysRow.holds Tryz.pinned (OpenSpec.ofChange carveSaysWrong)

/-- 'reevelaw16.GiveSays': WHATEVER THE INPUT: true; the input reads as it did. -/
def giveSaysSpec : ChangeSpec := { name := "giveSays", fn := fun _ => fun
  | [d1, d2, d3] => { results := [.lit (.bool true)], args := [d1, d2, d3] }
  | _ => none }
def giveSaysRow : OpenClaim := { program := "ytlaipllgmddkiaagreat", sum := "3abe100a7576a93fc981aef84c8c9166688d02ca7ce788c56e904bf3d97e091d", func := "reeve/reevelaw16.GiveSays", spec := "giveSays", inPlace := ["internal/bytealg.IndexByteString", "internal/bytealg.IndexString"], unfollowed := true, recurses := true, named := ["internal/bytealg.MaxLen"], apart := false }
def GiveSaysSaid : Prop := giveSaysRow.holds Tryz.pinned (OpenSpec.ofChange giveSaysSpec)

/-- ITS FALSE NEIGHBOUR: 'it returns false'. Refute it at one input. -/
def giveSaysWrong : ChangeSpec := { name := "giveSays", fn := fun _ => fun
  | [d1, d2, d3] => { results := [.lit (.bool false)], args := [d1, d2, d3] }
  | _ => none }
def GiveSaysWrongFalsely : Prop := giveSaysRow.holds Tryz.pinned (OpenSpec.ofChange giveSaysWrong)

/-- 'reevelaw19.BellSays': WHATEVER THE INPUT: true; the input reads as it did. -/
def bellSaysSpec : ChangeSpec := { name := "bellSays", fn := fun _ => fun
  | [d1, d2, d3] => { results := [.lit (.bool true)], args := [d1, d2, d3] }
  | _ => none }
def bellSaysRow : OpenClaim := { program := "ytlaipllgmddkiaagreat", sum := "3abe100a7576a93fc981aef84c8c9166688d02ca7ce788c56e904bf3d97e091d", func := "reeve/reevelaw19.BellSays", spec := "bellSays", inPlace := ["internal/bytealg.IndexByteString", "internal/bytealg.IndexString"], unfollowed := true, recurses := true, named := ["internal/bytealg.MaxLen"], apart := false }
def BellSaysSaid : Prop := bellSaysRow.holds Tryz.pinned (OpenSpec.ofChange bellSaysSpec)

/-- ITS FALSE NEIGHBOUR: 'it returns false'. Refute it at one input. -/
def bellSaysWrong : ChangeSpec := { name := "bellSays", fn := fun _ => fun
  | [d1, d2, d3] => { results := [.lit (.bool false)], args := [d1, d2, d3] }
  | _ => none }
def BellSaysWrongFalsely : Prop := bellSaysRow.holds Tryz.pinned (OpenSpec.ofChange bellSaysWrong)

/-- 'reevelaw20.LeafSays': WHATEVER THE INPUT: true; the input reads as it did. -/
def leafSaysSpec : ChangeSpec := { name := "leafSays", fn := fun _ => fun
  | [d1, d2, d3] => { results := [.lit (.bool true)], args := [d1, d2, d3] }
  | _ => none }
def leafSaysRow : OpenClaim := { program := "ytlaipllgmddkiaagreat", sum := "3abe100a7576a93fc981aef84c8c9166688d02ca7ce788c56e904bf3d97e091d", func := "reeve/reevelaw20.LeafSays", spec := "leafSays", inPlace := ["internal/bytealg.IndexByteString", "internal/bytealg.IndexString"], unfollowed := true, recurses := true, named := ["internal/bytealg.MaxLen"], apart := false }
def LeafSaysSaid : Prop := leafSaysRow.holds Tryz.pinned (OpenSpec.ofChange leafSaysSpec)

/-- ITS FALSE NEIGHBOUR: 'it returns false'. Refute it at one input. -/
def leafSaysWrong : ChangeSpec := { name := "leafSays", fn := fun _ => fun
  | [d1, d2, d3] => { results := [.lit (.bool false)], args := [d1, d2, d3] }
  | _ => none }
def LeafSaysWrongFalsely : Prop := leafSaysRow.holds Tryz.pinned (OpenSpec.ofChange leafSaysWrong)

/-- 'reevelaw21.RuleWords': WHATEVER THE INPUT: true; the input reads as it did. -/
def ruleWordsSpec : ChangeSpec := { name := "ruleWords", fn := fun _ => fun
  | [d1, d2, d3] => { results := [.lit (.bool true)], args := [d1, d2, d3] }
  | _ => none }
def ruleWordsRow : OpenClaim := { program := "ytlaipllgmddkiaagreat", sum := "3abe100a7576a93fc981aef84c8c9166688d02ca7ce788c56e904bf3d97e091d", func := "reeve/reevelaw21.RuleWords", spec := "ruleWords", inPlace := ["internal/bytealg.IndexByteString", "internal/bytealg.IndexString"], unfollowed := true, recurses := true, named := ["internal/bytealg.MaxLen"], apart := false }
def RuleWordsSaid : Prop := ruleWordsRow.holds Tryz.pinned (OpenSpec.ofChange ruleWordsSpec)

/-- ITS FALSE NEIGHBOUR: 'it returns false'. Refute it at one input. -/
def ruleWordsWrong : ChangeSpec := { name := "ruleWords", fn := fun _ => fun
  | [d1, d2, d3] => { results := [.lit (.bool false)], args := [d1, d2, d3] }
  | _ => none }
def RuleWordsWrongFalsely : Prop := ruleWordsRow.holds Tryz.pinned (OpenSpec.ofChange ruleWordsWrong)

/-- 'reevelaw21.RuleOthers': WHATEVER THE INPUT: true; the input reads as it did. -/
def ruleOthersSpec : ChangeSpec := { name := "ruleOthers", fn := fun _ => fun
  | [d] => { results := [.lit (.bool true)], args := [d] }
  | _ => none }
def ruleOthersRow : OpenClaim := { program := "ytlaipllgmddkiaagreat", sum := "3abe100a7576a93fc981aef84c8c9166688d02ca7ce788c56e904bf3d97e091d", func := "reeve/reevelaw21.RuleOthers", spec := "ruleOthers", inPlace := ["internal/bytealg.IndexByteString", "internal/bytealg.IndexString"], unfollowed := true, recurses := true, named := ["internal/bytealg.MaxLen"], apart := false }
def RuleOthersSaid : Prop := ruleOthersRow.holds Tryz.pinned (OpenSpec.ofChange ruleOthersSpec)

/-- ITS FALSE NEIGHBOUR: 'it returns false'. Refute it at one input. -/
def ruleOthersWrong : ChangeSpec := { name := "ruleOthers", fn := fun _ => fun
  | [d] => { results := [.lit (.bool false)], args := [d] }
  | _ => none }
def RuleOthersWrongFalsely : Prop := ruleOthersRow.holds Tryz.pinned (OpenSpec.ofChange ruleOthersWrong)

/-- 'reevelaw21.RuleKnown': WHATEVER THE INPUT: true; the input reads as it did. -/
def ruleKnownSpec : ChangeSpec := { name := "ruleKnown", fn := fun _ => fun
  | [] => { results := [.lit (.bool true)], args := [] }
  | _ => none }
def ruleKnownRow : OpenClaim := { program := "ytlaipllgmddkiaagreat", sum := "3abe100a7576a93fc981aef84c8c9166688d02ca7ce788c56e904bf3d97e091d", func := "reeve/reevelaw21.RuleKnown", spec := "ruleKnown", inPlace := ["internal/bytealg.IndexByteString", "internal/bytealg.IndexString"], unfollowed := true, recurses := true, named := ["internal/bytealg.MaxLen"], apart := false }
def RuleKnownSaid : Prop := ruleKnownRow.holds Tryz.pinned (OpenSpec.ofChange ruleKnownSpec)

/-- ITS FALSE NEIGHBOUR: 'it returns false'. Refute it at one input. -/
def ruleKnownWrong : ChangeSpec := { name := "ruleKnown", fn := fun _ => fun
  | [] => { results := [.lit (.bool false)], args := [] }
  | _ => none }
def RuleKnownWrongFalsely : Prop := ruleKnownRow.holds Tryz.pinned (OpenSpec.ofChange ruleKnownWrong)

/-- 'reevelaw21.RulePlays': WHATEVER THE INPUT: true; the input reads as it did. -/
def rulePlaysSpec : ChangeSpec := { name := "rulePlays", fn := fun _ => fun
  | [d1, d2, d3] => { results := [.lit (.bool true)], args := [d1, d2, d3] }
  | _ => none }
def rulePlaysRow : OpenClaim := { program := "ytlaipllgmddkiaagreat", sum := "3abe100a7576a93fc981aef84c8c9166688d02ca7ce788c56e904bf3d97e091d", func := "reeve/reevelaw21.RulePlays", spec := "rulePlays", inPlace := ["internal/bytealg.IndexByteString", "internal/bytealg.IndexString"], unfollowed := true, recurses := true, named := ["internal/bytealg.MaxLen"], apart := false }
def RulePlaysSaid : Prop := rulePlaysRow.holds Tryz.pinned (OpenSpec.ofChange rulePlaysSpec)

/-- ITS FALSE NEIGHBOUR: 'it returns false'. Refute it at one input. -/
def rulePlaysWrong : ChangeSpec := { name := "rulePlays", fn := fun _ => fun
  | [d1, d2, d3] => { results := [.lit (.bool false)], args := [d1, d2, d3] }
  | _ => none }
def RulePlaysWrongFalsely : Prop := rulePlaysRow.holds Tryz.pinned (OpenSpec.ofChange rulePlaysWrong)

/-- 'reevelaw21.RuleGrows': WHATEVER THE INPUT: true; the input reads as it did. -/
def ruleGrowsSpec : ChangeSpec := { name := "ruleGrows", fn := fun _ => fun
  | [d1, d2, d3] => { results := [.lit (.bool true)], args := [d1, d2, d3] }
  | _ => none }
def ruleGrowsRow : OpenClaim := { program := "ytlaipllgmddkiaagreat", sum := "3abe100a7576a93fc981aef84c8c9166688d02ca7ce788c56e904bf3d97e091d", func := "reeve/reevelaw21.RuleGrows", spec := "ruleGrows", inPlace := ["internal/bytealg.IndexByteString", "internal/bytealg.IndexString"], unfollowed := true, recurses := true, named := ["internal/bytealg.MaxLen"], apart := false }
def RuleGrowsSaid : Prop := ruleGrowsRow.holds Tryz.pinned (OpenSpec.ofChange ruleGrowsSpec)

/-- ITS FALSE NEIGHBOUR: 'it returns false'. Refute it at one input. -/
def ruleGrowsWrong : ChangeSpec := { name := "ruleGrows", fn := fun _ => fun
  | [d1, d2, d3] => { results := [.lit (.bool false)], args := [d1, d2, d3] }
  | _ => none }
def RuleGrowsWrongFalsely : Prop := ruleGrowsRow.holds Tryz.pinned (OpenSpec.ofChange ruleGrowsWrong)

/- THE SECOND FORM. 'bulk': how many values and letters a reading holds, each counted each time it is reached (what is shared counts as often as it is met; a slice's spare places count too). A statement '..UptoSaid' is the law's where the arguments, and the package variables that the reading takes, are together of bulk at most 1048576: NARROWER than '..Said'. Prove '..Said' where nothing that the law and all that it calls make is longer than what came in: it says more and counts as full. Else prove '..UptoSaid'. A law counts once. -/
mutual
def uptoBulk {H : Type} : DataW H → Nat
  | .lit (.string bytes) => bytes.length + 1
  | .lit _ => 1
  | .nil => 1
  | .ptr d => uptoBulk d + 1
  | .slice elems spare => uptoBulkAll elems + uptoBulkAll spare + 1
  | .agg parts => uptoBulkAll parts + 1
  | .iface _ d => uptoBulk d + 1
  | .map entries => uptoBulkEntries entries + 1
  | .held _ => 1
def uptoBulkAll {H : Type} : List (DataW H) → Nat
  | [] => 0
  | d :: r => uptoBulk d + uptoBulkAll r
def uptoBulkEntries {H : Type} : List (Lit × DataW H) → Nat
  | [] => 0
  | x :: r => uptoBulkEntry x + uptoBulkEntries r
def uptoBulkEntry {H : Type} : Lit × DataW H → Nat
  | (.string bytes, d) => bytes.length + uptoBulk d + 1
  | (_, d) => uptoBulk d + 1
 end
def uptoSmall : (H : Type) → List (DataW H) → Bool := fun _ ds => decide (uptoBulkAll ds ≤ 1048576)
def OpenSpec.upto (s : _root_.Go.ChangeSpec) : _root_.Go.OpenSpec := { _root_.Go.OpenSpec.ofChange s with cond := some uptoSmall }

/-- 'reevelaw18.MailSays', WHERE WHAT IT READS IS OF BULK AT MOST 1048576: true; the input reads as it did. -/
def mailSaysUptoRow : OpenClaim := { program := "ytlaipllgmddkiaagreat", sum := "3abe100a7576a93fc981aef84c8c9166688d02ca7ce788c56e904bf3d97e091d", func := "reeve/reevelaw18.MailSays", spec := "mailSays", inPlace := ["internal/bytealg.IndexByteString", "internal/bytealg.IndexString"], unfollowed := true, recurses := true, named := ["internal/bytealg.MaxLen"], apart := false, narrowed := true }
def MailSaysUptoSaid : Prop := mailSaysUptoRow.holds Tryz.pinned (OpenSpec.upto mailSaysSpec)

/-- 'reevelaw15.CarveSays', WHERE WHAT IT READS IS OF BULK AT MOST 1048576: true; the input reads as it did. -/
def carveSaysUptoRow : OpenClaim := { program := "ytlaipllgmddkiaagreat", sum := "3abe100a7576a93fc981aef84c8c9166688d02ca7ce788c56e904bf3d97e091d", func := "reeve/reevelaw15.CarveSays", spec := "carveSays", inPlace := ["internal/bytealg.IndexByteString", "internal/bytealg.IndexString"], unfollowed := true, recurses := true, named := ["internal/bytealg.MaxLen"], apart := false, narrowed := true }
def CarveSaysUptoSaid : Prop := carveSaysUptoRow.holds Tryz.pinned (OpenSpec.upto carveSaysSpec)

/-- 'reevelaw16.GiveSays', WHERE WHAT IT READS IS OF BULK AT MOST 1048576: true; the input reads as it did. -/
def giveSaysUptoRow : OpenClaim := { program := "ytlaipllgmddkiaagreat", sum := "3abe100a7576a93fc981aef84c8c9166688d02ca7ce788c56e904bf3d97e091d", func := "reeve/reevelaw16.GiveSays", spec := "giveSays", inPlace := ["internal/bytealg.IndexByteString", "internal/bytealg.IndexString"], unfollowed := true, recurses := true, named := ["internal/bytealg.MaxLen"], apart := false, narrowed := true }
def GiveSaysUptoSaid : Prop := giveSaysUptoRow.holds Tryz.pinned (OpenSpec.upto giveSaysSpec)

/-- 'reevelaw19.BellSays', WHERE WHAT IT READS IS OF BULK AT MOST 1048576: true; the input reads as it did. -/
def bellSaysUptoRow : OpenClaim := { program := "ytlaipllgmddkiaagreat", sum := "3abe100a7576a93fc981aef84c8c9166688d02ca7ce788c56e904bf3d97e091d", func := "reeve/reevelaw19.BellSays", spec := "bellSays", inPlace := ["internal/bytealg.IndexByteString", "internal/bytealg.IndexString"], unfollowed := true, recurses := true, named := ["internal/bytealg.MaxLen"], apart := false, narrowed := true }
def BellSaysUptoSaid : Prop := bellSaysUptoRow.holds Tryz.pinned (OpenSpec.upto bellSaysSpec)

/-- 'reevelaw20.LeafSays', WHERE WHAT IT READS IS OF BULK AT MOST 1048576: true; the input reads as it did. -/
def leafSaysUptoRow : OpenClaim := { program := "ytlaipllgmddkiaagreat", sum := "3abe100a7576a93fc981aef84c8c9166688d02ca7ce788c56e904bf3d97e091d", func := "reeve/reevelaw20.LeafSays", spec := "leafSays", inPlace := ["internal/bytealg.IndexByteString", "internal/bytealg.IndexString"], unfollowed := true, recurses := true, named := ["internal/bytealg.MaxLen"], apart := false, narrowed := true }
def LeafSaysUptoSaid : Prop := leafSaysUptoRow.holds Tryz.pinned (OpenSpec.upto leafSaysSpec)

/-- 'reevelaw21.RuleWords', WHERE WHAT IT READS IS OF BULK AT MOST 1048576: true; the input reads as it did. -/
def ruleWordsUptoRow : OpenClaim := { program := "ytlaipllgmddkiaagreat", sum := "3abe100a7576a93fc981aef84c8c9166688d02ca7ce788c56e904bf3d97e091d", func := "reeve/reevelaw21.RuleWords", spec := "ruleWords", inPlace := ["internal/bytealg.IndexByteString", "internal/bytealg.IndexString"], unfollowed := true, recurses := true, named := ["internal/bytealg.MaxLen"], apart := false, narrowed := true }
def RuleWordsUptoSaid : Prop := ruleWordsUptoRow.holds Tryz.pinned (OpenSpec.upto ruleWordsSpec)

/-- 'reevelaw21.RuleOthers', WHERE WHAT IT READS IS OF BULK AT MOST 1048576: true; the input reads as it did. -/
def ruleOthersUptoRow : OpenClaim := { program := "ytlaipllgmddkiaagreat", sum := "3abe100a7576a93fc981aef84c8c9166688d02ca7ce788c56e904bf3d97e091d", func := "reeve/reevelaw21.RuleOthers", spec := "ruleOthers", inPlace := ["internal/bytealg.IndexByteString", "internal/bytealg.IndexString"], unfollowed := true, recurses := true, named := ["internal/bytealg.MaxLen"], apart := false, narrowed := true }
def RuleOthersUptoSaid : Prop := ruleOthersUptoRow.holds Tryz.pinned (OpenSpec.upto ruleOthersSpec)

/-- 'reevelaw21.RuleKnown', WHERE WHAT IT READS IS OF BULK AT MOST 1048576: true; the input reads as it did. -/
def ruleKnownUptoRow : OpenClaim := { program := "ytlaipllgmddkiaagreat", sum := "3abe100a7576a93fc981aef84c8c9166688d02ca7ce788c56e904bf3d97e091d", func := "reeve/reevelaw21.RuleKnown", spec := "ruleKnown", inPlace := ["internal/bytealg.IndexByteString", "internal/bytealg.IndexString"], unfollowed := true, recurses := true, named := ["internal/bytealg.MaxLen"], apart := false, narrowed := true }
def RuleKnownUptoSaid : Prop := ruleKnownUptoRow.holds Tryz.pinned (OpenSpec.upto ruleKnownSpec)

/-- 'reevelaw21.RulePlays', WHERE WHAT IT READS IS OF BULK AT MOST 1048576: true; the input reads as it did. -/
def rulePlaysUptoRow : OpenClaim := { program := "ytlaipllgmddkiaagreat", sum := "3abe100a7576a93fc981aef84c8c9166688d02ca7ce788c56e904bf3d97e091d", func := "reeve/reevelaw21.RulePlays", spec := "rulePlays", inPlace := ["internal/bytealg.IndexByteString", "internal/bytealg.IndexString"], unfollowed := true, recurses := true, named := ["internal/bytealg.MaxLen"], apart := false, narrowed := true }
def RulePlaysUptoSaid : Prop := rulePlaysUptoRow.holds Tryz.pinned (OpenSpec.upto rulePlaysSpec)

/-- 'reevelaw21.RuleGrows', WHERE WHAT IT READS IS OF BULK AT MOST 1048576: true; the input reads as it did. -/
def ruleGrowsUptoRow : OpenClaim := { program := "ytlaipllgmddkiaagreat", sum := "3abe100a7576a93fc981aef84c8c9166688d02ca7ce788c56e904bf3d97e091d", func := "reeve/reevelaw21.RuleGrows", spec := "ruleGrows", inPlace := ["internal/bytealg.IndexByteString", "internal/bytealg.IndexString"], unfollowed := true, recurses := true, named := ["internal/bytealg.MaxLen"], apart := false, narrowed := true }
def RuleGrowsUptoSaid : Prop := ruleGrowsUptoRow.holds Tryz.pinned (OpenSpec.upto ruleGrowsSpec)

end Rows
end Go.Proofs.YtlaipllgmddkiaaGreat

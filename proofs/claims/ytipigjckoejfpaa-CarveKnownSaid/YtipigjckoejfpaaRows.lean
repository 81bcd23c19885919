/-
  No cell of these rows narrows 'for every input' (looked for: loops, veiled, ifaces, maps, wideKeys, modest, calm, conditions, laid).
  DERIVED. THE GIVEN ROWS OF THIS SEAT. 9 by the template 'for every input the law returns true; each argument reads behind the call as it read before'; 0 by the template 'total and deterministic' (their statements: YtipigjckoejfpaaTotals.lean).
  GIVEN WITH THE SEED: the statements are not yours to turn. If you find one false, say at which input.
  Laid BY PROGRAM, IN A SANDBOX (cutbox-rows.mjs): the forced cells as the released guide's own fill.sh prints them over the translation c88d367d85812aac… (all of the seat's roots in one cut). By AI agents, Wed Nov 11 2026. No macro, syntax, notation, axiom, sorry.
-/
import Derived.Test.YtipigjckoejfpaaChecked
import GoSem.Claim
import GoSem.ClaimJoined
import GoSem.ClaimMapViews
import Derived.JoinedTies
import Derived.KernelRfl
namespace Go.Proofs.Ytipigjckoejfpaa
/- THE CELL 'sum', in the pinned program and in every row, IS THE sha256 OF THE DUMP (.gsa) THAT YtipigjckoejfpaaProg.lean LOADS. Nothing in Lean hashes anything: it is a label: what it is worth is what the hold of that sum in a sandbox is worth. -/
noncomputable def Try.pinned : Pinned := { name := "ytipigjckoejfpaa", sum := "c88d367d85812aac37393e1dcd5c515faae5748aeb5428378d6c3bd04c41060f", checked := Try.checked }
namespace Rows
def none {H : Type} : Left H := { results := [], args := [] }

/-- 'reevelaw18.MailRound': WHATEVER THE INPUT: true; the input reads as it did. -/
def mailRoundSpec : ChangeSpec := { name := "mailRound", fn := fun _ => fun
  | [d1, d2, d3, d4] => { results := [.lit (.bool true)], args := [d1, d2, d3, d4] }
  | _ => none }
def mailRoundRow : OpenClaim := { program := "ytipigjckoejfpaa", sum := "c88d367d85812aac37393e1dcd5c515faae5748aeb5428378d6c3bd04c41060f", func := "reeve/reevelaw18.MailRound", spec := "mailRound", inPlace := ["internal/bytealg.IndexByteString", "internal/bytealg.IndexString"], unfollowed := true, recurses := true, named := ["internal/bytealg.MaxLen"], apart := false }
def MailRoundSaid : Prop := mailRoundRow.holds Try.pinned (OpenSpec.ofChange mailRoundSpec)

/-- ITS FALSE NEIGHBOUR: 'it returns false'. Refute it at one input. -/
def mailRoundWrong : ChangeSpec := { name := "mailRound", fn := fun _ => fun
  | [d1, d2, d3, d4] => { results := [.lit (.bool false)], args := [d1, d2, d3, d4] }
  | _ => none }
def MailRoundWrongFalsely : Prop := mailRoundRow.holds Try.pinned (OpenSpec.ofChange mailRoundWrong)

/-- 'reevelaw18.MailHands': WHATEVER THE INPUT: true; the input reads as it did. -/
def mailHandsSpec : ChangeSpec := { name := "mailHands", fn := fun _ => fun
  | [d1, d2, d3, d4, d5, d6, d7] => { results := [.lit (.bool true)], args := [d1, d2, d3, d4, d5, d6, d7] }
  | _ => none }
def mailHandsRow : OpenClaim := { program := "ytipigjckoejfpaa", sum := "c88d367d85812aac37393e1dcd5c515faae5748aeb5428378d6c3bd04c41060f", func := "reeve/reevelaw18.MailHands", spec := "mailHands", inPlace := ["internal/bytealg.IndexByteString", "internal/bytealg.IndexString"], unfollowed := true, recurses := true, named := ["internal/bytealg.MaxLen"], apart := false }
def MailHandsSaid : Prop := mailHandsRow.holds Try.pinned (OpenSpec.ofChange mailHandsSpec)

/-- ITS FALSE NEIGHBOUR: 'it returns false'. Refute it at one input. -/
def mailHandsWrong : ChangeSpec := { name := "mailHands", fn := fun _ => fun
  | [d1, d2, d3, d4, d5, d6, d7] => { results := [.lit (.bool false)], args := [d1, d2, d3, d4, d5, d6, d7] }
  | _ => none }
def MailHandsWrongFalsely : Prop := mailHandsRow.holds Try.pinned (OpenSpec.ofChange mailHandsWrong)

/-- 'reevelaw15.CarveKnown': WHATEVER THE INPUT: true; the input reads as it did. -/
def carveKnownSpec : ChangeSpec := { name := "carveKnown", fn := fun _ => fun
  | [] => { results := [.lit (.bool true)], args := [] }
  | _ => none }
def carveKnownRow : OpenClaim := { program := "ytipigjckoejfpaa", sum := "c88d367d85812aac37393e1dcd5c515faae5748aeb5428378d6c3bd04c41060f", func := "reeve/reevelaw15.CarveKnown", spec := "carveKnown", inPlace := ["internal/bytealg.IndexByteString", "internal/bytealg.IndexString"], unfollowed := true, recurses := true, named := ["internal/bytealg.MaxLen"], apart := false }
def CarveKnownSaid : Prop := carveKnownRow.holds Try.pinned (OpenSpec.ofChange carveKnownSpec)

/-- ITS FALSE NEIGHBOUR: 'it returns false'. Refute it at one input. -/
def carveKnownWrong : ChangeSpec := { name := "carveKnown", fn := fun _ => fun
  | [] => { results := [.lit (.bool false)], args := [] }
  | _ => none }
def CarveKnownWrongFalsely : Prop := carveKnownRow.holds Try.pinned (OpenSpec.ofChange carveKnownWrong)

/-- 'reevelaw15.CarveRoom': WHATEVER THE INPUT: true; the input reads as it did. -/
def carveRoomSpec : ChangeSpec := { name := "carveRoom", fn := fun _ => fun
  | [d1, d2, d3] => { results := [.lit (.bool true)], args := [d1, d2, d3] }
  | _ => none }
def carveRoomRow : OpenClaim := { program := "ytipigjckoejfpaa", sum := "c88d367d85812aac37393e1dcd5c515faae5748aeb5428378d6c3bd04c41060f", func := "reeve/reevelaw15.CarveRoom", spec := "carveRoom", inPlace := ["internal/bytealg.IndexByteString", "internal/bytealg.IndexString"], unfollowed := true, recurses := true, named := ["internal/bytealg.MaxLen"], apart := false }
def CarveRoomSaid : Prop := carveRoomRow.holds Try.pinned (OpenSpec.ofChange carveRoomSpec)

/-- ITS FALSE NEIGHBOUR: 'it returns false'. Refute it at one input. -/
def carveRoomWrong : ChangeSpec := { name := "carveRoom", fn := fun _ => fun
  | [d1, d2, d3] => { results := [.lit (.bool false)], args := [d1, d2, d3] }
  | _ => none }
def CarveRoomWrongFalsely : Prop := carveRoomRow.holds Try.pinned (OpenSpec.ofChange carveRoomWrong)

/-- 'reevelaw16.GiveKnown': WHATEVER THE INPUT: true; the input reads as it did. -/
def giveKnownSpec : ChangeSpec := { name := "giveKnown", fn := fun _ => fun
  | [] => { results := [.lit (.bool true)], args := [] }
  | _ => none }
def giveKnownRow : OpenClaim := { program := "ytipigjckoejfpaa", sum := "c88d367d85812aac37393e1dcd5c515faae5748aeb5428378d6c3bd04c41060f", func := "reeve/reevelaw16.GiveKnown", spec := "giveKnown", inPlace := ["internal/bytealg.IndexByteString", "internal/bytealg.IndexString"], unfollowed := true, recurses := true, named := ["internal/bytealg.MaxLen"], apart := false }
def GiveKnownSaid : Prop := giveKnownRow.holds Try.pinned (OpenSpec.ofChange giveKnownSpec)

/-- ITS FALSE NEIGHBOUR: 'it returns false'. Refute it at one input. -/
def giveKnownWrong : ChangeSpec := { name := "giveKnown", fn := fun _ => fun
  | [] => { results := [.lit (.bool false)], args := [] }
  | _ => none }
def GiveKnownWrongFalsely : Prop := giveKnownRow.holds Try.pinned (OpenSpec.ofChange giveKnownWrong)

/-- 'reevelaw16.GiveBadges': WHATEVER THE INPUT: true; the input reads as it did. -/
def giveBadgesSpec : ChangeSpec := { name := "giveBadges", fn := fun _ => fun
  | [d1, d2, d3] => { results := [.lit (.bool true)], args := [d1, d2, d3] }
  | _ => none }
def giveBadgesRow : OpenClaim := { program := "ytipigjckoejfpaa", sum := "c88d367d85812aac37393e1dcd5c515faae5748aeb5428378d6c3bd04c41060f", func := "reeve/reevelaw16.GiveBadges", spec := "giveBadges", inPlace := ["internal/bytealg.IndexByteString", "internal/bytealg.IndexString"], unfollowed := true, recurses := true, named := ["internal/bytealg.MaxLen"], apart := false }
def GiveBadgesSaid : Prop := giveBadgesRow.holds Try.pinned (OpenSpec.ofChange giveBadgesSpec)

/-- ITS FALSE NEIGHBOUR: 'it returns false'. Refute it at one input. -/
def giveBadgesWrong : ChangeSpec := { name := "giveBadges", fn := fun _ => fun
  | [d1, d2, d3] => { results := [.lit (.bool false)], args := [d1, d2, d3] }
  | _ => none }
def GiveBadgesWrongFalsely : Prop := giveBadgesRow.holds Try.pinned (OpenSpec.ofChange giveBadgesWrong)

/-- 'reevelaw16.GiveMoves': WHATEVER THE INPUT: true; the input reads as it did. -/
def giveMovesSpec : ChangeSpec := { name := "giveMoves", fn := fun _ => fun
  | [d1, d2, d3, d4] => { results := [.lit (.bool true)], args := [d1, d2, d3, d4] }
  | _ => none }
def giveMovesRow : OpenClaim := { program := "ytipigjckoejfpaa", sum := "c88d367d85812aac37393e1dcd5c515faae5748aeb5428378d6c3bd04c41060f", func := "reeve/reevelaw16.GiveMoves", spec := "giveMoves", inPlace := ["internal/bytealg.IndexByteString", "internal/bytealg.IndexString"], unfollowed := true, recurses := true, named := ["internal/bytealg.MaxLen"], apart := false }
def GiveMovesSaid : Prop := giveMovesRow.holds Try.pinned (OpenSpec.ofChange giveMovesSpec)

/-- ITS FALSE NEIGHBOUR: 'it returns false'. Refute it at one input. -/
def giveMovesWrong : ChangeSpec := { name := "giveMoves", fn := fun _ => fun
  | [d1, d2, d3, d4] => { results := [.lit (.bool false)], args := [d1, d2, d3, d4] }
  | _ => none }
def GiveMovesWrongFalsely : Prop := giveMovesRow.holds Try.pinned (OpenSpec.ofChange giveMovesWrong)

/-- 'reevelaw16.GiveLess': WHATEVER THE INPUT: true; the input reads as it did. -/
def giveLessSpec : ChangeSpec := { name := "giveLess", fn := fun _ => fun
  | [d1, d2, d3] => { results := [.lit (.bool true)], args := [d1, d2, d3] }
  | _ => none }
def giveLessRow : OpenClaim := { program := "ytipigjckoejfpaa", sum := "c88d367d85812aac37393e1dcd5c515faae5748aeb5428378d6c3bd04c41060f", func := "reeve/reevelaw16.GiveLess", spec := "giveLess", inPlace := ["internal/bytealg.IndexByteString", "internal/bytealg.IndexString"], unfollowed := true, recurses := true, named := ["internal/bytealg.MaxLen"], apart := false }
def GiveLessSaid : Prop := giveLessRow.holds Try.pinned (OpenSpec.ofChange giveLessSpec)

/-- ITS FALSE NEIGHBOUR: 'it returns false'. Refute it at one input. -/
def giveLessWrong : ChangeSpec := { name := "giveLess", fn := fun _ => fun
  | [d1, d2, d3] => { results := [.lit (.bool false)], args := [d1, d2, d3] }
  | _ => none }
def GiveLessWrongFalsely : Prop := giveLessRow.holds Try.pinned (OpenSpec.ofChange giveLessWrong)

/-- 'reevelaw18.MailKnown': WHATEVER THE INPUT: true; the input reads as it did. -/
def mailKnownSpec : ChangeSpec := { name := "mailKnown", fn := fun _ => fun
  | [] => { results := [.lit (.bool true)], args := [] }
  | _ => none }
def mailKnownRow : OpenClaim := { program := "ytipigjckoejfpaa", sum := "c88d367d85812aac37393e1dcd5c515faae5748aeb5428378d6c3bd04c41060f", func := "reeve/reevelaw18.MailKnown", spec := "mailKnown", inPlace := ["internal/bytealg.IndexByteString", "internal/bytealg.IndexString"], unfollowed := true, recurses := true, named := ["internal/bytealg.MaxLen"], apart := false }
def MailKnownSaid : Prop := mailKnownRow.holds Try.pinned (OpenSpec.ofChange mailKnownSpec)

/-- ITS FALSE NEIGHBOUR: 'it returns false'. Refute it at one input. -/
def mailKnownWrong : ChangeSpec := { name := "mailKnown", fn := fun _ => fun
  | [] => { results := [.lit (.bool false)], args := [] }
  | _ => none }
def MailKnownWrongFalsely : Prop := mailKnownRow.holds Try.pinned (OpenSpec.ofChange mailKnownWrong)

/- THE SECOND FORM. 'bulk': how many values and letters a reading holds, each counted each time it is reached (what is shared counts as often as it is met; a slice's spare places count too). A statement '..UptoSaid' is the law's where the arguments, and the package variables that the reading takes, are together of bulk at most 1048576: NARROWER than '..Said'. Prove '..Said' where nothing that the law and all that it calls make is longer than what came in: it says more and counts as full. Else prove '..UptoSaid'. A law counts once. -/
mutual
def uptoBulk {H : Type} : DataW H → Nat
  | .lit (.string bytes) => bytes.length + 1
  | .lit _ => 1
  | .nil => 1
  | .ptr d => uptoBulk d + 1
  | .slice elems spare => uptoBulkAll elems + uptoBulkAll spare + 1
  | .agg parts => uptoBulkAll parts + 1
  | .iface _ d => uptoBulk d + 1
  | .map entries => uptoBulkEntries entries + 1
  | .held _ => 1
def uptoBulkAll {H : Type} : List (DataW H) → Nat
  | [] => 0
  | d :: r => uptoBulk d + uptoBulkAll r
def uptoBulkEntries {H : Type} : List (Lit × DataW H) → Nat
  | [] => 0
  | x :: r => uptoBulkEntry x + uptoBulkEntries r
def uptoBulkEntry {H : Type} : Lit × DataW H → Nat
  | (.string bytes, d) => bytes.length + uptoBulk d + 1
  | (_, d) => uptoBulk d + 1
 end
def uptoSmall : (H : Type) → List (DataW H) → Bool := fun _ ds => decide (uptoBulkAll ds ≤ 1048576)
def OpenSpec.upto (s : _root_.Go.ChangeSpec) : _root_.Go.OpenSpec := { _root_.Go.OpenSpec.ofChange s with cond := some uptoSmall }

/-- 'reevelaw18.MailRound', WHERE WHAT IT READS IS OF BULK AT MOST 1048576: true; the input reads as it did. -/
def mailRoundUptoRow : OpenClaim := { program := "ytipigjckoejfpaa", sum := "c88d367d85812aac37393e1dcd5c515faae5748aeb5428378d6c3bd04c41060f", func := "reeve/reevelaw18.MailRound", spec := "mailRound", inPlace := ["internal/bytealg.IndexByteString", "internal/bytealg.IndexString"], unfollowed := true, recurses := true, named := ["internal/bytealg.MaxLen"], apart := false, narrowed := true }
def MailRoundUptoSaid : Prop := mailRoundUptoRow.holds Try.pinned (OpenSpec.upto mailRoundSpec)

/-- 'reevelaw18.MailHands', WHERE WHAT IT READS IS OF BULK AT MOST 1048576: true; the input reads as it did. -/
def mailHandsUptoRow : OpenClaim := { program := "ytipigjckoejfpaa", sum := "c88d367d85812aac37393e1dcd5c515faae5748aeb5428378d6c3bd04c41060f", func := "reeve/reevelaw18.MailHands", spec := "mailHands", inPlace := ["internal/bytealg.IndexByteString", "internal/bytealg.IndexString"], unfollowed := true, recurses := true, named := ["internal/bytealg.MaxLen"], apart := false, narrowed := true }
def MailHandsUptoSaid : Prop := mailHandsUptoRow.holds Try.pinned (OpenSpec.upto mailHandsSpec)

/-- 'reevelaw15.CarveKnown', WHERE WHAT IT READS IS OF BULK AT MOST 1048576: true; the input reads as it did. -/
def carveKnownUptoRow : OpenClaim := { program := "ytipigjckoejfpaa", sum := "c88d367d85812aac37393e1dcd5c515faae5748aeb5428378d6c3bd04c41060f", func := "reeve/reevelaw15.CarveKnown", spec := "carveKnown", inPlace := ["internal/bytealg.IndexByteString", "internal/bytealg.IndexString"], unfollowed := true, recurses := true, named := ["internal/bytealg.MaxLen"], apart := false, narrowed := true }
def CarveKnownUptoSaid : Prop := carveKnownUptoRow.holds Try.pinned (OpenSpec.upto carveKnownSpec)

/-- 'reevelaw15.CarveRoom', WHERE WHAT IT READS IS OF BULK AT MOST 1048576: true; the input reads as it did. -/
def carveRoomUptoRow : OpenClaim := { program := "ytipigjckoejfpaa", sum := "c88d367d85812aac37393e1dcd5c515faae5748aeb5428378d6c3bd04c41060f", func := "reeve/reevelaw15.CarveRoom", spec := "carveRoom", inPlace := ["internal/bytealg.IndexByteString", "internal/bytealg.IndexString"], unfollowed := true, recurses := true, named := ["internal/bytealg.MaxLen"], apart := false, narrowed := true }
def CarveRoomUptoSaid : Prop := carveRoomUptoRow.holds Try.pinned (OpenSpec.upto carveRoomSpec)

/-- 'reevelaw16.GiveKnown', WHERE WHAT IT READS IS OF BULK AT MOST 1048576: true; the input reads as it did. -/
def giveKnownUptoRow : OpenClaim := { program := "ytipigjckoejfpaa", sum := "c88d367d85812aac37393e1dcd5c515faae5748aeb5428378d6c3bd04c41060f", func := "reeve/reevelaw16.GiveKnown", spec := "giveKnown", inPlace := ["internal/bytealg.IndexByteString", "internal/bytealg.IndexString"], unfollowed := true, recurses := true, named := ["internal/bytealg.MaxLen"], apart := false, narrowed := true }
def GiveKnownUptoSaid : Prop := giveKnownUptoRow.holds Try.pinned (OpenSpec.upto giveKnownSpec)

/-- 'reevelaw16.GiveBadges', WHERE WHAT IT READS IS OF BULK AT MOST 1048576: true; the input reads as it did. -/
def giveBadgesUptoRow : OpenClaim := { program := "ytipigjckoejfpaa", sum := "c88d367d85812aac37393e1dcd5c515faae5748aeb5428378d6c3bd04c41060f", func := "reeve/reevelaw16.GiveBadges", spec := "giveBadges", inPlace := ["internal/bytealg.IndexByteString", "internal/bytealg.IndexString"], unfollowed := true, recurses := true, named := ["internal/bytealg.MaxLen"], apart := false, narrowed := true }
def GiveBadgesUptoSaid : Prop := giveBadgesUptoRow.holds Try.pinned (OpenSpec.upto giveBadgesSpec)

/-- 'reevelaw16.GiveMoves', WHERE WHAT IT READS IS OF BULK AT MOST 1048576: true; the input reads as it did. -/
def giveMovesUptoRow : OpenClaim := { program := "ytipigjckoejfpaa", sum := "c88d367d85812aac37393e1dcd5c515faae5748aeb5428378d6c3bd04c41060f", func := "reeve/reevelaw16.GiveMoves", spec := "giveMoves", inPlace := ["internal/bytealg.IndexByteString", "internal/bytealg.IndexString"], unfollowed := true, recurses := true, named := ["internal/bytealg.MaxLen"], apart := false, narrowed := true }
def GiveMovesUptoSaid : Prop := giveMovesUptoRow.holds Try.pinned (OpenSpec.upto giveMovesSpec)

/-- 'reevelaw16.GiveLess', WHERE WHAT IT READS IS OF BULK AT MOST 1048576: true; the input reads as it did. -/
def giveLessUptoRow : OpenClaim := { program := "ytipigjckoejfpaa", sum := "c88d367d85812aac37393e1dcd5c515faae5748aeb5428378d6c3bd04c41060f", func := "reeve/reevelaw16.GiveLess", spec := "giveLess", inPlace := ["internal/bytealg.IndexByteString", "internal/bytealg.IndexString"], unfollowed := true, recurses := true, named := ["internal/bytealg.MaxLen"], apart := false, narrowed := true }
def GiveLessUptoSaid : Prop := giveLessUptoRow.holds Try.pinned (OpenSpec.upto giveLessSpec)

/-- 'reevelaw18.MailKnown', WHERE WHAT IT READS IS OF BULK AT MOST 1048576: true; the input reads as it did. -/
def mailKnownUptoRow : OpenClaim := { program := "ytipigjckoejfpaa", sum := "c88d367d85812aac37393e1dcd5c515faae5748aeb5428378d6c3bd04c41060f", func := "reeve/reevelaw18.MailKnown", spec := "mailKnown", inPlace := ["internal/bytealg.IndexByteString", "internal/bytealg.IndexString"], unfollowed := true, recurses := true, named := ["internal/bytealg.MaxLen"], apart := false, narrowed := true }
def MailKnownUptoSaid : Prop := mailKnownUptoRow.holds Try.pinned (OpenSpec.upto mailKnownSpec)

end Rows
end Go.Proofs.Ytipigjckoejfpaa

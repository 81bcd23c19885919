/-
  No cell of these rows narrows 'for every input' (looked for: loops, veiled, ifaces, maps, wideKeys, modest, calm, conditions, laid).
  DERIVED. THE GIVEN ROWS OF THIS SEAT. 21 by the template 'for every input the law returns true; each argument reads behind the call as it read before'; 0 by the template 'total and deterministic' (their statements: YtipigjckoejfpaaGreatTotals.lean).
  GIVEN WITH THE SEED: the statements are not yours to turn. If you find one false, say at which input.
  Laid BY PROGRAM, IN A SANDBOX (cutbox-rows.mjs): the forced cells as the released guide's own fill.sh prints them over the translation 8edb8e364d3cff2e… (all of the seat's roots in one cut). By AI agents, Wed Nov 11 2026. No macro, syntax, notation, axiom, sorry.
-/
import Derived.Test.YtipigjckoejfpaaGreatChecked
import GoSem.Claim
import GoSem.ClaimJoined
import GoSem.ClaimMapViews
import Derived.JoinedTies
import Derived.KernelRfl
namespace Go.Proofs.YtipigjckoejfpaaGreat
/- THE CELL 'sum', in the pinned program and in every row, IS THE sha256 OF THE DUMP (.gsa) THAT YtipigjckoejfpaaGreatProg.lean LOADS. Nothing in Lean hashes anything: it is a label: what it is worth is what the hold of that sum in a sandbox is worth. -/
noncomputable def Tryz.pinned : Pinned := { name := "ytipigjckoejfpaagreat", sum := "8edb8e364d3cff2ef7742ed3662e1d7bd3c2c67db95f91fb91f4bd2fd310ea73", checked := Tryz.checked }
namespace Rows
def none {H : Type} : Left H := { results := [], args := [] }

/-- 'reevelaw18.MailSays': WHATEVER THE INPUT: true; the input reads as it did. -/
def mailSaysSpec : ChangeSpec := { name := "mailSays", fn := fun _ => fun
  | [d1, d2, d3] => { results := [.lit (.bool true)], args := [d1, d2, d3] }
  | _ => none }
def mailSaysRow : OpenClaim := { program := "ytipigjckoejfpaagreat", sum := "8edb8e364d3cff2ef7742ed3662e1d7bd3c2c67db95f91fb91f4bd2fd310ea73", func := "reeve/reevelaw18.MailSays", spec := "mailSays", inPlace := ["internal/bytealg.IndexByteString", "internal/bytealg.IndexString"], unfollowed := true, recurses := true, named := ["internal/bytealg.MaxLen"], apart := false }
def MailSaysSaid : Prop := mailSaysRow.holds Tryz.pinned (OpenSpec.ofChange mailSaysSpec)

/-- ITS FALSE NEIGHBOUR: 'it returns false'. Refute it at one input. -/
def mailSaysWrong : ChangeSpec := { name := "mailSays", fn := fun _ => fun
  | [d1, d2, d3] => { results := [.lit (.bool false)], args := [d1, d2, d3] }
  | _ => none }
def MailSaysWrongFalsely : Prop := mailSaysRow.holds Tryz.pinned (OpenSpec.ofChange mailSaysWrong)

/-- 'reevelaw15.CarveSays': WHATEVER THE INPUT: true; the input reads as it did. -/
def carveSaysSpec : ChangeSpec := { name := "carveSays", fn := fun _ => fun
  | [d1, d2, d3] => { results := [.lit (.bool true)], args := [d1, d2, d3] }
  | _ => none }
def carveSaysRow : OpenClaim := { program := "ytipigjckoejfpaagreat", sum := "8edb8e364d3cff2ef7742ed3662e1d7bd3c2c67db95f91fb91f4bd2fd310ea73", func := "reeve/reevelaw15.CarveSays", spec := "carveSays", inPlace := ["internal/bytealg.IndexByteString", "internal/bytealg.IndexString"], unfollowed := true, recurses := true, named := ["internal/bytealg.MaxLen"], apart := false }
def CarveSaysSaid : Prop := carveSaysRow.holds Tryz.pinned (OpenSpec.ofChange carveSaysSpec)

/-- ITS FALSE NEIGHBOUR: 'it returns false'. Refute it at one input. -/
def carveSaysWrong : ChangeSpec := { name := "carveSays", fn := fun _ => fun
  | [d1, d2, d3] => { results := [.lit (.bool false)], args := [d1, d2, d3] }
  | _ => none }
def CarveSaysWrongFalsely : Prop := carveSaysRow.holds Tryz.pinned (OpenSpec.ofChange carveSaysWrong)

/-- 'reevelaw16.GiveSays': WHATEVER THE INPUT: true; the input reads as it did. -/
def giveSaysSpec : ChangeSpec := { name := "giveSays", fn := fun _ => fun
  | [d1, d2, d3] => { results := [.lit (.bool true)], args := [d1, d2, d3] }
  | _ => none }
def giveSaysRow : OpenClaim := { program := "ytipigjckoejfpaagreat", sum := "8edb8e364d3cff2ef7742ed3662e1d7bd3c2c67db95f91fb91f4bd2fd310ea73", func := "reeve/reevelaw16.GiveSays", spec := "giveSays", inPlace := ["internal/bytealg.IndexByteString", "internal/bytealg.IndexString"], unfollowed := true, recurses := true, named := ["internal/bytealg.MaxLen"], apart := false }
def GiveSaysSaid : Prop := giveSaysRow.holds Tryz.pinned (OpenSpec.ofChange giveSaysSpec)

/-- ITS FALSE NEIGHBOUR: 'it returns false'. Refute it at one input. -/
def giveSaysWrong : ChangeSpec := { name := "giveSays", fn := fun _ => fun
  | [d1, d2, d3] => { results := [.lit (.bool false)], args := [d1, d2, d3] }
  | _ => none }
def GiveSaysWrongFalsely : Prop := giveSaysRow.holds Tryz.pinned (OpenSpec.ofChange giveSaysWrong)

/-- 'reevelaw19.BellKnown': WHATEVER THE INPUT: true; the input reads as it did. -/
def bellKnownSpec : ChangeSpec := { name := "bellKnown", fn := fun _ => fun
  | [] => { results := [.lit (.bool true)], args := [] }
  | _ => none }
def bellKnownRow : OpenClaim := { program := "ytipigjckoejfpaagreat", sum := "8edb8e364d3cff2ef7742ed3662e1d7bd3c2c67db95f91fb91f4bd2fd310ea73", func := "reeve/reevelaw19.BellKnown", spec := "bellKnown", inPlace := ["internal/bytealg.IndexByteString", "internal/bytealg.IndexString"], unfollowed := true, recurses := true, named := ["internal/bytealg.MaxLen"], apart := false }
def BellKnownSaid : Prop := bellKnownRow.holds Tryz.pinned (OpenSpec.ofChange bellKnownSpec)

/-- ITS FALSE NEIGHBOUR: 'it returns false'. Refute it at one input. -/
def bellKnownWrong : ChangeSpec := { name := "bellKnown", fn := fun _ => fun
  | [] => { results := [.lit (.bool false)], args := [] }
  | _ => none }
def BellKnownWrongFalsely : Prop := bellKnownRow.holds Tryz.pinned (OpenSpec.ofChange bellKnownWrong)

/-- 'reevelaw19.BellSays': WHATEVER THE INPUT: true; the input reads as it did. -/
def bellSaysSpec : ChangeSpec := { name := "bellSays", fn := fun _ => fun
  | [d1, d2, d3] => { results := [.lit (.bool true)], args := [d1, d2, d3] }
  | _ => none }
def bellSaysRow : OpenClaim := { program := "ytipigjckoejfpaagreat", sum := "8edb8e364d3cff2ef7742ed3662e1d7bd3c2c67db95f91fb91f4bd2fd310ea73", func := "reeve/reevelaw19.BellSays", spec := "bellSays", inPlace := ["internal/bytealg.IndexByteString", "internal/bytealg.IndexString"], unfollowed := true, recurses := true, named := ["internal/bytealg.MaxLen"], apart := false }
def BellSaysSaid : Prop := bellSaysRow.holds Tryz.pinned (OpenSpec.ofChange bellSaysSpec)

/-- ITS FALSE NEIGHBOUR: 'it returns false'. Refute it at one input. -/
def bellSaysWrong : ChangeSpec := { name := "bellSays", fn := fun _ => fun
  | [d1, d2, d3] => { results := [.lit (.bool false)], args := [d1, d2, d3] }
  | _ => none }
def BellSaysWrongFalsely : Prop := bellSaysRow.holds Tryz.pinned (OpenSpec.ofChange bellSaysWrong)

/-- 'reevelaw19.BellOften': WHATEVER THE INPUT: true; the input reads as it did. -/
def bellOftenSpec : ChangeSpec := { name := "bellOften", fn := fun _ => fun
  | [d1, d2, d3, d4] => { results := [.lit (.bool true)], args := [d1, d2, d3, d4] }
  | _ => none }
def bellOftenRow : OpenClaim := { program := "ytipigjckoejfpaagreat", sum := "8edb8e364d3cff2ef7742ed3662e1d7bd3c2c67db95f91fb91f4bd2fd310ea73", func := "reeve/reevelaw19.BellOften", spec := "bellOften", inPlace := ["internal/bytealg.IndexByteString", "internal/bytealg.IndexString"], unfollowed := true, recurses := true, named := ["internal/bytealg.MaxLen"], apart := false }
def BellOftenSaid : Prop := bellOftenRow.holds Tryz.pinned (OpenSpec.ofChange bellOftenSpec)

/-- ITS FALSE NEIGHBOUR: 'it returns false'. Refute it at one input. -/
def bellOftenWrong : ChangeSpec := { name := "bellOften", fn := fun _ => fun
  | [d1, d2, d3, d4] => { results := [.lit (.bool false)], args := [d1, d2, d3, d4] }
  | _ => none }
def BellOftenWrongFalsely : Prop := bellOftenRow.holds Tryz.pinned (OpenSpec.ofChange bellOftenWrong)

/-- 'reevelaw20.LeafKnown': WHATEVER THE INPUT: true; the input reads as it did. -/
def leafKnownSpec : ChangeSpec := { name := "leafKnown", fn := fun _ => fun
  | [] => { results := [.lit (.bool true)], args := [] }
  | _ => none }
def leafKnownRow : OpenClaim := { program := "ytipigjckoejfpaagreat", sum := "8edb8e364d3cff2ef7742ed3662e1d7bd3c2c67db95f91fb91f4bd2fd310ea73", func := "reeve/reevelaw20.LeafKnown", spec := "leafKnown", inPlace := ["internal/bytealg.IndexByteString", "internal/bytealg.IndexString"], unfollowed := true, recurses := true, named := ["internal/bytealg.MaxLen"], apart := false }
def LeafKnownSaid : Prop := leafKnownRow.holds Tryz.pinned (OpenSpec.ofChange leafKnownSpec)

/-- ITS FALSE NEIGHBOUR: 'it returns false'. Refute it at one input. -/
def leafKnownWrong : ChangeSpec := { name := "leafKnown", fn := fun _ => fun
  | [] => { results := [.lit (.bool false)], args := [] }
  | _ => none }
def LeafKnownWrongFalsely : Prop := leafKnownRow.holds Tryz.pinned (OpenSpec.ofChange leafKnownWrong)

/-- 'reevelaw20.LeafSays': WHATEVER THE INPUT: true; the input reads as it did. -/
def leafSaysSpec : ChangeSpec := { name := "leafSays", fn := fun _ => fun
  | [d1, d2, d3] => { results := [.lit (.bool true)], args := [d1, d2, d3] }
  | _ => none }
def leafSaysRow : OpenClaim := { program := "ytipigjckoejfpaagreat", sum := "8edb8e364d3cff2ef7742ed3662e1d7bd3c2c67db95f91fb91f4bd2fd310ea73", func := "reeve/reevelaw20.LeafSays", spec := "leafSays", inPlace := ["internal/bytealg.IndexByteString", "internal/bytealg.IndexString"], unfollowed := true, recurses := true, named := ["internal/bytealg.MaxLen"], apart := false }
def LeafSaysSaid : Prop := leafSaysRow.holds Tryz.pinned (OpenSpec.ofChange leafSaysSpec)

/-- ITS FALSE NEIGHBOUR: 'it returns false'. Refute it at one input. -/
def leafSaysWrong : ChangeSpec := { name := "leafSays", fn := fun _ => fun
  | [d1, d2, d3] => { results := [.lit (.bool false)], args := [d1, d2, d3] }
  | _ => none }
def LeafSaysWrongFalsely : Prop := leafSaysRow.holds Tryz.pinned (OpenSpec.ofChange leafSaysWrong)

/-- 'reevelaw20.LeafKeeps': WHATEVER THE INPUT: true; the input reads as it did. -/
def leafKeepsSpec : ChangeSpec := { name := "leafKeeps", fn := fun _ => fun
  | [d1, d2, d3, d4, d5] => { results := [.lit (.bool true)], args := [d1, d2, d3, d4, d5] }
  | _ => none }
def leafKeepsRow : OpenClaim := { program := "ytipigjckoejfpaagreat", sum := "8edb8e364d3cff2ef7742ed3662e1d7bd3c2c67db95f91fb91f4bd2fd310ea73", func := "reeve/reevelaw20.LeafKeeps", spec := "leafKeeps", inPlace := ["internal/bytealg.IndexByteString", "internal/bytealg.IndexString"], unfollowed := true, recurses := true, named := ["internal/bytealg.MaxLen"], apart := false }
def LeafKeepsSaid : Prop := leafKeepsRow.holds Tryz.pinned (OpenSpec.ofChange leafKeepsSpec)

/-- ITS FALSE NEIGHBOUR: 'it returns false'. Refute it at one input. -/
def leafKeepsWrong : ChangeSpec := { name := "leafKeeps", fn := fun _ => fun
  | [d1, d2, d3, d4, d5] => { results := [.lit (.bool false)], args := [d1, d2, d3, d4, d5] }
  | _ => none }
def LeafKeepsWrongFalsely : Prop := leafKeepsRow.holds Tryz.pinned (OpenSpec.ofChange leafKeepsWrong)

/-- 'reevelaw20.LeafTells': WHATEVER THE INPUT: true; the input reads as it did. -/
def leafTellsSpec : ChangeSpec := { name := "leafTells", fn := fun _ => fun
  | [d1, d2, d3] => { results := [.lit (.bool true)], args := [d1, d2, d3] }
  | _ => none }
def leafTellsRow : OpenClaim := { program := "ytipigjckoejfpaagreat", sum := "8edb8e364d3cff2ef7742ed3662e1d7bd3c2c67db95f91fb91f4bd2fd310ea73", func := "reeve/reevelaw20.LeafTells", spec := "leafTells", inPlace := ["internal/bytealg.IndexByteString", "internal/bytealg.IndexString"], unfollowed := true, recurses := true, named := ["internal/bytealg.MaxLen"], apart := false }
def LeafTellsSaid : Prop := leafTellsRow.holds Tryz.pinned (OpenSpec.ofChange leafTellsSpec)

/-- ITS FALSE NEIGHBOUR: 'it returns false'. Refute it at one input. -/
def leafTellsWrong : ChangeSpec := { name := "leafTells", fn := fun _ => fun
  | [d1, d2, d3] => { results := [.lit (.bool false)], args := [d1, d2, d3] }
  | _ => none }
def LeafTellsWrongFalsely : Prop := leafTellsRow.holds Tryz.pinned (OpenSpec.ofChange leafTellsWrong)

/-- 'reevelaw17.TakeAll': WHATEVER THE INPUT: true; the input reads as it did. -/
def takeAllSpec : ChangeSpec := { name := "takeAll", fn := fun _ => fun
  | [d] => { results := [.lit (.bool true)], args := [d] }
  | _ => none }
def takeAllRow : OpenClaim := { program := "ytipigjckoejfpaagreat", sum := "8edb8e364d3cff2ef7742ed3662e1d7bd3c2c67db95f91fb91f4bd2fd310ea73", func := "reeve/reevelaw17.TakeAll", spec := "takeAll", inPlace := ["internal/bytealg.IndexByteString", "internal/bytealg.IndexString"], unfollowed := true, recurses := true, named := ["internal/bytealg.MaxLen"], apart := false }
def TakeAllSaid : Prop := takeAllRow.holds Tryz.pinned (OpenSpec.ofChange takeAllSpec)

/-- ITS FALSE NEIGHBOUR: 'it returns false'. Refute it at one input. -/
def takeAllWrong : ChangeSpec := { name := "takeAll", fn := fun _ => fun
  | [d] => { results := [.lit (.bool false)], args := [d] }
  | _ => none }
def TakeAllWrongFalsely : Prop := takeAllRow.holds Tryz.pinned (OpenSpec.ofChange takeAllWrong)

/-- 'reevelaw17.TakeCopies': WHATEVER THE INPUT: true; the input reads as it did. -/
def takeCopiesSpec : ChangeSpec := { name := "takeCopies", fn := fun _ => fun
  | [d1, d2, d3, d4, d5] => { results := [.lit (.bool true)], args := [d1, d2, d3, d4, d5] }
  | _ => none }
def takeCopiesRow : OpenClaim := { program := "ytipigjckoejfpaagreat", sum := "8edb8e364d3cff2ef7742ed3662e1d7bd3c2c67db95f91fb91f4bd2fd310ea73", func := "reeve/reevelaw17.TakeCopies", spec := "takeCopies", inPlace := ["internal/bytealg.IndexByteString", "internal/bytealg.IndexString"], unfollowed := true, recurses := true, named := ["internal/bytealg.MaxLen"], apart := false }
def TakeCopiesSaid : Prop := takeCopiesRow.holds Tryz.pinned (OpenSpec.ofChange takeCopiesSpec)

/-- ITS FALSE NEIGHBOUR: 'it returns false'. Refute it at one input. -/
def takeCopiesWrong : ChangeSpec := { name := "takeCopies", fn := fun _ => fun
  | [d1, d2, d3, d4, d5] => { results := [.lit (.bool false)], args := [d1, d2, d3, d4, d5] }
  | _ => none }
def TakeCopiesWrongFalsely : Prop := takeCopiesRow.holds Tryz.pinned (OpenSpec.ofChange takeCopiesWrong)

/-- 'reevelaw18.MailLost': WHATEVER THE INPUT: true; the input reads as it did. -/
def mailLostSpec : ChangeSpec := { name := "mailLost", fn := fun _ => fun
  | [d1, d2] => { results := [.lit (.bool true)], args := [d1, d2] }
  | _ => none }
def mailLostRow : OpenClaim := { program := "ytipigjckoejfpaagreat", sum := "8edb8e364d3cff2ef7742ed3662e1d7bd3c2c67db95f91fb91f4bd2fd310ea73", func := "reeve/reevelaw18.MailLost", spec := "mailLost", inPlace := ["internal/bytealg.IndexByteString", "internal/bytealg.IndexString"], unfollowed := true, recurses := true, named := ["internal/bytealg.MaxLen"], apart := false }
def MailLostSaid : Prop := mailLostRow.holds Tryz.pinned (OpenSpec.ofChange mailLostSpec)

/-- ITS FALSE NEIGHBOUR: 'it returns false'. Refute it at one input. -/
def mailLostWrong : ChangeSpec := { name := "mailLost", fn := fun _ => fun
  | [d1, d2] => { results := [.lit (.bool false)], args := [d1, d2] }
  | _ => none }
def MailLostWrongFalsely : Prop := mailLostRow.holds Tryz.pinned (OpenSpec.ofChange mailLostWrong)

/-- 'reevelaw17.TakeKnown': WHATEVER THE INPUT: true; the input reads as it did. -/
def takeKnownSpec : ChangeSpec := { name := "takeKnown", fn := fun _ => fun
  | [] => { results := [.lit (.bool true)], args := [] }
  | _ => none }
def takeKnownRow : OpenClaim := { program := "ytipigjckoejfpaagreat", sum := "8edb8e364d3cff2ef7742ed3662e1d7bd3c2c67db95f91fb91f4bd2fd310ea73", func := "reeve/reevelaw17.TakeKnown", spec := "takeKnown", inPlace := ["internal/bytealg.IndexByteString", "internal/bytealg.IndexString"], unfollowed := true, recurses := true, named := ["internal/bytealg.MaxLen"], apart := false }
def TakeKnownSaid : Prop := takeKnownRow.holds Tryz.pinned (OpenSpec.ofChange takeKnownSpec)

/-- ITS FALSE NEIGHBOUR: 'it returns false'. Refute it at one input. -/
def takeKnownWrong : ChangeSpec := { name := "takeKnown", fn := fun _ => fun
  | [] => { results := [.lit (.bool false)], args := [] }
  | _ => none }
def TakeKnownWrongFalsely : Prop := takeKnownRow.holds Tryz.pinned (OpenSpec.ofChange takeKnownWrong)

/-- 'reevelaw21.RuleRevokes': WHATEVER THE INPUT: true; the input reads as it did. -/
def ruleRevokesSpec : ChangeSpec := { name := "ruleRevokes", fn := fun _ => fun
  | [d1, d2, d3] => { results := [.lit (.bool true)], args := [d1, d2, d3] }
  | _ => none }
def ruleRevokesRow : OpenClaim := { program := "ytipigjckoejfpaagreat", sum := "8edb8e364d3cff2ef7742ed3662e1d7bd3c2c67db95f91fb91f4bd2fd310ea73", func := "reeve/reevelaw21.RuleRevokes", spec := "ruleRevokes", inPlace := ["internal/bytealg.IndexByteString", "internal/bytealg.IndexString"], unfollowed := true, recurses := true, named := ["internal/bytealg.MaxLen"], apart := false }
def RuleRevokesSaid : Prop := ruleRevokesRow.holds Tryz.pinned (OpenSpec.ofChange ruleRevokesSpec)

/-- ITS FALSE NEIGHBOUR: 'it returns false'. Refute it at one input. -/
def ruleRevokesWrong : ChangeSpec := { name := "ruleRevokes", fn := fun _ => fun
  | [d1, d2, d3] => { results := [.lit (.bool false)], args := [d1, d2, d3] }
  | _ => none }
def RuleRevokesWrongFalsely : Prop := ruleRevokesRow.holds Tryz.pinned (OpenSpec.ofChange ruleRevokesWrong)

/-- 'reevelaw21.RuleApart': WHATEVER THE INPUT: true; the input reads as it did. -/
def ruleApartSpec : ChangeSpec := { name := "ruleApart", fn := fun _ => fun
  | [d1, d2, d3, d4] => { results := [.lit (.bool true)], args := [d1, d2, d3, d4] }
  | _ => none }
def ruleApartRow : OpenClaim := { program := "ytipigjckoejfpaagreat", sum := "8edb8e364d3cff2ef7742ed3662e1d7bd3c2c67db95f91fb91f4bd2fd310ea73", func := "reeve/reevelaw21.RuleApart", spec := "ruleApart", inPlace := ["internal/bytealg.IndexByteString", "internal/bytealg.IndexString"], unfollowed := true, recurses := true, named := ["internal/bytealg.MaxLen"], apart := false }
def RuleApartSaid : Prop := ruleApartRow.holds Tryz.pinned (OpenSpec.ofChange ruleApartSpec)

/-- ITS FALSE NEIGHBOUR: 'it returns false'. Refute it at one input. -/
def ruleApartWrong : ChangeSpec := { name := "ruleApart", fn := fun _ => fun
  | [d1, d2, d3, d4] => { results := [.lit (.bool false)], args := [d1, d2, d3, d4] }
  | _ => none }
def RuleApartWrongFalsely : Prop := ruleApartRow.holds Tryz.pinned (OpenSpec.ofChange ruleApartWrong)

/-- 'reevelaw21.RuleWords': WHATEVER THE INPUT: true; the input reads as it did. -/
def ruleWordsSpec : ChangeSpec := { name := "ruleWords", fn := fun _ => fun
  | [d1, d2, d3] => { results := [.lit (.bool true)], args := [d1, d2, d3] }
  | _ => none }
def ruleWordsRow : OpenClaim := { program := "ytipigjckoejfpaagreat", sum := "8edb8e364d3cff2ef7742ed3662e1d7bd3c2c67db95f91fb91f4bd2fd310ea73", func := "reeve/reevelaw21.RuleWords", spec := "ruleWords", inPlace := ["internal/bytealg.IndexByteString", "internal/bytealg.IndexString"], unfollowed := true, recurses := true, named := ["internal/bytealg.MaxLen"], apart := false }
def RuleWordsSaid : Prop := ruleWordsRow.holds Tryz.pinned (OpenSpec.ofChange ruleWordsSpec)

/-- ITS FALSE NEIGHBOUR: 'it returns false'. Refute it at one input. -/
def ruleWordsWrong : ChangeSpec := { name := "ruleWords", fn := fun _ => fun
  | [d1, d2, d3] => { results := [.lit (.bool false)], args := [d1, d2, d3] }
  | _ => none }
def RuleWordsWrongFalsely : Prop := ruleWordsRow.holds Tryz.pinned (OpenSpec.ofChange ruleWordsWrong)

/-- 'reevelaw21.RuleOthers': WHATEVER THE INPUT: true; the input reads as it did. -/
def ruleOthersSpec : ChangeSpec := { name := "ruleOthers", fn := fun _ => fun
  | [d] => { results := [.lit (.bool true)], args := [d] }
  | _ => none }
def ruleOthersRow : OpenClaim := { program := "ytipigjckoejfpaagreat", sum := "8edb8e364d3cff2ef7742ed3662e1d7bd3c2c67db95f91fb91f4bd2fd310ea73", func := "reeve/reevelaw21.RuleOthers", spec := "ruleOthers", inPlace := ["internal/bytealg.IndexByteString", "internal/bytealg.IndexString"], unfollowed := true, recurses := true, named := ["internal/bytealg.MaxLen"], apart := false }
def RuleOthersSaid : Prop := ruleOthersRow.holds Tryz.pinned (OpenSpec.ofChange ruleOthersSpec)

/-- ITS FALSE NEIGHBOUR: 'it returns false'. Refute it at one input. -/
def ruleOthersWrong : ChangeSpec := { name := "ruleOthers", fn := fun _ => fun
  | [d] => { results := [.lit (.bool false)], args := [d] }
  | _ => none }
def RuleOthersWrongFalsely : Prop := ruleOthersRow.holds Tryz.pinned (OpenSpec.ofChange ruleOthersWrong)

/-- 'reevelaw21.RuleKnown': WHATEVER THE INPUT: true; the input reads as it did. -/
def ruleKnownSpec : ChangeSpec := { name := "ruleKnown", fn := fun _ => fun
  | [] => { results := [.lit (.bool true)], args := [] }
  | _ => none }
def ruleKnownRow : OpenClaim := { program := "ytipigjckoejfpaagreat", sum := "8edb8e364d3cff2ef7742ed3662e1d7bd3c2c67db95f91fb91f4bd2fd310ea73", func := "reeve/reevelaw21.RuleKnown", spec := "ruleKnown", inPlace := ["internal/bytealg.IndexByteString", "internal/bytealg.IndexString"], unfollowed := true, recurses := true, named := ["internal/bytealg.MaxLen"], apart := false }
def RuleKnownSaid : Prop := ruleKnownRow.holds Tryz.pinned (OpenSpec.ofChange ruleKnownSpec)

/-- ITS FALSE NEIGHBOUR: 'it returns false'. Refute it at one input. -/
def ruleKnownWrong : ChangeSpec := { name := "ruleKnown", fn := fun _ => fun
  | [] => { results := [.lit (.bool false)], args := [] }
  | _ => none }
def RuleKnownWrongFalsely : Prop := ruleKnownRow.holds Tryz.pinned (OpenSpec.ofChange ruleKnownWrong)

/-- 'reevelaw21.RulePlays': WHATEVER THE INPUT: true; the input reads as it did. -/
def rulePlaysSpec : ChangeSpec := { name := "rulePlays", fn := fun _ => fun
  | [d1, d2, d3] => { results := [.lit (.bool true)], args := [d1, d2, d3] }
  | _ => none }
def rulePlaysRow : OpenClaim := { program := "ytipigjckoejfpaagreat", sum := "8edb8e364d3cff2ef7742ed3662e1d7bd3c2c67db95f91fb91f4bd2fd310ea73", func := "reeve/reevelaw21.RulePlays", spec := "rulePlays", inPlace := ["internal/bytealg.IndexByteString", "internal/bytealg.IndexString"], unfollowed := true, recurses := true, named := ["internal/bytealg.MaxLen"], apart := false }
def RulePlaysSaid : Prop := rulePlaysRow.holds Tryz.pinned (OpenSpec.ofChange rulePlaysSpec)

/-- ITS FALSE NEIGHBOUR: 'it returns false'. Refute it at one input. -/
def rulePlaysWrong : ChangeSpec := { name := "rulePlays", fn := fun _ => fun
  | [d1, d2, d3] => { results := [.lit (.bool false)], args := [d1, d2, d3] }
  | _ => none }
def RulePlaysWrongFalsely : Prop := rulePlaysRow.holds Tryz.pinned (OpenSpec.ofChange rulePlaysWrong)

/-- 'reevelaw21.RuleGrows': WHATEVER THE INPUT: true; the input reads as it did. -/
def ruleGrowsSpec : ChangeSpec := { name := "ruleGrows", fn := fun _ => fun
  | [d1, d2, d3] => { results := [.lit (.bool true)], args := [d1, d2, d3] }
  | _ => none }
def ruleGrowsRow : OpenClaim := { program := "ytipigjckoejfpaagreat", sum := "8edb8e364d3cff2ef7742ed3662e1d7bd3c2c67db95f91fb91f4bd2fd310ea73", func := "reeve/reevelaw21.RuleGrows", spec := "ruleGrows", inPlace := ["internal/bytealg.IndexByteString", "internal/bytealg.IndexString"], unfollowed := true, recurses := true, named := ["internal/bytealg.MaxLen"], apart := false }
def RuleGrowsSaid : Prop := ruleGrowsRow.holds Tryz.pinned (OpenSpec.ofChange ruleGrowsSpec)

/-- ITS FALSE NEIGHBOUR: 'it returns false'. Refute it at one input. -/
def ruleGrowsWrong : ChangeSpec := { name := "ruleGrows", fn := fun _ => fun
  | [d1, d2, d3] => { results := [.lit (.bool false)], args := [d1, d2, d3] }
  | _ => none }
def RuleGrowsWrongFalsely : Prop := ruleGrowsRow.holds Tryz.pinned (OpenSpec.ofChange ruleGrowsWrong)

/- THE SECOND FORM. 'bulk': how many values and letters a reading holds, each counted each time it is reached (what is shared counts as often as it is met; a slice's spare places count too). A statement '..UptoSaid' is the law's where the arguments, and the package variables that the reading takes, are together of bulk at most 1048576: NARROWER than '..Said'. Prove '..Said' where nothing that the law and all that it calls make is longer than what came in: it says more and counts as full. Else prove '..UptoSaid'. A law counts once. -/
mutual
def uptoBulk {H : Type} : DataW H → Nat
  | .lit (.string bytes) => bytes.length + 1
  | .lit _ => 1
  | .nil => 1
  | .ptr d => uptoBulk d + 1
  | .slice elems spare => uptoBulkAll elems + uptoBulkAll spare + 1
  | .agg parts => uptoBulkAll parts + 1
  | .iface _ d => uptoBulk d + 1
  | .map entries => uptoBulkEntries entries + 1
  | .held _ => 1
def uptoBulkAll {H : Type} : List (DataW H) → Nat
  | [] => 0
  | d :: r => uptoBulk d + uptoBulkAll r
def uptoBulkEntries {H : Type} : List (Lit × DataW H) → Nat
  | [] => 0
  | x :: r => uptoBulkEntry x + uptoBulkEntries r
def uptoBulkEntry {H : Type} : Lit × DataW H → Nat
  | (.string bytes, d) => bytes.length + uptoBulk d + 1
  | (_, d) => uptoBulk d + 1
 end
def uptoSmall : (H : Type) → List (DataW H) → Bool := fun _ ds => decide (uptoBulkAll ds ≤ 1048576)
def OpenSpec.upto (s : _root_.Go.ChangeSpec) : _root_.Go.OpenSpec := { _root_.Go.OpenSpec.ofChange s with cond := some uptoSmall }

/-- 'reevelaw18.MailSays', WHERE WHAT IT READS IS OF BULK AT MOST 1048576: true; the input reads as it did. -/
def mailSaysUptoRow : OpenClaim := { program := "ytipigjckoejfpaagreat", sum := "8edb8e364d3cff2ef7742ed3662e1d7bd3c2c67db95f91fb91f4bd2fd310ea73", func := "reeve/reevelaw18.MailSays", spec := "mailSays", inPlace := ["internal/bytealg.IndexByteString", "internal/bytealg.IndexString"], unfollowed := true, recurses := true, named := ["internal/bytealg.MaxLen"], apart := false, narrowed := true }
def MailSaysUptoSaid : Prop := mailSaysUptoRow.holds Tryz.pinned (OpenSpec.upto mailSaysSpec)

/-- 'reevelaw15.CarveSays', WHERE WHAT IT READS IS OF BULK AT MOST 1048576: true; the input reads as it did. -/
def carveSaysUptoRow : OpenClaim := { program := "ytipigjckoejfpaagreat", sum := "8edb8e364d3cff2ef7742ed3662e1d7bd3c2c67db95f91fb91f4bd2fd310ea73", func := "reeve/reevelaw15.CarveSays", spec := "carveSays", inPlace := ["internal/bytealg.IndexByteString", "internal/bytealg.IndexString"], unfollowed := true, recurses := true, named := ["internal/bytealg.MaxLen"], apart := false, narrowed := true }
def CarveSaysUptoSaid : Prop := carveSaysUptoRow.holds Tryz.pinned (OpenSpec.upto carveSaysSpec)

/-- 'reevelaw16.GiveSays', WHERE WHAT IT READS IS OF BULK AT MOST 1048576: true; the input reads as it did. -/
def giveSaysUptoRow : OpenClaim := { program := "ytipigjckoejfpaagreat", sum := "8edb8e364d3cff2ef7742ed3662e1d7bd3c2c67db95f91fb91f4bd2fd310ea73", func := "reeve/reevelaw16.GiveSays", spec := "giveSays", inPlace := ["internal/bytealg.IndexByteString", "internal/bytealg.IndexString"], unfollowed := true, recurses := true, named := ["internal/bytealg.MaxLen"], apart := false, narrowed := true }
def GiveSaysUptoSaid : Prop := giveSaysUptoRow.holds Tryz.pinned (OpenSpec.upto giveSaysSpec)

/-- 'reevelaw19.BellKnown', WHERE WHAT IT READS IS OF BULK AT MOST 1048576: true; the input reads as it did. -/
def bellKnownUptoRow : OpenClaim := { program := "ytipigjckoejfpaagreat", sum := "8edb8e364d3cff2ef7742ed3662e1d7bd3c2c67db95f91fb91f4bd2fd310ea73", func := "reeve/reevelaw19.BellKnown", spec := "bellKnown", inPlace := ["internal/bytealg.IndexByteString", "internal/bytealg.IndexString"], unfollowed := true, recurses := true, named := ["internal/bytealg.MaxLen"], apart := false, narrowed := true }
def BellKnownUptoSaid : Prop := bellKnownUptoRow.holds Tryz.pinned (OpenSpec.upto bellKnownSpec)

/-- 'reevelaw19.BellSays', WHERE WHAT IT READS IS OF BULK AT MOST 1048576: true; the input reads as it did. -/
def bellSaysUptoRow : OpenClaim := { program := "ytipigjckoejfpaagreat", sum := "8edb8e364d3cff2ef7742ed3662e1d7bd3c2c67db95f91fb91f4bd2fd310ea73", func := "reeve/reevelaw19.BellSays", spec := "bellSays", inPlace := ["internal/bytealg.IndexByteString", "internal/bytealg.IndexString"], unfollowed := true, recurses := true, named := ["internal/bytealg.MaxLen"], apart := false, narrowed := true }
def BellSaysUptoSaid : Prop := bellSaysUptoRow.holds Tryz.pinned (OpenSpec.upto bellSaysSpec)

/-- 'reevelaw19.BellOften', WHERE WHAT IT READS IS OF BULK AT MOST 1048576: true; the input reads as it did. -/
def bellOftenUptoRow : OpenClaim := { program := "ytipigjckoejfpaagreat", sum := "8edb8e364d3cff2ef7742ed3662e1d7bd3c2c67db95f91fb91f4bd2fd310ea73", func := "reeve/reevelaw19.BellOften", spec := "bellOften", inPlace := ["internal/bytealg.IndexByteString", "internal/bytealg.IndexString"], unfollowed := true, recurses := true, named := ["internal/bytealg.MaxLen"], apart := false, narrowed := true }
def BellOftenUptoSaid : Prop := bellOftenUptoRow.holds Tryz.pinned (OpenSpec.upto bellOftenSpec)

/-- 'reevelaw20.LeafKnown', WHERE WHAT IT READS IS OF BULK AT MOST 1048576: true; the input reads as it did. -/
def leafKnownUptoRow : OpenClaim := { program := "ytipigjckoejfpaagreat", sum := "8edb8e364d3cff2ef7742ed3662e1d7bd3c2c67db95f91fb91f4bd2fd310ea73", func := "reeve/reevelaw20.LeafKnown", spec := "leafKnown", inPlace := ["internal/bytealg.IndexByteString", "internal/bytealg.IndexString"], unfollowed := true, recurses := true, named := ["internal/bytealg.MaxLen"], apart := false, narrowed := true }
def LeafKnownUptoSaid : Prop := leafKnownUptoRow.holds Tryz.pinned (OpenSpec.upto leafKnownSpec)

/-- 'reevelaw20.LeafSays', WHERE WHAT IT READS IS OF BULK AT MOST 1048576: true; the input reads as it did. -/
def leafSaysUptoRow : OpenClaim := { program := "ytipigjckoejfpaagreat", sum := "8edb8e364d3cff2ef7742ed3662e1d7bd3c2c67db95f91fb91f4bd2fd310ea73", func := "reeve/reevelaw20.LeafSays", spec := "leafSays", inPlace := ["internal/bytealg.IndexByteString", "internal/bytealg.IndexString"], unfollowed := true, recurses := true, named := ["internal/bytealg.MaxLen"], apart := false, narrowed := true }
def LeafSaysUptoSaid : Prop := leafSaysUptoRow.holds Tryz.pinned (OpenSpec.upto leafSaysSpec)

/-- 'reevelaw20.LeafKeeps', WHERE WHAT IT READS IS OF BULK AT MOST 1048576: true; the input reads as it did. -/
def leafKeepsUptoRow : OpenClaim := { program := "ytipigjckoejfpaagreat", sum := "8edb8e364d3cff2ef7742ed3662e1d7bd3c2c67db95f91fb91f4bd2fd310ea73", func := "reeve/reevelaw20.LeafKeeps", spec := "leafKeeps", inPlace := ["internal/bytealg.IndexByteString", "internal/bytealg.IndexString"], unfollowed := true, recurses := true, named := ["internal/bytealg.MaxLen"], apart := false, narrowed := true }
def LeafKeepsUptoSaid : Prop := leafKeepsUptoRow.holds Tryz.pinned (OpenSpec.upto leafKeepsSpec)

/-- 'reevelaw20.LeafTells', WHERE WHAT IT READS IS OF BULK AT MOST 1048576: true; the input reads as it did. -/
def leafTellsUptoRow : OpenClaim := { program := "ytipigjckoejfpaagreat", sum := "8edb8e364d3cff2ef7742ed3662e1d7bd3c2c67db95f91fb91f4bd2fd310ea73", func := "reeve/reevelaw20.LeafTells", spec := "leafTells", inPlace := ["internal/bytealg.IndexByteString", "internal/bytealg.IndexString"], unfollowed := true, recurses := true, named := ["internal/bytealg.MaxLen"], apart := false, narrowed := true }
def LeafTellsUptoSaid : Prop := leafTellsUptoRow.holds Tryz.pinned (OpenSpec.upto leafTellsSpec)

/-- 'reevelaw17.TakeAll', WHERE WHAT IT READS IS OF BULK AT MOST 1048576: true; the input reads as it did. -/
def takeAllUptoRow : OpenClaim := { program := "ytipigjckoejfpaagreat", sum := "8edb8e364d3cff2ef7742ed3662e1d7bd3c2c67db95f91fb91f4bd2fd310ea73", func := "reeve/reevelaw17.TakeAll", spec := "takeAll", inPlace := ["internal/bytealg.IndexByteString", "internal/bytealg.IndexString"], unfollowed := true, recurses := true, named := ["internal/bytealg.MaxLen"], apart := false, narrowed := true }
def TakeAllUptoSaid : Prop := takeAllUptoRow.holds Tryz.pinned (OpenSpec.upto takeAllSpec)

/-- 'reevelaw17.TakeCopies', WHERE WHAT IT READS IS OF BULK AT MOST 1048576: true; the input reads as it did. -/
def takeCopiesUptoRow : OpenClaim := { program := "ytipigjckoejfpaagreat", sum := "8edb8e364d3cff2ef7742ed3662e1d7bd3c2c67db95f91fb91f4bd2fd310ea73", func := "reeve/reevelaw17.TakeCopies", spec := "takeCopies", inPlace := ["internal/bytealg.IndexByteString", "internal/bytealg.IndexString"], unfollowed := true, recurses := true, named := ["internal/bytealg.MaxLen"], apart := false, narrowed := true }
def TakeCopiesUptoSaid : Prop := takeCopiesUptoRow.holds Tryz.pinned (OpenSpec.upto takeCopiesSpec)

/-- 'reevelaw18.MailLost', WHERE WHAT IT READS IS OF BULK AT MOST 1048576: true; the input reads as it did. -/
def mailLostUptoRow : OpenClaim := { program := "ytipigjckoejfpaagreat", sum := "8edb8e364d3cff2ef7742ed3662e1d7bd3c2c67db95f91fb91f4bd2fd310ea73", func := "reeve/reevelaw18.MailLost", spec := "mailLost", inPlace := ["internal/bytealg.IndexByteString", "internal/bytealg.IndexString"], unfollowed := true, recurses := true, named := ["internal/bytealg.MaxLen"], apart := false, narrowed := true }
def MailLostUptoSaid : Prop := mailLostUptoRow.holds Tryz.pinned (OpenSpec.upto mailLostSpec)

/-- 'reevelaw17.TakeKnown', WHERE WHAT IT READS IS OF BULK AT MOST 1048576: true; the input reads as it did. -/
def takeKnownUptoRow : OpenClaim := { program := "ytipigjckoejfpaagreat", sum := "8edb8e364d3cff2ef7742ed3662e1d7bd3c2c67db95f91fb91f4bd2fd310ea73", func := "reeve/reevelaw17.TakeKnown", spec := "takeKnown", inPlace := ["internal/bytealg.IndexByteString", "internal/bytealg.IndexString"], unfollowed := true, recurses := true, named := ["internal/bytealg.MaxLen"], apart := false, narrowed := true }
def TakeKnownUptoSaid : Prop := takeKnownUptoRow.holds Tryz.pinned (OpenSpec.upto takeKnownSpec)

/-- 'reevelaw21.RuleRevokes', WHERE WHAT IT READS IS OF BULK AT MOST 1048576: true; the input reads as it did. -/
def ruleRevokesUptoRow : OpenClaim := { program := "ytipigjckoejfpaagreat", sum := "8edb8e364d3cff2ef7742ed3662e1d7bd3c2c67db95f91fb91f4bd2fd310ea73", func := "reeve/reevelaw21.RuleRevokes", spec := "ruleRevokes", inPlace := ["internal/bytealg.IndexByteString", "internal/bytealg.IndexString"], unfollowed := true, recurses := true, named := ["internal/bytealg.MaxLen"], apart := false, narrowed := true }
def RuleRevokesUptoSaid : Prop := ruleRevokesUptoRow.holds Tryz.pinned (OpenSpec.upto ruleRevokesSpec)

/-- 'reevelaw21.RuleApart', WHERE WHAT IT READS IS OF BULK AT MOST 1048576: true; the input reads as it did. -/
def ruleApartUptoRow : OpenClaim := { program := "ytipigjckoejfpaagreat", sum := "8edb8e364d3cff2ef7742ed3662e1d7bd3c2c67db95f91fb91f4bd2fd310ea73", func := "reeve/reevelaw21.RuleApart", spec := "ruleApart", inPlace := ["internal/bytealg.IndexByteString", "internal/bytealg.IndexString"], unfollowed := true, recurses := true, named := ["internal/bytealg.MaxLen"], apart := false, narrowed := true }
def RuleApartUptoSaid : Prop := ruleApartUptoRow.holds Tryz.pinned (OpenSpec.upto ruleApartSpec)

/-- 'reevelaw21.RuleWords', WHERE WHAT IT READS IS OF BULK AT MOST 1048576: true; the input reads as it did. -/
def ruleWordsUptoRow : OpenClaim := { program := "ytipigjckoejfpaagreat", sum := "8edb8e364d3cff2ef7742ed3662e1d7bd3c2c67db95f91fb91f4bd2fd310ea73", func := "reeve/reevelaw21.RuleWords", spec := "ruleWords", inPlace := ["internal/bytealg.IndexByteString", "internal/bytealg.IndexString"], unfollowed := true, recurses := true, named := ["internal/bytealg.MaxLen"], apart := false, narrowed := true }
def RuleWordsUptoSaid : Prop := ruleWordsUptoRow.holds Tryz.pinned (OpenSpec.upto ruleWordsSpec)

/-- 'reevelaw21.RuleOthers', WHERE WHAT IT READS IS OF BULK AT MOST 1048576: true; the input reads as it did. -/
def ruleOthersUptoRow : OpenClaim := { program := "ytipigjckoejfpaagreat", sum := "8edb8e364d3cff2ef7742ed3662e1d7bd3c2c67db95f91fb91f4bd2fd310ea73", func := "reeve/reevelaw21.RuleOthers", spec := "ruleOthers", inPlace := ["internal/bytealg.IndexByteString", "internal/bytealg.IndexString"], unfollowed := true, recurses := true, named := ["internal/bytealg.MaxLen"], apart := false, narrowed := true }
def RuleOthersUptoSaid : Prop := ruleOthersUptoRow.holds Tryz.pinned (OpenSpec.upto ruleOthersSpec)

/-- 'reevelaw21.RuleKnown', WHERE WHAT IT READS IS OF BULK AT MOST 1048576: true; the input reads as it did. -/
def ruleKnownUptoRow : OpenClaim := { program := "ytipigjckoejfpaagreat", sum := "8edb8e364d3cff2ef7742ed3662e1d7bd3c2c67db95f91fb91f4bd2fd310ea73", func := "reeve/reevelaw21.RuleKnown", spec := "ruleKnown", inPlace := ["internal/bytealg.IndexByteString", "internal/bytealg.IndexString"], unfollowed := true, recurses := true, named := ["internal/bytealg.MaxLen"], apart := false, narrowed := true }
def RuleKnownUptoSaid : Prop := ruleKnownUptoRow.holds Tryz.pinned (OpenSpec.upto ruleKnownSpec)

/-- 'reevelaw21.RulePlays', WHERE WHAT IT READS IS OF BULK AT MOST 1048576: true; the input reads as it did. -/
def rulePlaysUptoRow : OpenClaim := { program := "ytipigjckoejfpaagreat", sum := "8edb8e364d3cff2ef7742ed3662e1d7bd3c2c67db95f91fb91f4bd2fd310ea73", func := "reeve/reevelaw21.RulePlays", spec := "rulePlays", inPlace := ["internal/bytealg.IndexByteString", "internal/bytealg.IndexString"], unfollowed := true, recurses := true, named := ["internal/bytealg.MaxLen"], apart := false, narrowed := true }
def RulePlaysUptoSaid : Prop := rulePlaysUptoRow.holds Tryz.pinned (OpenSpec.upto rulePlaysSpec)

/-- 'reevelaw21.RuleGrows', WHERE WHAT IT READS IS OF BULK AT MOST 1048576: true; the input reads as it did. -/
def ruleGrowsUptoRow : OpenClaim := { program := "ytipigjckoejfpaagreat", sum := "8edb8e364d3cff2ef7742ed3662e1d7bd3c2c67db95f91fb91f4bd2fd310ea73", func := "reeve/reevelaw21.RuleGrows", spec := "ruleGrows", inPlace := ["internal/bytealg.IndexByteString", "internal/bytealg.IndexString"], unfollowed := true, recurses := true, named := ["internal/bytealg.MaxLen"], apart := false, narrowed := true }
def RuleGrowsUptoSaid : Prop := ruleGrowsUptoRow.holds Tryz.pinned (OpenSpec.upto ruleGrowsSpec)

end Rows
end Go.Proofs.YtipigjckoejfpaaGreat

/-
  No cell of these rows narrows 'for every input' (looked for: loops, veiled, ifaces, maps, wideKeys, modest, calm, conditions, laid).
  DERIVED. THE GIVEN ROWS OF THIS SEAT. 6 by the template 'for every input the law returns true; each argument reads behind the call as it read before'; 0 by the template 'total and deterministic' (their statements: YtohgndhnndeijaaGreatTotals.lean).
  GIVEN WITH THE SEED: the statements are not yours to turn. If you find one false, say at which input.
  Laid BY PROGRAM, IN A SANDBOX (cutbox-rows.mjs): the forced cells as the released guide's own fill.sh prints them over the translation 2ecf089436f6d3f5… (all of the seat's roots in one cut). By AI agents, Wed Nov 11 2026. No macro, syntax, notation, axiom, sorry.
-/
import Derived.Test.YtohgndhnndeijaaGreatChecked
import GoSem.Claim
import GoSem.ClaimJoined
import GoSem.ClaimMapViews
import Derived.JoinedTies
import Derived.KernelRfl
namespace Go.Proofs.YtohgndhnndeijaaGreat
/- THE CELL 'sum', in the pinned program and in every row, IS THE sha256 OF THE DUMP (.gsa) THAT YtohgndhnndeijaaGreatProg.lean LOADS. Nothing in Lean hashes anything: it is a label: what it is worth is what the hold of that sum in a sandbox is worth. -/
noncomputable def Tryz.pinned : Pinned := { name := "ytohgndhnndeijaagreat", sum := "2ecf089436f6d3f5a3cdd8f6a742063a99c00c1d838f5872d61be26eef83d8a6", checked := Tryz.checked }
namespace Rows
def none {H : Type} : Left H := { results := [], args := [] }

/-- 'reevelaw26.BootTwice': WHATEVER THE INPUT: true; the input reads as it did. -/
def bootTwiceSpec : ChangeSpec := { name := "bootTwice", fn := fun _ => fun
  | [d1, d2, d3, d4] => { results := [.lit (.bool true)], args := [d1, d2, d3, d4] }
  | _ => none }
def bootTwiceRow : OpenClaim := { program := "ytohgndhnndeijaagreat", sum := "2ecf089436f6d3f5a3cdd8f6a742063a99c00c1d838f5872d61be26eef83d8a6", func := "reeve/reevelaw26.BootTwice", spec := "bootTwice", inPlace := ["math.archTrunc", "math.Float64bits", "math.Float64frombits"], unfollowed := true, recurses := true, apart := false }
def BootTwiceSaid : Prop := bootTwiceRow.holds Tryz.pinned (OpenSpec.ofChange bootTwiceSpec)

/-- ITS FALSE NEIGHBOUR: 'it returns false'. Refute it at one input. -/
def bootTwiceWrong : ChangeSpec := { name := "bootTwice", fn := fun _ => fun
  | [d1, d2, d3, d4] => { results := [.lit (.bool false)], args := [d1, d2, d3, d4] }
  | _ => none }
def BootTwiceWrongFalsely : Prop := bootTwiceRow.holds Tryz.pinned (OpenSpec.ofChange bootTwiceWrong)

/-- 'reevelaw26.BootMakes': WHATEVER THE INPUT: true; the input reads as it did. -/
def bootMakesSpec : ChangeSpec := { name := "bootMakes", fn := fun _ => fun
  | [d1, d2] => { results := [.lit (.bool true)], args := [d1, d2] }
  | _ => none }
def bootMakesRow : OpenClaim := { program := "ytohgndhnndeijaagreat", sum := "2ecf089436f6d3f5a3cdd8f6a742063a99c00c1d838f5872d61be26eef83d8a6", func := "reeve/reevelaw26.BootMakes", spec := "bootMakes", inPlace := ["math.archTrunc", "math.Float64bits", "math.Float64frombits"], unfollowed := true, recurses := true, apart := false }
def BootMakesSaid : Prop := bootMakesRow.holds Tryz.pinned (OpenSpec.ofChange bootMakesSpec)

/-- ITS FALSE NEIGHBOUR: 'it returns false'. Refute it at one input. -/
def bootMakesWrong : ChangeSpec := { name := "bootMakes", fn := fun _ => fun
  | [d1, d2] => { results := [.lit (.bool false)], args := [d1, d2] }
  | _ => none }
def BootMakesWrongFalsely : Prop := bootMakesRow.holds Tryz.pinned (OpenSpec.ofChange bootMakesWrong)

/-- 'reevelaw23.WsetTwice': WHATEVER THE INPUT: true; the input reads as it did. -/
def wsetTwiceSpec : ChangeSpec := { name := "wsetTwice", fn := fun _ => fun
  | [d1, d2, d3] => { results := [.lit (.bool true)], args := [d1, d2, d3] }
  | _ => none }
def wsetTwiceRow : OpenClaim := { program := "ytohgndhnndeijaagreat", sum := "2ecf089436f6d3f5a3cdd8f6a742063a99c00c1d838f5872d61be26eef83d8a6", func := "reeve/reevelaw23.WsetTwice", spec := "wsetTwice", inPlace := ["math.archTrunc", "math.Float64bits", "math.Float64frombits", "internal/bytealg.IndexByteString", "internal/bytealg.IndexString"], unfollowed := true, recurses := true, named := ["internal/bytealg.MaxLen"], apart := false }
def WsetTwiceSaid : Prop := wsetTwiceRow.holds Tryz.pinned (OpenSpec.ofChange wsetTwiceSpec)

/-- ITS FALSE NEIGHBOUR: 'it returns false'. Refute it at one input. -/
def wsetTwiceWrong : ChangeSpec := { name := "wsetTwice", fn := fun _ => fun
  | [d1, d2, d3] => { results := [.lit (.bool false)], args := [d1, d2, d3] }
  | _ => none }
def WsetTwiceWrongFalsely : Prop := wsetTwiceRow.holds Tryz.pinned (OpenSpec.ofChange wsetTwiceWrong)

/-- 'reevelaw23.WsetKnown': WHATEVER THE INPUT: true; the input reads as it did. -/
def wsetKnownSpec : ChangeSpec := { name := "wsetKnown", fn := fun _ => fun
  | [] => { results := [.lit (.bool true)], args := [] }
  | _ => none }
def wsetKnownRow : OpenClaim := { program := "ytohgndhnndeijaagreat", sum := "2ecf089436f6d3f5a3cdd8f6a742063a99c00c1d838f5872d61be26eef83d8a6", func := "reeve/reevelaw23.WsetKnown", spec := "wsetKnown", inPlace := ["math.archTrunc", "math.Float64bits", "math.Float64frombits", "internal/bytealg.IndexByteString", "internal/bytealg.IndexString"], unfollowed := true, recurses := true, named := ["internal/bytealg.MaxLen"], apart := false }
def WsetKnownSaid : Prop := wsetKnownRow.holds Tryz.pinned (OpenSpec.ofChange wsetKnownSpec)

/-- ITS FALSE NEIGHBOUR: 'it returns false'. Refute it at one input. -/
def wsetKnownWrong : ChangeSpec := { name := "wsetKnown", fn := fun _ => fun
  | [] => { results := [.lit (.bool false)], args := [] }
  | _ => none }
def WsetKnownWrongFalsely : Prop := wsetKnownRow.holds Tryz.pinned (OpenSpec.ofChange wsetKnownWrong)

/-- 'reevelaw26.BootUndone': WHATEVER THE INPUT: true; the input reads as it did. -/
def bootUndoneSpec : ChangeSpec := { name := "bootUndone", fn := fun _ => fun
  | [d1, d2] => { results := [.lit (.bool true)], args := [d1, d2] }
  | _ => none }
def bootUndoneRow : OpenClaim := { program := "ytohgndhnndeijaagreat", sum := "2ecf089436f6d3f5a3cdd8f6a742063a99c00c1d838f5872d61be26eef83d8a6", func := "reeve/reevelaw26.BootUndone", spec := "bootUndone", inPlace := ["math.archTrunc", "math.Float64bits", "math.Float64frombits", "internal/bytealg.IndexByteString", "internal/bytealg.IndexString"], unfollowed := true, recurses := true, named := ["internal/bytealg.MaxLen"], apart := false }
def BootUndoneSaid : Prop := bootUndoneRow.holds Tryz.pinned (OpenSpec.ofChange bootUndoneSpec)

/-- ITS FALSE NEIGHBOUR: 'it returns false'. Refute it at one input. -/
def bootUndoneWrong : ChangeSpec := { name := "bootUndone", fn := fun _ => fun
  | [d1, d2] => { results := [.lit (.bool false)], args := [d1, d2] }
  | _ => none }
def BootUndoneWrongFalsely : Prop := bootUndoneRow.holds Tryz.pinned (OpenSpec.ofChange bootUndoneWrong)

/-- 'reevelaw26.BootKnown': WHATEVER THE INPUT: true; the input reads as it did. -/
def bootKnownSpec : ChangeSpec := { name := "bootKnown", fn := fun _ => fun
  | [] => { results := [.lit (.bool true)], args := [] }
  | _ => none }
def bootKnownRow : OpenClaim := { program := "ytohgndhnndeijaagreat", sum := "2ecf089436f6d3f5a3cdd8f6a742063a99c00c1d838f5872d61be26eef83d8a6", func := "reeve/reevelaw26.BootKnown", spec := "bootKnown", inPlace := ["math.archTrunc", "math.Float64bits", "math.Float64frombits", "internal/bytealg.IndexByteString", "internal/bytealg.IndexString"], unfollowed := true, recurses := true, named := ["internal/bytealg.MaxLen"], apart := false }
def BootKnownSaid : Prop := bootKnownRow.holds Tryz.pinned (OpenSpec.ofChange bootKnownSpec)

/-- ITS FALSE NEIGHBOUR: 'it returns false'. Refute it at one input. -/
def bootKnownWrong : ChangeSpec := { name := "bootKnown", fn := fun _ => fun
  | [] => { results := [.lit (.bool false)], args := [] }
  | _ => none }
def BootKnownWrongFalsely : Prop := bootKnownRow.holds Tryz.pinned (OpenSpec.ofChange bootKnownWrong)

/- THE SECOND FORM. 'bulk': how many values and letters a reading holds, each counted each time it is reached (what is shared counts as often as it is met; a slice's spare places count too). A statement '..UptoSaid' is the law's where the arguments, and the package variables that the reading takes, are together of bulk at most 1048576: NARROWER than '..Said'. Prove '..Said' where nothing that the law and all that it calls make is longer than what came in: it says more and counts as full. Else prove '..UptoSaid'. A law counts once. -/
mutual
def uptoBulk {H : Type} : DataW H → Nat
  | .lit (.string bytes) => bytes.length + 1
  | .lit _ => 1
  | .nil => 1
  | .ptr d => uptoBulk d + 1
  | .slice elems spare => uptoBulkAll elems + uptoBulkAll spare + 1
  | .agg parts => uptoBulkAll parts + 1
  | .iface _ d => uptoBulk d + 1
  | .map entries => uptoBulkEntries entries + 1
  | .held _ => 1
def uptoBulkAll {H : Type} : List (DataW H) → Nat
  | [] => 0
  | d :: r => uptoBulk d + uptoBulkAll r
def uptoBulkEntries {H : Type} : List (Lit × DataW H) → Nat
  | [] => 0
  | x :: r => uptoBulkEntry x + uptoBulkEntries r
def uptoBulkEntry {H : Type} : Lit × DataW H → Nat
  | (.string bytes, d) => bytes.length + uptoBulk d + 1
  | (_, d) => uptoBulk d + 1
 end
def uptoSmall : (H : Type) → List (DataW H) → Bool := fun _ ds => decide (uptoBulkAll ds ≤ 1048576)
def OpenSpec.upto (s : _root_.Go.ChangeSpec) : _root_.Go.OpenSpec := { _root_.Go.OpenSpec.ofChange s with cond := some uptoSmall }

/-- 'reevelaw26.BootTwice', WHERE WHAT IT READS IS OF BULK AT MOST 1048576: true; the input reads as it did. -/
def bootTwiceUptoRow : OpenClaim := { program := "ytohgndhnndeijaagreat", sum := "2ecf089436f6d3f5a3cdd8f6a742063a99c00c1d838f5872d61be26eef83d8a6", func := "reeve/reevelaw26.BootTwice", spec := "bootTwice", inPlace := ["math.archTrunc", "math.Float64bits", "math.Float64frombits"], unfollowed := true, recurses := true, apart := false, narrowed := true }
def BootTwiceUptoSaid : Prop := bootTwiceUptoRow.holds Tryz.pinned (OpenSpec.upto bootTwiceSpec)

/-- 'reevelaw26.BootMakes', WHERE WHAT IT READS IS OF BULK AT MOST 1048576: true; the input reads as it did. -/
def bootMakesUptoRow : OpenClaim := { program := "ytohgndhnndeijaagreat", sum := "2ecf089436f6d3f5a3cdd8f6a742063a99c00c1d838f5872d61be26eef83d8a6", func := "reeve/reevelaw26.BootMakes", spec := "bootMakes", inPlace := ["math.archTrunc", "math.Float64bits", "math.Float64frombits"], unfollowed := true, recurses := true, apart := false, narrowed := true }
def BootMakesUptoSaid : Prop := bootMakesUptoRow.holds Tryz.pinned (OpenSpec.upto bootMakesSpec)

/-- 'reevelaw23.WsetTwice', WHERE WHAT IT READS IS OF BULK AT MOST 1048576: true; the input reads as it did. -/
def wsetTwiceUptoRow : OpenClaim := { program := "ytohgndhnndeijaagreat", sum := "2ecf089436f6d3f5a3cdd8f6a742063a99c00c1d838f5872d61be26eef83d8a6", func := "reeve/reevelaw23.WsetTwice", spec := "wsetTwice", inPlace := ["math.archTrunc", "math.Float64bits", "math.Float64frombits", "internal/bytealg.IndexByteString", "internal/bytealg.IndexString"], unfollowed := true, recurses := true, named := ["internal/bytealg.MaxLen"], apart := false, narrowed := true }
def WsetTwiceUptoSaid : Prop := wsetTwiceUptoRow.holds Tryz.pinned (OpenSpec.upto wsetTwiceSpec)

/-- 'reevelaw23.WsetKnown', WHERE WHAT IT READS IS OF BULK AT MOST 1048576: true; the input reads as it did. -/
def wsetKnownUptoRow : OpenClaim := { program := "ytohgndhnndeijaagreat", sum := "2ecf089436f6d3f5a3cdd8f6a742063a99c00c1d838f5872d61be26eef83d8a6", func := "reeve/reevelaw23.WsetKnown", spec := "wsetKnown", inPlace := ["math.archTrunc", "math.Float64bits", "math.Float64frombits", "internal/bytealg.IndexByteString", "internal/bytealg.IndexString"], unfollowed := true, recurses := true, named := ["internal/bytealg.MaxLen"], apart := false, narrowed := true }
def WsetKnownUptoSaid : Prop := wsetKnownUptoRow.holds Tryz.pinned (OpenSpec.upto wsetKnownSpec)

/-- 'reevelaw26.BootUndone', WHERE WHAT IT READS IS OF BULK AT MOST 1048576: true; the input reads as it did. -/
def bootUndoneUptoRow : OpenClaim := { program := "ytohgndhnndeijaagreat", sum := "2ecf089436f6d3f5a3cdd8f6a742063a99c00c1d838f5872d61be26eef83d8a6", func := "reeve/reevelaw26.BootUndone", spec := "bootUndone", inPlace := ["math.archTrunc", "math.Float64bits", "math.Float64frombits", "internal/bytealg.IndexByteString", "internal/bytealg.IndexString"], unfollowed := true, recurses := true, named := ["internal/bytealg.MaxLen"], apart := false, narrowed := true }
def BootUndoneUptoSaid : Prop := bootUndoneUptoRow.holds Tryz.pinned (OpenSpec.upto bootUndoneSpec)

/-- 'reevelaw26.BootKnown', WHERE WHAT IT READS IS OF BULK AT MOST 1048576: true; the input reads as it did. -/
def bootKnownUptoRow : OpenClaim := { program := "ytohgndhnndeijaagreat", sum := "2ecf089436f6d3f5a3cdd8f6a742063a99c00c1d838f5872d61be26eef83d8a6", func := "reeve/reevelaw26.BootKnown", spec := "bootKnown", inPlace := ["math.archTrunc", "math.Float64bits", "math.Float64frombits", "internal/bytealg.IndexByteString", "internal/bytealg.IndexString"], unfollowed := true, recurses := true, named := ["internal/bytealg.MaxLen"], apart := false, narrowed := true }
def BootKnownUptoSaid : Prop := bootKnownUptoRow.holds Tryz.pinned (OpenSpec.upto bootKnownSpec)

end Rows
end Go.Proofs.YtohgndhnndeijaaGreat

/- What is emptied, and what goes with it, as plain functions. No program in sight. Conditions: none. -/
import Derived.Test.YtlaipllgmddkiaaGreatZMo
set_option linter.all false
namespace Go.Ax.M
open Go Go.Ax
def emptyB (s : State) (i : Int) : Bool := !decide (i < 0) && (!decide ((s.slots.length : Int) ≤ i) && !cNone (s.slot i.toNat).cap)
def emptySl (s : State) (i : Int) (x : Slot) : Slot := if x.up = i then ⟨x.cap, (s.slot i.toNat).up⟩ else x
def emptyTh (i : Int) (t : Thing) : Thing := if t.from_ = i + 1 then { t with from_ := 0 } else t
def emptyS (s : State) (i : Int) : State := { s with slots := (s.slots.map (emptySl s i)).set i.toNat ⟨.zero, -1⟩, things := s.things.map (emptyTh i) }
def emptyE (p : State × Int) (i : Int) : State × Int := bif emptyB p.1 i then (emptyS p.1 i, p.2 + 1) else p
def empties (s : State) (n : Int) (l : List Int) : State × Int := l.foldl emptyE (s, n)
def heldB (s : State) (t : Nat) : Bool := !(List.range s.slots.length).all fun k => !holdB s t k
def lostB (s : State) (t : Nat) : Bool := !decide ((s.thing t).ty = 0) && (!rootB s t && !heldB s t)
def nodeL (t : Thing) : List Int := bif decide (t.ty = 2) then (List.range (p2 t.bits).toNat).map fun (i : Nat) => t.base + (i : Int) else []
def lostS (s : State) (t : Nat) : State × Int :=
 ({ (empties s 0 (nodeL (s.thing t))).1 with things := (empties s 0 (nodeL (s.thing t))).1.things.set t .zero }, (empties s 0 (nodeL (s.thing t))).2)
def lostE (p : State × Int × Bool) (t : Nat) : State × Int × Bool := bif lostB p.1 t then ((lostS p.1 t).1, p.2.1 + (lostS p.1 t).2, true) else p
def pass (s : State) (n : Int) : State × Int × Bool := (List.range s.things.length).foldl lostE (s, n, false)
def passes : Nat → State → Int → State × Int
 | 0, s, n => (s, n)
 | k + 1, s, n => bif (pass s n).2.2 then passes k (pass s n).1 (pass s n).2.1 else ((pass s n).1, (pass s n).2.1)
def takeE (s : State) (l : List Int) : State × Int := passes (s.things.length + 1) (empties s 0 l).1 (empties s 0 l).2
end Go.Ax.M

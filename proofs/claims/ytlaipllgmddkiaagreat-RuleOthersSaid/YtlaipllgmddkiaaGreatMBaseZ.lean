/- The base layers as plain functions: rights, places, capabilities, things. No program in sight. Conditions: none. -/
import Derived.Test.YtlaipllgmddkiaaGreatAxTacZ
set_option linter.all false
namespace Go.Ax.M
open Go Go.Ax
def inB (n lo hi : Int) : Bool := decide (lo ≤ n) && decide (n ≤ hi)
def rGood (r : Int) : Bool := inB r 0 7
def rOf (r : Int) : Int := bif rGood r then r else 0
def rBoth (a b : Int) : Int := IntKind.wrap .i64 ((BitVec.ofInt (IntKind.bits .i64) (rOf a) &&& BitVec.ofInt (IntKind.bits .i64) (rOf b)).toNat)
def rLess (a b : Int) : Int := IntKind.wrap .i64 ((BitVec.ofInt (IntKind.bits .i64) (rOf a) &&& ~~~ BitVec.ofInt (IntKind.bits .i64) (rOf b)).toNat)
def rWithin (a b : Int) : Bool := decide (rLess a b = 0)
def rBadge (b : Int) : Bool := inB b 0 65535
structure Geo where
 threads : Int
 slots : Int
 things : Int
 deriving DecidableEq, Inhabited
def Geo.cells (g : Geo) : List AVal := [.int .i64 g.threads, .int .i64 g.slots, .int .i64 g.things]
def gGood (g : Geo) : Bool := inB g.threads 1 4 && (inB g.slots (8 * g.threads) 96 && (decide (g.slots.tmod 8 = 0) && inB g.things (g.threads + 2) 48))
def gRoot (g : Geo) (t : Int) : Int := bif gGood g && inB t 0 (g.threads - 1) then 8 * t else 0
@[go_sem] theorem Geo.eta {g : Geo} : (⟨g.threads, g.slots, g.things⟩ : Geo) = g := rfl
structure Cap where
 ty : Int
 th : Int
 ri : Int
 ba : Int
 deriving DecidableEq, Inhabited
def Cap.cells (c : Cap) : List AVal := [.int .i64 c.ty, .int .i64 c.th, .int .i64 c.ri, .int .i64 c.ba]
@[go_sem] theorem Cap.eta {c : Cap} : (⟨c.ty, c.th, c.ri, c.ba⟩ : Cap) = c := rfl
def Cap.zero : Cap := ⟨0, 0, 0, 0⟩
def cNone (c : Cap) : Bool := decide (c.ty = 0) && (decide (c.th = 0) && (decide (c.ri = 0) && decide (c.ba = 0)))
def cBadged (k : Int) : Bool := decide (k = 3) || decide (k = 4)
def cGood (c : Cap) : Bool := cNone c || (inB c.ty 1 5 && (inB c.th 0 47 && (rGood c.ri && (rBadge c.ba && (decide (c.ba = 0) || cBadged c.ty)))))
def cCut (c : Cap) (r : Int) : Cap := bif cGood c then { c with ri := rBoth c.ri r } else .zero
def cStamp (c : Cap) (b : Int) : Cap × Int :=
 bif !cGood c || (!rBadge b || decide (b = 0)) then (.zero, 1) else bif !cBadged c.ty then (.zero, 7) else bif decide (c.ba ≠ 0) then (.zero, 5) else ({ c with ba := b }, 0)
def cLess (a b : Cap) : Bool := cNone a || (decide (a.ty = b.ty) && (decide (a.th = b.th) && (rWithin a.ri b.ri && (decide (b.ba = 0) || decide (b.ba = a.ba)))))
structure Thing where
 ty : Int
 bits : Int
 base : Int
 size : Int
 used : Int
 from_ : Int
 badge : Int
 full : Bool
 word : Int
 d0 : Int
 d1 : Int
 d2 : Int
 d3 : Int
 deriving DecidableEq, Inhabited
def Thing.cells (t : Thing) : List AVal := [.int .i64 t.ty, .int .i64 t.bits, .int .i64 t.base, .int .i64 t.size, .int .i64 t.used, .int .i64 t.from_, .int .i64 t.badge, .bool t.full, .int .u64 t.word, .int .u64 t.d0, .int .u64 t.d1, .int .u64 t.d2, .int .u64 t.d3]
@[go_sem] theorem Thing.eta {t : Thing} : (⟨t.ty, t.bits, t.base, t.size, t.used, t.from_, t.badge, t.full, t.word, t.d0, t.d1, t.d2, t.d3⟩ : Thing) = t := rfl
def Thing.zero : Thing := ⟨0, 0, 0, 0, 0, 0, 0, false, 0, 0, 0, 0, 0⟩
def tEq (a b : Thing) : Bool := decide (a.ty = b.ty) && (decide (a.bits = b.bits) && (decide (a.base = b.base) && (decide (a.size = b.size) && (decide (a.used = b.used) && (decide (a.from_ = b.from_) && (decide (a.badge = b.badge) && (decide (a.full = b.full) && (decide (a.word = b.word) && (decide (a.d0 = b.d0) && (decide (a.d1 = b.d1) && (decide (a.d2 = b.d2) && decide (a.d3 = b.d3))))))))))))
def tOwn (t : Thing) : Thing :=
 bif decide (t.ty = 1) then { Thing.zero with ty := t.ty, size := t.size, used := t.used }
 else bif decide (t.ty = 2) then { Thing.zero with ty := t.ty, bits := t.bits, base := t.base }
 else bif decide (t.ty = 3) then (bif t.full then { Thing.zero with ty := t.ty, full := true, word := t.word, badge := t.badge, from_ := t.from_ } else { Thing.zero with ty := t.ty })
 else bif decide (t.ty = 4) then { Thing.zero with ty := t.ty, word := t.word }
 else bif decide (t.ty = 5) then { Thing.zero with ty := t.ty, d0 := t.d0, d1 := t.d1, d2 := t.d2, d3 := t.d3 }
 else Thing.zero
def p2 (b : Int) : Int := ((2 ^ b.toNat : Nat) : Int)
def tGood (t : Thing) : Bool :=
 tEq (tOwn t) t && (bif decide (t.ty = 1) then inB t.size 1 4096 && inB t.used 0 t.size
 else bif decide (t.ty = 2) then inB t.bits 1 4 && inB t.base 0 (96 - p2 t.bits)
 else bif decide (t.ty = 3) then inB t.badge 0 65535 && inB t.from_ 0 96
 else true)
def tCost (k n : Int) : Int × Bool :=
 bif decide (k = 1) then (bif inB n 1 4096 then (n, true) else (0, false))
 else bif decide (k = 2) then (bif inB n 1 4 then (p2 n, true) else (0, false))
 else bif decide (k = 3) || decide (k = 4) then (1, true)
 else bif decide (k = 5) then (2, true)
 else (0, false)
def tOfKind (k n b : Int) : Thing :=
 bif decide (k = 1) then { Thing.zero with ty := k, size := n }
 else bif decide (k = 2) then { Thing.zero with ty := k, bits := n, base := b }
 else { Thing.zero with ty := k }
def tNew (k n b : Int) : Thing × Bool :=
 bif decide (k = 1) || (decide (k = 2) || (decide (k = 3) || (decide (k = 4) || decide (k = 5)))) then (bif tGood (tOfKind k n b) then (tOfKind k n b, true) else (.zero, false)) else (.zero, false)
def fIs (up : List Int) (i : Int) : Bool := decide (0 ≤ i) && (decide (i < up.length) && !decide (up.getD i.toNat 0 = -2))
def fUp (up : List Int) (u : Int) : Bool := decide (u = -2) || (decide (u = -1) || fIs up u)
def fEnds (up : List Int) : Nat → Int → Bool
 | 0, at_ => !fIs up at_
 | r + 1, at_ => !fIs up at_ || fEnds up r (up.getD at_.toNat 0)
def fGood (up : List Int) : Bool := decide (up.length ≤ 96) && (up.all (fUp up) && (List.range up.length).all fun i => fEnds up (up.length + 1) i)
theorem inB_iff {n lo hi : Int} : inB n lo hi = true ↔ lo ≤ n ∧ n ≤ hi := by simp [inB]
theorem gGood_bb {g : Geo} (h : gGood g = true) : 1 ≤ g.threads ∧ g.threads ≤ 4 ∧ 8 * g.threads ≤ g.slots ∧ g.slots ≤ 96 ∧ g.slots.tmod 8 = 0 ∧ g.threads + 2 ≤ g.things ∧ g.things ≤ 48 := by
 simp [gGood, inB] at h; omega
theorem shl_spec {b : Int} (h : inB b 1 4 = true) : aShift .shl .i64 1 b = some (.int .i64 (p2 b)) := by
 rw [inB_iff] at h
 have : b = 1 ∨ b = 2 ∨ b = 3 ∨ b = 4 := by omega
 rcases this with rfl | rfl | rfl | rfl <;> rfl
theorem p2_bits {b : Int} (h : inB b 1 4 = true) : 2 ≤ p2 b ∧ p2 b ≤ 16 := by
 rw [inB_iff] at h
 have : b = 1 ∨ b = 2 ∨ b = 3 ∨ b = 4 := by omega
 rcases this with rfl | rfl | rfl | rfl <;> decide
theorem tEq_cells {a b : Thing} : cellsEq [0, 0, 0, 0, 0, 0, 0, 1, 0, 0, 0, 0, 0] a.cells [.int .i64 b.ty, .int .i64 b.bits, .int .i64 b.base, .int .i64 b.size, .int .i64 b.used, .int .i64 b.from_, .int .i64 b.badge, .bool b.full, .int .u64 b.word, .int .u64 b.d0, .int .u64 b.d1, .int .u64 b.d2, .int .u64 b.d3] = some (tEq a b) := by
 simp [cellsEq, cellEq, Thing.cells, tEq]
@[go_sem high] theorem tEq_lit {x0 x1 x2 x3 x4 x5 x6 : Int} {x7 : Bool} {x8 x9 x10 x11 x12 : Int} {y0 y1 y2 y3 y4 y5 y6 : Int} {y7 : Bool} {y8 y9 y10 y11 y12 : Int} :
 cellsEq [0, 0, 0, 0, 0, 0, 0, 1, 0, 0, 0, 0, 0] [.int .i64 x0, .int .i64 x1, .int .i64 x2, .int .i64 x3, .int .i64 x4, .int .i64 x5, .int .i64 x6, .bool x7, .int .u64 x8, .int .u64 x9, .int .u64 x10, .int .u64 x11, .int .u64 x12] [.int .i64 y0, .int .i64 y1, .int .i64 y2, .int .i64 y3, .int .i64 y4, .int .i64 y5, .int .i64 y6, .bool y7, .int .u64 y8, .int .u64 y9, .int .u64 y10, .int .u64 y11, .int .u64 y12] = some (tEq ⟨x0, x1, x2, x3, x4, x5, x6, x7, x8, x9, x10, x11, x12⟩ ⟨y0, y1, y2, y3, y4, y5, y6, y7, y8, y9, y10, y11, y12⟩) := by
 simp [cellsEq, cellEq, tEq]
theorem tEq_iff {a b : Thing} : tEq a b = true ↔ a = b := by
 cases a; cases b; simp [tEq]
attribute [irreducible] inB rGood rOf rBoth rLess rWithin rBadge gGood gRoot cNone cBadged cGood cCut cStamp cLess tEq tOwn p2 tGood tCost tOfKind tNew fIs fUp fGood
end Go.Ax.M

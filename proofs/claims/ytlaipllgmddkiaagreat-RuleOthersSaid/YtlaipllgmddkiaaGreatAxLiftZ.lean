/- A closed call, known over no objects, is known over any: its objects stand behind them. Conditions: none. -/
import Derived.Test.YtlaipllgmddkiaaGreatAxRunZ
import Derived.Test.YtlaipllgmddkiaaGreatAxGcZ
set_option linter.all false
namespace Go.Ax
open Go
mutual
def AVal.shift (n : Nat) : AVal → AVal
 | .ptr o m i j => .ptr (n + o) m i j
 | .slice o m st len full => .slice (n + o) m st len full
 | .acc o m => .acc (n + o) m
 | .isl o m i j len => .isl (n + o) m i j len
 | .map o => .map (n + o)
 | .itr o => .itr (n + o)
 | .func f l => .func f (shifts n l)
 | .iface t v => .iface t (AVal.shift n v)
 | .agg l => .agg (shifts n l)
 | .tup l => .tup (shifts n l)
 | a => a
def shifts (n : Nat) : List AVal → List AVal
 | [] => []
 | a :: l => AVal.shift n a :: shifts n l
end
def AObj.shift (n : Nat) : AObj → AObj
 | .arr s xs ro => .arr s (xs.map (shifts n)) ro
 | .map es => .map (es.map fun e => (e.1.shift n, e.2.shift n))
 | x => x
abbrev shiftR (n : Nat) : Ren := fun o o' => o' = n + o
mutual
theorem VRen.shift {n : Nat} : ∀ (a : AVal), VRen (shiftR n) a (a.shift n)
 | .ptr .. => ⟨_, rfl, rfl⟩
 | .slice .. => ⟨_, rfl, rfl⟩
 | .acc .. => ⟨_, rfl, rfl⟩
 | .isl .. => ⟨_, rfl, rfl⟩
 | .map _ => ⟨_, rfl, rfl⟩
 | .itr _ => ⟨_, rfl, rfl⟩
 | .func _ l => ⟨_, rfl, VRens.shift l⟩
 | .iface _ v => ⟨_, rfl, VRen.shift v⟩
 | .agg l => ⟨_, rfl, VRens.shift l⟩
 | .tup l => ⟨_, rfl, VRens.shift l⟩
 | .top => rfl
 | .int .. => rfl
 | .bool _ => rfl
 | .str _ => rfl
 | .lit _ => rfl
theorem VRens.shift {n : Nat} : ∀ (l : List AVal), VRens (shiftR n) l (shifts n l)
 | [] => rfl
 | a :: l => ⟨_, _, rfl, VRen.shift a, VRens.shift l⟩
end
theorem shifts_map {n : Nat} {α : Type} (f : α → AVal) : ∀ l : List α, shifts n (l.map f) = l.map fun x => (f x).shift n
 | [] => rfl
 | x :: l => by simp [shifts, shifts_map f l]
theorem ORen.shift {n : Nat} (x : AObj) : ORen (shiftR n) x (x.shift n) := by
 cases x with
 | arr s xs ro =>
  refine ⟨_, rfl, by simp, fun i x x' h1 h2 => ?_⟩
  simp [h1] at h2; subst h2
  exact VRens.shift x
 | map es =>
  refine ⟨_, rfl, ?_, ?_⟩
  ·rw [List.map_map]; have := VRens.shift (n := n) (es.map (·.1)); rwa [shifts_map] at this
  ·rw [List.map_map]; have := VRens.shift (n := n) (es.map (·.2)); rwa [shifts_map] at this
 | iter s p => rfl
 | ghost => rfl
theorem ACalls.lift {P : Program} {f : FuncId} {args : List AVal} (ha : flats args = true) {v : AVal} {H' : Heap} (h : ∀ K : AVal → Heap → Prop, K v H' → ACalls P f args [] K) {H : Heap} {K : AVal → Heap → Prop} (hK : K (v.shift H.length) (H ++ H'.map (AObj.shift H.length))) : ACalls P f args H K := by
 intro B σ w vs hR hV
 refine (h (fun a b => v = a ∧ H' = b) ⟨rfl, rfl⟩ (· < w.heap.size) σ w vs ⟨fun ho => by simp at ho, fun ho => by simp at ho, fun _ h => h⟩ (VRs.flat args ha hV)).mono ?_
 rintro e w' ⟨x, σ', _, _, rfl, ⟨rfl, rfl⟩, hR', hx, he, hb⟩
 let σ2 : Sig := fun q => if q < H.length then σ q else σ' (q - H.length)
 have k : Plc (shiftR H.length) σ' H' σ2 (H ++ H'.map (AObj.shift H.length)) := by
  refine ⟨fun {o o'} hr => ?_⟩
  subst hr
  refine ⟨by show (if _ then _ else _) = _; rw [if_neg (by omega)]; congr 1; omega, fun x hx => ⟨x.shift H.length, ?_, ORen.shift x⟩⟩
  rw [List.getElem?_append_right (by omega), Nat.add_sub_cancel_left, List.getElem?_map, hx]; rfl
 have hg : Grow σ H σ2 (H ++ H'.map (AObj.shift H.length)) := by
  have old : ∀ {o : Nat} {y : AObj}, H[o]? = some y → σ2 o = σ o ∧ (H ++ H'.map (AObj.shift H.length))[o]? = some y := fun {o y} ho => by
   have hl := (List.getElem?_eq_some_iff.1 ho).1
   exact ⟨by simp [σ2, hl], by rw [List.getElem?_append_left hl]; exact ho⟩
  exact ⟨by simp, fun ho => ⟨_, (old ho).2, Nat.le_refl _, fun _ => (old ho).1⟩, fun ho => ⟨⟨_, (old ho).2⟩, (old ho).1⟩, fun ho => ⟨⟨_, _, (old ho).2⟩, (old ho).1⟩⟩
 have cases' : ∀ {q : Nat} {y : AObj}, (H ++ H'.map (AObj.shift H.length))[q]? = some y → (q < H.length ∧ H[q]? = some y) ∨ (¬ q < H.length ∧ ∃ z, H'[q - H.length]? = some z ∧ y = z.shift H.length) := by
  intro q y hq
  by_cases hl : q < H.length
  ·rw [List.getElem?_append_left hl] at hq; exact .inl ⟨hl, hq⟩
  ·rw [List.getElem?_append_right (by omega), List.getElem?_map, Option.map_eq_some_iff] at hq
   obtain ⟨z, hz, rfl⟩ := hq
   exact .inr ⟨hl, z, hz, rfl⟩
 have nro : ∀ {q s : Nat} {xs : List (List AVal)}, H'[q]? ≠ some (.arr s xs true) := fun {q s xs} hq => by
  obtain ⟨⟨_, h0⟩, -⟩ := he.old hq; simp at h0
 have sowns : ∀ (z : AObj) (p : Place), (z.shift H.length).owns p = z.owns p := fun z p => ((ORen.shift z).owns p).symm
 -- a block of an old object is an old one, and as it was
 have blk : ∀ {k : Nat} {z : Obj}, w.heap[k]? = some z → k < w.heap.size ∧ w'.heap[k]? = w.heap[k]? := fun {k z} hz => by
  have hl : k < w.heap.size := by
   rcases Nat.lt_or_ge k w.heap.size with h' | h'
   ·exact h'
   ·simp [Array.getElem?_eq_none h'] at hz
  exact ⟨hl, hb.block k hl⟩
 have s2l : ∀ {q : Nat}, q < H.length → σ2 q = σ q := fun {q} h => by show (if _ then _ else _) = _; rw [if_pos h]
 have s2r : ∀ {q : Nat}, ¬ q < H.length → σ2 q = σ' (q - H.length) := fun {q} h => by show (if _ then _ else _) = _; rw [if_neg h]
 have oldblk : ∀ {q : Nat} {y : AObj}, H[q]? = some y → y.owns (σ q) = true → (σ q).blk < w.heap.size := by
  intro q y hq hy
  have hr := hR.obj hq
  cases y with
  | arr s xs ro =>
   obtain ⟨-, -, h3⟩ := hr
   simp [AObj.owns] at hy
   rcases h3 with h3 | ⟨c, e, fr, hbb, -⟩
   ·exact absurd h3 hy.2
   ·exact (blk hbb).1
  | map es => obtain ⟨-, ms, clock, hbb, -⟩ := hr; exact (blk hbb).1
  | iter s p => exact (blk hr.2).1
  | ghost => simp [AObj.owns] at hy
 have newblk : ∀ {q : Nat} {z : AObj}, H'[q]? = some z → z.owns (σ' q) = true → ¬ (σ' q).blk < w.heap.size := by
  intro q z hq hz
  have hr := hR'.obj hq
  cases z with
  | arr s xs ro =>
   obtain ⟨-, -, h3⟩ := hr
   simp [AObj.owns] at hz
   rcases h3 with h3 | ⟨c, e, fr, -, -, hn, -⟩
   ·exact absurd h3 hz.2
   ·exact (hn hz.1).1
  | map es => exact hr.1
  | iter s p => exact hr.1
  | ghost => simp [AObj.owns] at hz
 refine ⟨x, σ2, v.shift H.length, _, rfl, hK, ⟨fun {o y} ho => ?_, fun {o o' y y'} ho ho' hy hy' hbb => ?_, fun q hq => Nat.lt_of_lt_of_le (hR.base q hq) hb.size⟩, hx.ren k (VRen.shift v), ⟨hg, fun {o} ho => ?_, fun {o s ys} ho => ?_⟩, hb.mono hR.base⟩
 ·rcases cases' ho with ⟨hl, ho⟩ | ⟨hl, z, hz, rfl⟩
  ·rw [s2l hl]
   have hr := hR.obj ho
   cases y with
   | arr s xs ro =>
    obtain ⟨h1, h2, h3⟩ := hr
    refine ⟨h1, h2, h3.imp id ?_⟩
    rintro ⟨c, e, fr, hbb, hc, r⟩
    exact ⟨c, e, fr, (blk hbb).2.trans hbb, fun i x' j a hi hj => let ⟨u, q1, q2⟩ := hc i x' j a hi hj; ⟨u, q1, q2.grow hg⟩, r⟩
   | map es =>
    obtain ⟨h1, ms, clock, hbb, q1, q2⟩ := hr
    exact ⟨h1, ms, clock, (blk hbb).2.trans hbb, q1.grow hg, q2.grow hg⟩
   | iter s p => exact ⟨hr.1, (blk hr.2).2.trans hr.2⟩
   | ghost => trivial
  ·rw [s2r hl]
   have hr := RelO.ren k (ORen.shift z) (hR'.obj hz)
   revert hr
   generalize hy : z.shift H.length = y
   intro hr
   cases y with
   | arr s xs ro =>
    obtain ⟨h1, h2, h3⟩ := hr
    refine ⟨h1, h2, h3.imp id ?_⟩
    rintro ⟨c, e, fr, hbb, hc, hn, hro⟩
    refine ⟨c, e, fr, hbb, hc, fun h => ?_, fun h => ?_⟩
    ·obtain ⟨q1, q2⟩ := hn h
     exact ⟨fun hB => q1 (hR.base _ hB), q2⟩
    ·subst h
     cases z with
     | arr s' xs' ro' =>
      simp only [AObj.shift, AObj.arr.injEq] at hy
      obtain ⟨-, -, rfl⟩ := hy
      exact absurd hz nro
     | map _ => simp [AObj.shift] at hy
     | iter _ _ => simp [AObj.shift] at hy
     | ghost => simp [AObj.shift] at hy
   | map es =>
    obtain ⟨h1, r⟩ := hr
    exact ⟨fun hB => h1 (hR.base _ hB), r⟩
   | iter s p => exact ⟨fun hB => hr.1 (hR.base _ hB), hr.2⟩
   | ghost => trivial
 ·rcases cases' ho with ⟨hl, ho⟩ | ⟨hl, z, hz, rfl⟩ <;> rcases cases' ho' with ⟨hl', ho'⟩ | ⟨hl', z', hz', rfl⟩
  ·rw [s2l hl] at hy hbb; rw [s2l hl'] at hy' hbb
   exact hR.apart ho ho' hy hy' hbb
  ·rw [s2l hl] at hy hbb; rw [s2r hl'] at hy' hbb
   rw [sowns] at hy'
   exact absurd (hbb ▸ oldblk ho hy) (newblk hz' hy')
  ·rw [s2r hl] at hy hbb; rw [s2l hl'] at hy' hbb
   rw [sowns] at hy
   exact absurd (hbb ▸ oldblk ho' hy') (newblk hz hy)
  ·rw [s2r hl] at hy hbb; rw [s2r hl'] at hy' hbb
   rw [sowns] at hy hy'
   have := hR'.apart hz hz' hy hy' hbb
   omega
 ·have hl := (List.getElem?_eq_some_iff.1 ho).1
  rw [List.getElem?_append_left hl]; exact ho
 ·rcases cases' ho with ⟨hl, ho⟩ | ⟨hl, z, hz, e⟩
  ·exact ⟨⟨_, ho⟩, s2l hl⟩
  ·exfalso
   cases z with
   | arr s' xs' ro' =>
    simp only [AObj.shift, AObj.arr.injEq] at e
    obtain ⟨-, -, e⟩ := e
    subst e
    exact absurd hz nro
   | map _ => simp [AObj.shift] at e
   | iter _ _ => simp [AObj.shift] at e
   | ghost => simp [AObj.shift] at e
end Go.Ax

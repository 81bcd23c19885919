/- Texts put behind one another: STake, STake2, STake3, STake5, STakeE, STake4, SBelow, SBelow2, STake6. Conditions: none. -/
import Derived.Test.YtlaipllgmddkiaaGreatZGv
import Derived.Test.YtlaipllgmddkiaaGreatZPu
import Derived.Test.YtlaipllgmddkiaaGreatAxShelfZ
set_option linter.all false
namespace Go.Ax
theorem Keeps.other0 {W : Heap} {o i : Nat} {x : AObj} (h : Keeps W o x) (ne : i ≠ o) (y : AObj) : (W.set i y)[o]? = some x := by
 have := h.other ne y []
 rw [List.append_nil] at this; exact this
end Go.Ax
namespace Go.Ax.M
open Go Go.Ax
def turned {α : Type} (f : α → α) (l : List α) (k : Nat) : List α := (l.take k).map f ++ l.drop k
section
variable {α : Type} {f : α → α} {l : List α} {k : Nat}
theorem turned_zero : turned f l 0 = l := by simp [turned]
theorem turned_all : turned f l l.length = l.map f := by simp [turned]
theorem turned_length : (turned f l k).length = l.length := by simp [turned]; omega
theorem turned_get {j : Nat} (hj : j < l.length) : (turned f l k)[j]? = some (if j < k then f l[j] else l[j]) := by
 simp only [turned]
 by_cases h : j < k
 ·rw [List.getElem?_append_left (by simp; omega)]; simp [h, hj]
 ·rw [List.getElem?_append_right (by simp; omega)]; simp [h]
  rw [List.getElem?_eq_getElem (by omega)]; congr 1; congr 1; omega
theorem turned_succ {x : α} (h : l[k]? = some x) : turned f l (k + 1) = (turned f l k).set k (f x) := by
 have hk := (List.getElem?_eq_some_iff.1 h).1
 have hx := (List.getElem?_eq_some_iff.1 h).2
 apply List.ext_getElem?
 intro j
 by_cases hj : j < l.length
 ·rw [turned_get hj, List.getElem?_set]
  rw [turned_length]
  by_cases e : k = j
  ·subst e; simp [hk, hx]
  ·rw [if_neg e, turned_get hj]
   by_cases h1 : j < k
   ·rw [if_pos h1, if_pos (by omega)]
   ·rw [if_neg h1, if_neg (by omega)]
 ·rw [List.getElem?_eq_none (by rw [turned_length]; omega), List.getElem?_eq_none (by rw [List.length_set, turned_length]; omega)]
theorem turned_same {x : α} (h : l[k]? = some x) (e : f x = x) : turned f l (k + 1) = turned f l k := by
 have hk := (List.getElem?_eq_some_iff.1 h).1
 have hx := (List.getElem?_eq_some_iff.1 h).2
 rw [turned_succ h, e]
 apply List.ext_getElem?
 intro j
 rw [List.getElem?_set]
 split
 ·rename_i e2; subst e2; rw [turned_length, if_pos hk, turned_get hk]; simp [hx]
 ·rfl
end
end Go.Ax.M
namespace Go.Proofs.YtlaipllgmddkiaaGreat.Ax
open Go Go.Ax Go.Ax.M
section
variable {H : Heap} {K : AVal → Heap → Prop} {s : State} {i : Int} {oS oT : Nat} {fS fT : Bool}
theorem emptySl_self {k : Nat} (h : (k : Int) = i) : emptySl s i (s.slot k) = s.slot k := by
 have : i.toNat = k := by omega
 simp only [emptySl, this]; split <;> rfl
theorem slot_some {s : State} {k : Nat} (h : k < s.slots.length) : s.slots[k]? = some (s.slot k) := by simp [State.slot, h, List.getD]
theorem thing_some {s : State} {k : Nat} (h : k < s.things.length) : s.things[k]? = some (s.thing k) := by simp [State.thing, h, List.getD]
theorem take_empty_spec (hS : H[oS]? = some (.arr 5 (s.slots.map Slot.cells) false)) (hT : H[oT]? = some (.arr 13 (s.things.map Thing.cells) false)) (hlS : s.slots.length ≤ 1000) (hlT : s.things.length ≤ 1000)
 (hn : emptyB s i = false → K (.bool false) H)
 (h : emptyB s i = true → ∀ L, K (.bool true) ((H.set oS (slotsO (emptyS s i))).set oT (thingsO (emptyS s i)) ++ L)) :
 ACalls Tryz.prog 236 [stA s oS oT fS fT, .int .i64 i] H K := by
 have kT := Keeps.of hT
 have kS := Keeps.of hS
 have hne : oS ≠ oT := by rintro rfl; rw [hS] at hT; cases hT
 cases he : emptyB s i with
 | false =>
  have hn := hn he
  clear h
  refine ACalls.tidy ?_
  by_cases i0 : i < 0
  ·refine into ok236 ?_; (try simp only [c236, w236, kS, kT, i0, go_sem]); repeat' ((first | refine orR ?_ | (refine sp ?_ ?_ <;> intro hc) | fail) <;> try simp only [*, w236, kS, kT, i0, go_sem])
   all_goals first | exact ⟨rfl, _, rfl⟩ | exact ⟨rfl, ⟨_, rfl⟩, hn⟩
  by_cases i1 : (s.slots.length : Int) ≤ i
  ·refine into ok236 ?_; (try simp only [c236, w236, kS, kT, i0, i1, go_sem]); repeat' ((first | refine orR ?_ | (refine sp ?_ ?_ <;> intro hc) | fail) <;> try simp only [*, w236, kS, kT, i0, i1, go_sem])
   all_goals first | exact ⟨rfl, _, rfl⟩ | exact ⟨rfl, ⟨_, rfl⟩, hn⟩
  have j2 : (i < (s.slots.length : Int)) = True := eq_true (by omega)
  have j3 : (0 ≤ i) = True := eq_true (by omega)
  have hgi := slots_get (s := s) (k := i.toNat) (by omega)
  have i3 : cNone ⟨(s.slot i.toNat).cap.ty, (s.slot i.toNat).cap.th, (s.slot i.toNat).cap.ri, (s.slot i.toNat).cap.ba⟩ = true := by
   simp only [emptyB, decide_eq_false i0, decide_eq_false i1, Bool.not_false, Bool.true_and, Bool.not_eq_false'] at he
   exact he
  refine into ok236 ?_; (try simp only [c236, w236, kS, kT, hgi, i0, i1, j2, j3, i3, go_sem]); repeat' ((first | refine orR ?_ | (refine sp ?_ ?_ <;> intro hc) | refine cap_None_x ?_) <;> try simp only [*, w236, kS, kT, hgi, i0, i1, j2, j3, i3, go_sem])
  all_goals first | exact ⟨rfl, _, rfl⟩ | exact ⟨rfl, ⟨_, rfl⟩, hn⟩
 | true =>
  have h := h he
  clear hn
  have hb := he
  simp only [emptyB, Bool.and_eq_true, Bool.not_eq_true', decide_eq_false_iff_not, Int.not_lt, Int.not_le] at hb
  obtain ⟨i0, i1, i2⟩ := hb
  have j0 : (i < 0) = False := eq_false (by omega)
  have j1 : ((s.slots.length : Int) ≤ i) = False := eq_false (by omega)
  have j2 : (i < (s.slots.length : Int)) = True := eq_true (by omega)
  have j3 : (0 ≤ i) = True := eq_true i0
  have hgi := slots_get (s := s) (k := i.toNat) (by omega)
  have i3 : cNone ⟨(s.slot i.toNat).cap.ty, (s.slot i.toNat).cap.th, (s.slot i.toNat).cap.ri, (s.slot i.toNat).cap.ba⟩ = false := i2
  refine into ok236 ?_; (try simp only [c236, w236, kS, kT, hgi, j0, j1, j2, j3, i3, go_sem]); repeat' ((first | refine orR ?_ | (refine sp ?_ ?_ <;> intro hc) | refine cap_None_x ?_) <;> try simp only [*, w236, kS, kT, hgi, j0, j1, j2, j3, i3, go_sem])
  have e0 : H = H.set oS (.arr 5 ((turned (emptySl s i) s.slots 0).map Slot.cells) false) := by rw [turned_zero, set_same hS]
  refine ALoop.keep [28, 1, 2, 27] ?_; simp only [mpC, go_sem]
  refine ALoop.heap (H' := H.set oS (.arr 5 ((turned (emptySl s i) s.slots 0).map Slot.cells) false) ++ [_]) (congrArg (· ++ [_]) e0) ?_
  refine ALoop.acc (fun k G => [(28, .int .i64 (k : Int))]) (fun k G => H.set oS (.arr 5 ((turned (emptySl s i) s.slots k).map Slot.cells) false) ++ _ :: G) (fun k G => True) s.slots.length ?_ (a0 := []) trivial
  intro k G hk _ next
  refine ALoop.hid fun W hW => ?_
  have kT := hW.keepO hT hne
  have kS := hW.keepM hS
  have kst := hW.keepS
  have kS0 := kS.at
  have kT0 := kT.at
  have kst0 := kst.at
  have kss := kS.set
  refine ALoop.unfold ?_
  have hw := wrap_succ (k := k) (by omega)
  have hl : (turned (emptySl s i) s.slots k).length = s.slots.length := turned_length
  have hg1 : k < s.slots.length → ((turned (emptySl s i) s.slots k).map Slot.cells)[k]? = some [.int .i64 (s.slot k).cap.ty, .int .i64 (s.slot k).cap.th, .int .i64 (s.slot k).cap.ri, .int .i64 (s.slot k).cap.ba, .int .i64 (s.slot k).up] := fun h => by
   rw [List.getElem?_map, turned_get h, if_neg (Nat.lt_irrefl _)]; simp [State.slot, List.getD, h, Slot.cells]
  have hg2 : ((turned (emptySl s i) s.slots k).map Slot.cells)[i.toNat]? = some [.int .i64 (s.slot i.toNat).cap.ty, .int .i64 (s.slot i.toNat).cap.th, .int .i64 (s.slot i.toNat).cap.ri, .int .i64 (s.slot i.toNat).cap.ba, .int .i64 (s.slot i.toNat).up] := by
   have hi : i.toNat < s.slots.length := by omega
   have es : s.slots[i.toNat] = s.slot i.toNat := by simp [State.slot, List.getD, hi]
   rw [List.getElem?_map, turned_get hi, es, emptySl_self (by omega)]; simp [Slot.cells]
  have hg3 : k < s.slots.length → (((turned (emptySl s i) s.slots k).map Slot.cells).set k [.int .i64 (s.slot k).cap.ty, .int .i64 (s.slot k).cap.th, .int .i64 (s.slot k).cap.ri, .int .i64 (s.slot k).cap.ba, .int .i64 (s.slot i.toNat).up])[i.toNat]? = some [.int .i64 (s.slot i.toNat).cap.ty, .int .i64 (s.slot i.toNat).cap.th, .int .i64 (s.slot i.toNat).cap.ri, .int .i64 (s.slot i.toNat).cap.ba, .int .i64 (s.slot i.toNat).up] := fun h => by
   rw [List.getElem?_set]
   split
   ·rename_i e; rw [← e, if_pos (by rw [List.length_map, hl]; exact h)]
   ·exact hg2
  have hneB : oS ≠ H.length := fun e => by have := get_lt hS; omega
  have ko0 := fun y => kst.other0 hneB y
  have ks0 := fun y => kS.self0 y
  have kt0 := fun y => kT.other0 hne y
  clear e0 hgi
  (try simp only [w236, kS, kT, kst, hw, hl, hg1, hg2, hg3, kss, ko0, ks0, kt0, j2, j3, wpx_of b236_4.eq_1, nlt_iff, n0_le, apC, List.length_set, go_sem]); repeat' ((first | refine orR ?_ | (refine sp ?_ ?_ <;> intro hc) | fail) <;> try simp only [*, w236, kS, kT, kst, hw, hl, hg1, hg2, hg3, kss, ko0, ks0, kt0, j2, j3, wpx_of b236_4.eq_1, nlt_iff, n0_le, apC, List.length_set, go_sem])
  case' true.refine_1.refine_1 =>
   have e : ((turned (emptySl s i) s.slots k).map Slot.cells).set k [.int .i64 (s.slot k).cap.ty, .int .i64 (s.slot k).cap.th, .int .i64 (s.slot k).cap.ri, .int .i64 (s.slot k).cap.ba, .int .i64 (s.slot i.toNat).up] = (turned (emptySl s i) s.slots (k + 1)).map Slot.cells := by
    rw [turned_succ (slot_some (by assumption)), List.map_set]
    congr 1
    simp only [emptySl, if_pos (show (s.slot k).up = i by assumption), Slot.cells, Cap.cells, apC]
   rw [e]
  case' true.refine_1.refine_2 =>
   have e : turned (emptySl s i) s.slots (k + 1) = turned (emptySl s i) s.slots k := turned_same (slot_some (by assumption)) (by simp only [emptySl, if_neg (show ¬ (s.slot k).up = i by assumption)])
   rw [e] at next
  case' true.refine_2 =>
   have hk' : k = s.slots.length := by omega
   have e : ((turned (emptySl s i) s.slots k).map Slot.cells).set i.toNat [.int .i64 0, .int .i64 0, .int .i64 0, .int .i64 0, .int .i64 (-1)] = (emptyS s i).slots.map Slot.cells := by
    rw [hk', turned_all]; simp only [emptyS, List.map_set]; rfl
   rw [e]
  all_goals
   have hW : W = _ := hW
   subst hW
   have hms := set_app_set hS
   try simp only [hms, List.append_eq]
  case true.refine_1.refine_1 => (refine ALoop.keep [28, 1, 2, 27] ?_; simp only [mpC, go_sem]; refine next _ (by assumption) trivial)
  case true.refine_1.refine_2 => (refine ALoop.keep [28, 1, 2, 27] ?_; simp only [mpC, go_sem]; refine next _ (by assumption) trivial)
  clear next kT kS kst kS0 kT0 kst0 kss ko0 ks0 kt0 hg1 hg2 hg3 hms e hw hl
  generalize hH2 : H.set oS (.arr 5 ((emptyS s i).slots.map Slot.cells) false) = H2 at *
  have hlen : H2.length = H.length := by rw [← hH2, List.length_set]
  have hS2 : H2[oS]? = some (slotsO (emptyS s i)) := by rw [← hH2]; exact (Keeps.of hS).self0 _
  have hT2 : H2[oT]? = some (.arr 13 (s.things.map Thing.cells) false) := by rw [← hH2]; exact (Keeps.of hT).other0 hne _
  have e0 : H2 = H2.set oT (.arr 13 ((turned (emptyTh i) s.things 0).map Thing.cells) false) := by rw [turned_zero, set_same hT2]
  refine ALoop.keep [59, 1, 2, 58] ?_; simp only [mpC, go_sem]
  refine ALoop.heap (H' := H2.set oT (.arr 13 ((turned (emptyTh i) s.things 0).map Thing.cells) false) ++ _ :: _) (congrArg (· ++ _ :: _) e0) ?_
  refine ALoop.acc (fun k G => [(59, .int .i64 (k : Int))]) (fun k G => H2.set oT (.arr 13 ((turned (emptyTh i) s.things k).map Thing.cells) false) ++ _ :: G) (fun k G => True) s.things.length ?_ (a0 := G) trivial
  clear e0 hk' hc
  intro k G hk _ next
  refine ALoop.hid fun W hW => ?_
  have kS := hW.keepO hS2 hne.symm
  have kT := hW.keepM hT2
  have kst := hW.keepS
  rw [hlen] at kst
  have kT0 := kT.at
  have kst0 := kst.at
  have kts := kT.set
  refine ALoop.unfold ?_
  have hw := wrap_succ (k := k) (by omega)
  have hwi : IntKind.wrap .i64 (i + 1) = i + 1 := w64 (by omega) (by omega)
  have hl : (turned (emptyTh i) s.things k).length = s.things.length := turned_length
  have hg1 : k < s.things.length → ((turned (emptyTh i) s.things k).map Thing.cells)[k]? = some [.int .i64 (s.thing k).ty, .int .i64 (s.thing k).bits, .int .i64 (s.thing k).base, .int .i64 (s.thing k).size, .int .i64 (s.thing k).used, .int .i64 (s.thing k).from_, .int .i64 (s.thing k).badge, .bool (s.thing k).full, .int .u64 (s.thing k).word, .int .u64 (s.thing k).d0, .int .u64 (s.thing k).d1, .int .u64 (s.thing k).d2, .int .u64 (s.thing k).d3] := fun h => by
   rw [List.getElem?_map, turned_get h, if_neg (Nat.lt_irrefl _)]; simp [State.thing, List.getD, h, Thing.cells]
  (try simp only [w236, kS, kT, kst, hw, hwi, hl, hg1, kts, wpx_of b236_8.eq_1, nlt_iff, n0_le, apC, List.length_set, go_sem]); repeat' ((first | refine orR ?_ | (refine sp ?_ ?_ <;> intro hc) | fail) <;> try simp only [*, w236, kS, kT, kst, hw, hwi, hl, hg1, kts, wpx_of b236_8.eq_1, nlt_iff, n0_le, apC, List.length_set, go_sem])
  case' true.refine_2.refine_1.refine_1 =>
   have e : ((turned (emptyTh i) s.things k).map Thing.cells).set k [.int .i64 (s.thing k).ty, .int .i64 (s.thing k).bits, .int .i64 (s.thing k).base, .int .i64 (s.thing k).size, .int .i64 (s.thing k).used, .int .i64 0, .int .i64 (s.thing k).badge, .bool (s.thing k).full, .int .u64 (s.thing k).word, .int .u64 (s.thing k).d0, .int .u64 (s.thing k).d1, .int .u64 (s.thing k).d2, .int .u64 (s.thing k).d3] = (turned (emptyTh i) s.things (k + 1)).map Thing.cells := by
    rw [turned_succ (thing_some (by assumption)), List.map_set]
    congr 1
    simp only [emptyTh, if_pos (show (s.thing k).from_ = i + 1 by assumption), Thing.cells]
   rw [e]
  case' true.refine_2.refine_1.refine_2 =>
   have e : turned (emptyTh i) s.things (k + 1) = turned (emptyTh i) s.things k := turned_same (thing_some (by assumption)) (by simp only [emptyTh, if_neg (show ¬ (s.thing k).from_ = i + 1 by assumption)])
   rw [e] at next
  all_goals
   have hW : W = _ := hW
   subst hW
   have hms := set_app_set hT2
   try simp only [hms, List.append_eq]
  case true.refine_2.refine_1.refine_1 => (refine ALoop.keep [59, 1, 2, 58] ?_; simp only [mpC, go_sem]; refine next _ (by assumption) trivial)
  case true.refine_2.refine_1.refine_2 => (refine ALoop.keep [59, 1, 2, 58] ?_; simp only [mpC, go_sem]; refine next _ (by assumption) trivial)
  have hk' : k = s.things.length := by omega
  rw [hk', turned_all, ← hH2]
  exact h _
end
end Go.Proofs.YtlaipllgmddkiaaGreat.Ax
namespace Go.Ax
theorem findI_ge {p : Nat → Bool} {n : Nat} : decide (0 ≤ findI p n) = !(List.range n).all fun k => !p k := by
 cases h : (List.range n).all fun k => !p k with
 | true => rw [findI_none h]; rfl
 | false =>
  rw [List.all_eq_false] at h
  obtain ⟨k, hk, hp⟩ := h
  have hp : p k = true := by simpa using hp
  obtain ⟨j, hj⟩ : ∃ j, (List.range n).find? p = some j := by
   cases hf : (List.range n).find? p with
   | none => rw [List.find?_eq_none] at hf; exact absurd hp (hf k hk)
   | some j => exact ⟨j, rfl⟩
  have e : findI p n = (j : Int) := by simp [findI, hj]
  rw [e]; simp
end Go.Ax
namespace Go.Proofs.YtlaipllgmddkiaaGreat.Ax
open Go Go.Ax Go.Ax.M
section
variable {H : Heap} {K : AVal → Heap → Prop} {s : State} {i : Int} {oS oT : Nat} {fS fT rS rT : Bool}
theorem slots_IndexFunc_spec {g : FuncId} {cap : List AVal} {p : Nat → Bool} (hS : H[oS]? = some (.arr 5 (s.slots.map Slot.cells) rS)) (hl : s.slots.length ≤ 1000) (hc : callable Tryz.prog g = true)
 (hp : ∀ k, k < s.slots.length → ∀ K' : AVal → Heap → Prop, K' (.bool (p k)) H → ACalls Tryz.prog g (.agg (s.slot k).cells :: cap) H K') (h : K (.int .i64 (findI p s.slots.length)) H) :
 ACalls Tryz.prog 274 [.slice oS s.slots.length 0 s.slots.length fS, .func g cap] H K := by
 refine into ok274 ?_; (try simp only [c274, w274, go_sem]); repeat' ((first | refine orR ?_ | (refine sp ?_ ?_ <;> intro hc) | fail) <;> try simp only [*, w274, go_sem])
 refine ALoop.keep [8, 0, 1, 7] ?_; simp only [mpC, go_sem]
 refine ALoop.cnt (fun k => (List.range k).all (fun j => !p j) = true) s.slots.length (by simp) fun k hk hI next => ?_
 refine ALoop.unfold ?_
 have hw := wrap_succ (k := k) (by omega)
 have hg : k < s.slots.length → _ := fun h => slots_get (s := s) (k := k) h
 have hp' : k < s.slots.length → ∀ K' : AVal → Heap → Prop, K' (.bool (p k)) H → ACalls Tryz.prog g (.agg (s.slot k).cells :: cap) H K' := hp k
 clear hp
 (try simp only [w274, hg, hw, hS, hc, wpx_of b274_3.eq_1, nlt_iff, n0_le, go_sem]); repeat' ((first | refine orR ?_ | (refine sp ?_ ?_ <;> intro hc) | refine hp' (by assumption) _ ?_) <;> try simp only [*, w274, hg, hw, hS, hc, wpx_of b274_3.eq_1, nlt_iff, n0_le, go_sem])
 ·exact ki h (findI_hit (by assumption) hI (by assumption)).symm
 ·(refine ALoop.keep [8, 0, 1, 7] ?_; simp only [mpC, go_sem]; refine next (by assumption) ?_)
  rw [all_range (N := 0), hI]; simp [*]
 ·have hk : k = s.slots.length := by omega
  subst hk
  exact ki h (findI_none hI).symm
theorem slots_ContainsFunc_spec {g : FuncId} {cap : List AVal} {p : Nat → Bool} (hS : H[oS]? = some (.arr 5 (s.slots.map Slot.cells) rS)) (hl : s.slots.length ≤ 1000) (hc : callable Tryz.prog g = true)
 (hp : ∀ k, k < s.slots.length → ∀ K' : AVal → Heap → Prop, K' (.bool (p k)) H → ACalls Tryz.prog g (.agg (s.slot k).cells :: cap) H K') (h : K (.bool (!(List.range s.slots.length).all fun k => !p k)) H) :
 ACalls Tryz.prog 271 [.slice oS s.slots.length 0 s.slots.length fS, .func g cap] H K := by
 rw [← findI_ge] at h
 refine into ok271 ?_; (try simp only [c271, wpx_of k271_0.eq_1, go_sem]); repeat' ((first | refine orR ?_ | (refine sp ?_ ?_ <;> intro hc) | refine slots_IndexFunc_spec (p := p) hS hl hc hp ?_) <;> try simp only [*, wpx_of k271_0.eq_1, go_sem])
theorem take_held_1_spec {t : Nat} {k : Nat} {o : Nat} (hb : H[o]? = some (.arr 1 [[.int .i64 (t : Int)]] false)) (h : K (.bool (holdB s t k)) H) : ACalls Tryz.prog 272 [.agg (s.slot k).cells, .ptr o 1 0 0] H K := by
 have kb := Keeps.of hb
 refine ACalls.tidy ?_
 unfold Slot.cells
 refine into ok272 ?_; (try simp only [c272, wpx_of k272_0.eq_1, kb, apC, go_sem]); repeat' ((first | refine orR ?_ | (refine sp ?_ ?_ <;> intro hc) | refine cap_None_x ?_) <;> try simp only [*, wpx_of k272_0.eq_1, kb, apC, go_sem])
 all_goals exact tb h ⟨_, rfl⟩ (by simp only [holdB]; rw [show cNone (s.slot k).cap = _ by assumption]; rfl)
theorem take_held_spec {t : Nat} (hS : H[oS]? = some (.arr 5 (s.slots.map Slot.cells) rS)) (hlS : s.slots.length ≤ 1000) (h : K (.bool (heldB s t)) H) : ACalls Tryz.prog 262 [stA s oS oT fS fT, .int .i64 (t : Int)] H K := by
 have kS := Keeps.of hS
 refine ACalls.tidy ?_
 refine into ok262 ?_; (try simp only [c262, wpx_of k262_0.eq_1, go_sem]); repeat' ((first | refine orR ?_ | (refine sp ?_ ?_ <;> intro hc) | refine slots_ContainsFunc_spec (p := fun k => holdB s t k) (kS _) hlS (callable_fn ok272) (fun k hk K' hK' => take_held_1_spec at1 hK') ?_) <;> try simp only [*, wpx_of k262_0.eq_1, go_sem])
 exact tb h ⟨_, rfl⟩ (by simp only [heldB])
theorem take_empty_x {x0 x1 x2 : Int} {n m : Nat} (hS : H[oS]? = some (slotsO s)) (hT : H[oT]? = some (thingsO s)) (en : s.slots.length = n) (em : s.things.length = m) (eg : s.geo.threads = x0 ∧ s.geo.slots = x1 ∧ s.geo.things = x2) (hlS : n ≤ 1000) (hlT : m ≤ 1000)
 (hn : emptyB s i = false → K (.bool false) H)
 (h : emptyB s i = true → ∀ L, K (.bool true) ((H.set oS (slotsO (emptyS s i))).set oT (thingsO (emptyS s i)) ++ L)) :
 ACalls Tryz.prog 236 [.agg [.int .i64 x0, .int .i64 x1, .int .i64 x2, .slice oS n 0 n fS, .slice oT m 0 m fT], .int .i64 i] H K := by
 obtain ⟨rfl, rfl, rfl⟩ := eg
 subst en em
 exact take_empty_spec hS hT hlS hlT hn h
end
end Go.Proofs.YtlaipllgmddkiaaGreat.Ax
namespace Go.Proofs.YtlaipllgmddkiaaGreat.Ax
open Go Go.Ax Go.Ax.M
section
variable {H : Heap} {K : AVal → Heap → Prop} {s : State} {i : Int} {oS oT oL : Nat} {fS fT fL rS rT rL : Bool}
theorem take_held_x {x0 x1 x2 : Int} {n m t : Nat} (hS : H[oS]? = some (.arr 5 (s.slots.map Slot.cells) rS)) (en : s.slots.length = n) (em : s.things.length = m) (eg : s.geo.threads = x0 ∧ s.geo.slots = x1 ∧ s.geo.things = x2) (hlS : n ≤ 1000) (h : K (.bool (heldB s t)) H) :
 ACalls Tryz.prog 262 [.agg [.int .i64 x0, .int .i64 x1, .int .i64 x2, .slice oS n 0 n fS, .slice oT m 0 m fT], .int .i64 (t : Int)] H K := by
 obtain ⟨rfl, rfl, rfl⟩ := eg
 subst en em
 exact take_held_spec hS hlS h
theorem take_lost_no {x0 x1 x2 : Int} {n m t : Nat} (hS : H[oS]? = some (.arr 5 (s.slots.map Slot.cells) rS)) (hT : H[oT]? = some (.arr 13 (s.things.map Thing.cells) rT)) (en : s.slots.length = n) (em : s.things.length = m) (eg : s.geo.threads = x0 ∧ s.geo.slots = x1 ∧ s.geo.things = x2) (hlS : n ≤ 1000) (hlT : m ≤ 1000) (hg : 0 ≤ s.geo.threads ∧ s.geo.threads ≤ 1000)
 (ht : t < m) (hlost : lostB s t = false) (h : K (.tup [.int .i64 0, .bool false]) H) :
 ACalls Tryz.prog 237 [.agg [.int .i64 x0, .int .i64 x1, .int .i64 x2, .slice oS n 0 n fS, .slice oT m 0 m fT], .int .i64 (t : Int)] H K := by
 obtain ⟨rfl, rfl, rfl⟩ := eg
 subst en em
 have kS := Keeps.of hS
 have kT := Keeps.of hT
 have hgt := things_get (s := s) ht
 have hw : IntKind.wrap .i64 (2 + s.geo.threads) = 2 + s.geo.threads := w64 (by omega) (by omega)
 have ht' : ((t : Int) < (s.things.length : Int)) = True := eq_true (by omega)
 refine ACalls.tidy ?_
 refine into ok237 ?_; (try simp only [c237, w237, kS, kT, hgt, hw, ht', n0_le, Int.toNat_natCast, go_sem]); repeat' ((first | refine orR ?_ | (refine sp ?_ ?_ <;> intro hc) | refine take_held_x (kS _) rfl rfl ⟨rfl, rfl, rfl⟩ hlS ?_) <;> try simp only [*, w237, kS, kT, hgt, hw, ht', n0_le, Int.toNat_natCast, go_sem])
 all_goals first | exact ⟨rfl, _, rfl⟩ | exact ⟨rfl, ⟨_, rfl⟩, h⟩ | (exfalso; simp [lostB, rootB, *] at hlost; done) | (exfalso; simp_all [lostB, rootB]; done)
theorem empties_len {l : List Int} : ∀ (s : State) (n : Int), (empties s n l).1.slots.length = s.slots.length ∧ (empties s n l).1.things.length = s.things.length ∧ (empties s n l).1.geo = s.geo := by
 induction l with
 | nil => exact fun s n => ⟨rfl, rfl, rfl⟩
 | cons i l ih =>
  intro s n
  have e : empties s n (i :: l) = empties (emptyE (s, n) i).1 (emptyE (s, n) i).2 l := rfl
  rw [e]
  have := ih (emptyE (s, n) i).1 (emptyE (s, n) i).2
  have h2 : (emptyE (s, n) i).1.slots.length = s.slots.length ∧ (emptyE (s, n) i).1.things.length = s.things.length ∧ (emptyE (s, n) i).1.geo = s.geo := by
   simp only [emptyE]; cases emptyB s i <;> simp [emptyS]
  exact ⟨this.1.trans h2.1, this.2.1.trans h2.2.1, this.2.2.trans h2.2.2⟩
theorem empties_succ {l : List Int} {k : Nat} {s : State} {n : Int} (hk : k < l.length) : empties s n (l.take (k + 1)) = emptyE (empties s n (l.take k)) (l.getD k 0) := by
 rw [List.take_succ_eq_append_getElem hk, empties, List.foldl_append]; simp [empties, List.getD, hk]
theorem empties_num {l : List Int} : ∀ (s : State) (n : Int), n ≤ (empties s n l).2 ∧ (empties s n l).2 ≤ n + l.length := by
 induction l with
 | nil => exact fun s n => ⟨Int.le_refl _, by simp [empties]⟩
 | cons i l ih =>
  intro s n
  have e : empties s n (i :: l) = empties (emptyE (s, n) i).1 (emptyE (s, n) i).2 l := rfl
  rw [e]
  have := ih (emptyE (s, n) i).1 (emptyE (s, n) i).2
  have h2 : n ≤ (emptyE (s, n) i).2 ∧ (emptyE (s, n) i).2 ≤ n + 1 := by
   simp only [emptyE]; cases emptyB s i <;> simp <;> omega
  simp only [List.length_cons]
  omega
end
end Go.Proofs.YtlaipllgmddkiaaGreat.Ax
namespace Go.Ax
theorem set_two {H G L : Heap} {o p : Nat} {a b y z : AObj} (h1 : o < H.length) (h2 : p < H.length) (hne : o ≠ p) :
 ((((H.set o a).set p b ++ G).set o y).set p z) ++ L = (H.set o y).set p z ++ (G ++ L) := by
 rw [List.set_append_left _ _ (by simpa using h1), List.set_append_left _ _ (by simpa using h2), List.append_assoc]
 congr 1
 rw [List.set_comm b y hne.symm, List.set_set, List.set_set]
theorem get_two1 {H G : Heap} {o p : Nat} {a b : AObj} (h1 : o < H.length) (hne : o ≠ p) : ((H.set o a).set p b ++ G)[o]? = some a := by
 rw [List.getElem?_append_left (by simpa using h1), List.getElem?_set_ne hne.symm, List.getElem?_set_self h1]
theorem get_two2 {H G : Heap} {o p : Nat} {a b : AObj} (h2 : p < H.length) : ((H.set o a).set p b ++ G)[p]? = some b := by
 rw [List.getElem?_append_left (by simpa using h2), List.getElem?_set_self (by simpa using h2)]
theorem set_two2 {H G : Heap} {o p : Nat} {a b z : AObj} (h2 : p < H.length) : ((H.set o a).set p b ++ G).set p z = (H.set o a).set p z ++ G := by
 rw [List.set_append_left _ _ (by simpa using h2), List.set_set]
theorem Hid.two1 {W H L : Heap} {o p : Nat} {a b : AObj} (h : Hid (W = (H.set o a).set p b ++ L)) (h1 : o < H.length) (hne : o ≠ p) : Keeps W o a := by
 have h : W = _ := h; rw [h]; exact .of (get_two1 h1 hne)
theorem Hid.two2 {W H L : Heap} {o p : Nat} {a b : AObj} (h : Hid (W = (H.set o a).set p b ++ L)) (h2 : p < H.length) : Keeps W p b := by
 have h : W = _ := h; rw [h]; exact .of (get_two2 h2)
theorem Hid.two3 {W H L : Heap} {o p : Nat} {a b c : AObj} (h : Hid (W = (H.set o a).set p b ++ c :: L)) : Keeps W H.length c := by
 have h : W = _ := h; rw [h]
 have := at0 (H := (H.set o a).set p b) (a := c) (L := L)
 rw [List.length_set, List.length_set] at this; exact .of this
theorem Hid.two4 {W H L : Heap} {o p : Nat} {a b c d : AObj} (h : Hid (W = (H.set o a).set p b ++ c :: d :: L)) : Keeps W (H.length + 1) d := by
 have h : W = _ := h; rw [h]
 have := at1 (H := (H.set o a).set p b) (a := c) (b := d) (L := L)
 rw [List.length_set, List.length_set] at this; exact .of this
end Go.Ax
namespace Go.Ax.M
open Go Go.Ax
theorem p2_small {b : Int} (h : 0 ≤ b ∧ b ≤ 4) : aShift .shl .i64 1 b = some (.int .i64 (p2 b)) ∧ 1 ≤ p2 b ∧ p2 b ≤ 16 := by
 have : b = 0 ∨ inB b 1 4 = true := by simp [inB]; omega
 rcases this with rfl | h
 ·have e : p2 0 = 1 := by simp [p2]
  rw [e]; exact ⟨rfl, by decide, by decide⟩
 ·have := p2_bits h
  exact ⟨shl_spec h, by omega, by omega⟩
theorem nodeL_no {x : Thing} (h : x.ty ≠ 2) : nodeL x = [] := by simp [nodeL, h]
theorem nodeL_len {x : Thing} (h : x.ty = 2) : (nodeL x).length = (p2 x.bits).toNat := by simp [nodeL, h]
theorem nodeL_get {x : Thing} (h : x.ty = 2) {k : Nat} (hk : k < (p2 x.bits).toNat) : (nodeL x).getD k 0 = x.base + k := by
 simp [nodeL, h, List.getD, hk]
end Go.Ax.M
namespace Go.Proofs.YtlaipllgmddkiaaGreat.Ax
open Go Go.Ax Go.Ax.M
section
variable {H : Heap} {K : AVal → Heap → Prop} {s : State} {i : Int} {oS oT oL : Nat} {fS fT fL rS rT rL : Bool}
theorem take_lost_x {x0 x1 x2 : Int} {n m t : Nat} (hS : H[oS]? = some (slotsO s)) (hT : H[oT]? = some (thingsO s)) (en : s.slots.length = n) (em : s.things.length = m) (eg : s.geo.threads = x0 ∧ s.geo.slots = x1 ∧ s.geo.things = x2) (hlS : n ≤ 1000) (hlT : m ≤ 1000) (hg : 0 ≤ s.geo.threads ∧ s.geo.threads ≤ 1000)
 (ht : t < m) (hb : BitsOk s) (hn : lostB s t = false → K (.tup [.int .i64 0, .bool false]) H)
 (h : lostB s t = true → ∀ L, K (.tup [.int .i64 (lostS s t).2, .bool true]) ((H.set oS (slotsO (lostS s t).1)).set oT (thingsO (lostS s t).1) ++ L)) :
 ACalls Tryz.prog 237 [.agg [.int .i64 x0, .int .i64 x1, .int .i64 x2, .slice oS n 0 n fS, .slice oT m 0 m fT], .int .i64 (t : Int)] H K := by
 cases hl : lostB s t with
 | false => exact take_lost_no hS hT en em eg hlS hlT hg ht hl (hn hl)
 | true =>
 have h := h hl
 clear hn
 obtain ⟨rfl, rfl, rfl⟩ := eg
 subst en em
 have kS : Keeps H oS (.arr 5 (s.slots.map Slot.cells) false) := Keeps.of hS
 have kT : Keeps H oT (.arr 13 (s.things.map Thing.cells) false) := Keeps.of hT
 have hne : oS ≠ oT := by rintro rfl; rw [hS] at hT; cases hT
 have lS := get_lt hS
 have lT := get_lt hT
 have hgt := things_get (s := s) ht
 have hw : IntKind.wrap .i64 (2 + s.geo.threads) = 2 + s.geo.threads := w64 (by omega) (by omega)
 have ht' : ((t : Int) < (s.things.length : Int)) = True := eq_true (by omega)
 have hbt := hb.at ht
 obtain ⟨hsh, hp1, hp2⟩ := p2_small ⟨hbt.1, hbt.2.1⟩
 have hN : (((p2 (s.thing t).bits).toNat : Nat) : Int) = p2 (s.thing t).bits := by omega
 have hN' : (p2 (s.thing t).bits).toNat ≤ 16 := by omega
 have hlos : lostS s t = ({ (empties s 0 (nodeL (s.thing t))).1 with things := (empties s 0 (nodeL (s.thing t))).1.things.set t .zero }, (empties s 0 (nodeL (s.thing t))).2) := rfl
 have lnb := hl
 simp only [lostB, Bool.and_eq_true, Bool.not_eq_true', decide_eq_false_iff_not] at lnb
 obtain ⟨hty, hroot, hheld⟩ := lnb
 have hty : ((s.thing t).ty = 0) = False := eq_false hty
 refine into ok237 ?_; (try simp only [c237, w237, kS, kT, hgt, hw, ht', hsh, hty, hheld, n0_le, Int.toNat_natCast, go_sem]); repeat' ((first | refine orR ?_ | (refine sp ?_ ?_ <;> intro hc) | refine take_held_x (kS _) rfl rfl ⟨rfl, rfl, rfl⟩ hlS ?_) <;> try simp only [*, w237, kS, kT, hgt, hw, ht', hsh, hty, hheld, n0_le, Int.toNat_natCast, go_sem])
 case' true.refine_1.refine_2 => exfalso; simp [rootB] at hroot; omega
 all_goals
  have e0 : H = (H.set oS (slotsO (empties s 0 ((nodeL (s.thing t)).take 0)).1)).set oT (thingsO (empties s 0 ((nodeL (s.thing t)).take 0)).1) := by
   simp only [List.take_zero]
   show H = (H.set oS (slotsO s)).set oT (thingsO s)
   rw [set_same hS, set_same hT]
  refine ALoop.keep [39, 8, 1, 2, 6, 38] ?_; simp only [mpC, go_sem]
  refine ALoop.heap (H' := (H.set oS (slotsO (empties s 0 ((nodeL (s.thing t)).take 0)).1)).set oT (thingsO (empties s 0 ((nodeL (s.thing t)).take 0)).1) ++ [_, _]) (congrArg (· ++ [_, _]) e0) ?_
  refine ALoop.acc (fun k G => [(39, .int .i64 (k : Int)), (8, .int .i64 (empties s 0 ((nodeL (s.thing t)).take k)).2)]) (fun k G => (H.set oS (slotsO (empties s 0 ((nodeL (s.thing t)).take k)).1)).set oT (thingsO (empties s 0 ((nodeL (s.thing t)).take k)).1) ++ _ :: _ :: G) (fun k G => True) (p2 (s.thing t).bits).toNat ?_ (a0 := []) trivial
  clear e0 kS kT
  intro k G hk _ next
  refine ALoop.hid fun W hW => ?_
  have hlen := empties_len (l := (nodeL (s.thing t)).take k) s 0
  have hnum := empties_num (l := (nodeL (s.thing t)).take k) s 0
  rw [List.length_take] at hnum
  have hsucc := fun h => empties_succ (l := nodeL (s.thing t)) (k := k) (s := s) (n := 0) h
  have hlast : (nodeL (s.thing t)).length ≤ k → empties s 0 ((nodeL (s.thing t)).take k) = empties s 0 (nodeL (s.thing t)) := fun h => by rw [List.take_of_length_le h]
  have hstay : (nodeL (s.thing t)).length ≤ k → empties s 0 ((nodeL (s.thing t)).take (k + 1)) = empties s 0 ((nodeL (s.thing t)).take k) := fun h => by rw [List.take_of_length_le h, List.take_of_length_le (by omega)]
  generalize hE : empties s 0 ((nodeL (s.thing t)).take k) = E at *
  obtain ⟨u, n⟩ := E
  simp only at hlen hnum hsucc hW hlast hstay ⊢
  obtain ⟨en, em, eg⟩ := hlen
  have hgg : u.geo.threads = s.geo.threads ∧ u.geo.slots = s.geo.slots ∧ u.geo.things = s.geo.things := by rw [eg]; exact ⟨rfl, rfl, rfl⟩
  have kS : Keeps W oS (.arr 5 (u.slots.map Slot.cells) false) := hW.two1 lS hne
  have kT : Keeps W oT (.arr 13 (u.things.map Thing.cells) false) := hW.two2 lT
  have kb := hW.two3
  have kx := hW.two4
  have kb0 := kb.at
  have kx0 := kx.at
  have kS0 := kS.at
  have kT0 := kT.at
  have hgu := things_get (s := u) (k := t) (by rw [em]; exact ht)
  have en' := hide en
  have em' := hide em
  have hwk := wrap_succ (k := k) (by omega)
  have hwn : IntKind.wrap .i64 (n + 1) = n + 1 := w64 (by omega) (by omega)
  have hwb : IntKind.wrap .i64 ((s.thing t).base + k) = (s.thing t).base + k := w64 (by omega) (by omega)
  have hlt : ((k : Int) < p2 (s.thing t).bits) = (k < (p2 (s.thing t).bits).toNat) := by rw [← hN]; simp
  refine ALoop.unfold ?_
  by_cases h2 : (s.thing t).ty = 2
  ·have hln := nodeL_len h2
   have hgn : k < (p2 (s.thing t).bits).toNat → _ := fun h => nodeL_get h2 h
   have hts := kT.set
   (try simp only [w237, kb, kx, kT, hts, hgu, hwk, hwn, hwb, hlt, h2, ht', wpx_of b237_4.eq_1, n0_le, apC, List.length_set, go_sem]); repeat' ((first | refine orR ?_ | (refine sp ?_ ?_ <;> intro hc) | refine take_empty_x (s := u) kS0 kT0 en em hgg hlS hlT (fun hc => ?_) (fun hc L => ?_)) <;> try simp only [*, w237, kb, kx, kT, hts, hgu, hwk, hwn, hwb, hlt, h2, ht', wpx_of b237_4.eq_1, n0_le, apC, List.length_set, go_sem])
   case pos.refine_1.refine_1 =>
    have e := hsucc (by omega)
    rw [hgn (by assumption)] at e
    simp only [emptyE, show emptyB u ((s.thing t).base + k) = false by assumption, cond_false] at e
    simp only [e] at next
    have hW : W = _ := hW
    subst hW
    (refine ALoop.keep [39, 8, 1, 2, 6, 38] ?_; simp only [mpC, go_sem]; refine next _ (by assumption) trivial)
   case pos.refine_1.refine_2 =>
    have e := hsucc (by omega)
    rw [hgn (by assumption)] at e
    simp only [emptyE, show emptyB u ((s.thing t).base + k) = true by assumption, cond_true] at e
    simp only [e] at next
    have hW : W = _ := hW
    subst hW
    rw [set_two lS lT hne, List.cons_append, List.cons_append]
    (refine ALoop.keep [39, 8, 1, 2, 6, 38] ?_; simp only [mpC, go_sem]; refine next _ (by assumption) trivial)
   have hk' : k = (p2 (s.thing t).bits).toNat := by omega
   have e := hlast (by omega)
   rw [hlos, ← e] at h
   have hW : W = _ := hW
   subst hW
   try simp only [List.append_eq]
   rw [set_two2 lT]
   simp only [slotsO, thingsO, List.map_set, Thing.cells, Thing.zero] at h ⊢
   exact h _
  ·have hln := nodeL_no h2
   have h2 : ((s.thing t).ty = 2) = False := eq_false h2
   have hts := kT.set
   (try simp only [w237, kb, kx, kT, hts, hgu, hwk, hwn, hwb, hlt, h2, ht', wpx_of b237_4.eq_1, n0_le, apC, List.length_set, go_sem]); repeat' ((first | refine orR ?_ | (refine sp ?_ ?_ <;> intro hc) | fail) <;> try simp only [*, w237, kb, kx, kT, hts, hgu, hwk, hwn, hwb, hlt, h2, ht', wpx_of b237_4.eq_1, n0_le, apC, List.length_set, go_sem])
   case neg.refine_1 =>
    have e := hstay (by rw [hln]; simp)
    simp only [e] at next
    have hW : W = _ := hW
    subst hW
    (refine ALoop.keep [39, 8, 1, 2, 6, 38] ?_; simp only [mpC, go_sem]; refine next _ (by assumption) trivial)
   have e := hlast (by rw [hln]; simp)
   rw [hlos, ← e] at h
   have hW : W = _ := hW
   subst hW
   try simp only [List.append_eq]
   rw [set_two2 lT]
   simp only [slotsO, thingsO, List.map_set, Thing.cells, Thing.zero] at h ⊢
   exact h _
end
end Go.Proofs.YtlaipllgmddkiaaGreat.Ax
namespace Go.Ax.M
open Go Go.Ax
theorem passes_go {k : Nat} {u v : State} {n m : Int} (h : pass u n = (v, m, true)) : passes (k + 1) u n = passes k v m := by rw [passes, h]; rfl
theorem passes_end {k : Nat} {u v : State} {n m : Int} (h : pass u n = (v, m, false)) : passes (k + 1) u n = (v, m) := by rw [passes, h]; rfl
end Go.Ax.M
namespace Go.Proofs.YtlaipllgmddkiaaGreat.Ax
open Go Go.Ax Go.Ax.M
section
variable {H : Heap} {K : AVal → Heap → Prop} {s : State} {i : Int} {oS oT oL : Nat} {fS fT fL rS rT rL : Bool}
theorem take_Empty_spec {l : List Int} (hL : H[oL]? = some (.arr 1 (ints l) rL)) (hS : H[oS]? = some (.arr 5 (s.slots.map Slot.cells) rS)) (hT : H[oT]? = some (.arr 13 (s.things.map Thing.cells) rT)) (good : sGood s = true) (hl : l.length ≤ 10000)
 (h : K (.tup [stV (takeE s l).1 H.length (H.length + 1) false false, .int .i64 (takeE s l).2]) (H ++ [slotsO (takeE s l).1, thingsO (takeE s l).1])) :
 ACalls Tryz.prog 197 [stA s oS oT fS fT, .slice oL l.length 0 l.length fL] H K := by
 have kS := Keeps.of hS
 have kT := Keeps.of hT
 have kL := Keeps.of hL
 have hlS := lS_of good
 have hlT := lT_of good
 have inv := inv_iff.1 good
 have hg : 0 ≤ s.geo.threads ∧ s.geo.threads ≤ 1000 := by
  have := inv.geo
  simp [gGood, inB] at this; omega
 have hbits := bits_good inv
 refine ACalls.gc ?_
 refine into ok197 ?_; (try simp only [c197, w197, kS, kT, kL, good, stV, slotsO, thingsO, Nat.add_assoc, go_sem]); repeat' ((first | refine orR ?_ | (refine sp ?_ ?_ <;> intro hc) | refine state_Clone_spec (kS _) (kT _) hlS hlT (lS0_of good) (lT0_of good) ?_ | refine state_Good_spec (by first | exact at0 | exact atX rfl) (by first | exact at0 | exact atX rfl) ?_) <;> try simp only [*, w197, kS, kT, kL, good, stV, slotsO, thingsO, Nat.add_assoc, go_sem])
 refine ALoop.keep [21, 6, 2, 4, 19, 20] ?_; simp only [mpC, go_sem]
 refine ALoop.acc (fun k G => [(21, .int .i64 (k : Int)), (6, .int .i64 (empties s 0 (l.take k)).2)]) (fun k G => H ++ _ :: _ :: slotsO (empties s 0 (l.take k)).1 :: thingsO (empties s 0 (l.take k)).1 :: G) (fun k G => True) l.length ?_ (a0 := []) trivial
 intro k G hk _ next
 have hlen := empties_len (l := l.take k) s 0
 have hnum := empties_num (l := l.take k) s 0
 rw [List.length_take] at hnum
 have hsucc := fun h => empties_succ (l := l) (k := k) (s := s) (n := 0) h
 have hall : k = l.length → l.take k = l := fun h => by rw [h, List.take_length]
 generalize hE : empties s 0 (l.take k) = E at *
 obtain ⟨u, n⟩ := E
 simp only at hlen hnum hsucc ⊢
 obtain ⟨en, em, eg⟩ := hlen
 have hgg : u.geo.threads = s.geo.threads ∧ u.geo.slots = s.geo.slots ∧ u.geo.things = s.geo.things := by rw [eg]; exact ⟨rfl, rfl, rfl⟩
 refine ALoop.unfold ?_
 have hw := wrap_succ (k := k) (by omega)
 have hwn : IntKind.wrap .i64 (n + 1) = n + 1 := w64 (by omega) (by omega)
 have hgl : k < l.length → _ := fun h => ints_get (l := l) (k := k) h
 have en' := hide en
 have em' := hide em
 (try simp only [w197, kS, kT, kL, hw, hwn, hgl, wpx_of b197_4.eq_1, nlt_iff, n0_le, slotsO, thingsO, Nat.add_assoc, apC, go_sem]); repeat' ((first | refine orR ?_ | (refine sp ?_ ?_ <;> intro hc) | refine take_empty_x (s := u) at2 at3 en em hgg hlS hlT (fun hc => ?_) (fun hc L => ?_)) <;> try simp only [*, w197, kS, kT, kL, hw, hwn, hgl, wpx_of b197_4.eq_1, nlt_iff, n0_le, slotsO, thingsO, Nat.add_assoc, apC, go_sem])
 case refine_1.refine_1 =>
  have e := hsucc (by assumption)
  simp only [emptyE, show emptyB u (l.getD k 0) = false by assumption, cond_false] at e
  simp only [e] at next
  (refine ALoop.keep [21, 6, 2, 4, 19, 20] ?_; simp only [mpC, go_sem]; refine next _ (by assumption) trivial)
 case refine_1.refine_2 =>
  have e := hsucc (by assumption)
  simp only [emptyE, show emptyB u (l.getD k 0) = true by assumption, cond_true] at e
  simp only [e] at next
  (refine ALoop.keep [21, 6, 2, 4, 19, 20] ?_; simp only [mpC, go_sem]; refine next _ (by assumption) trivial)
 have hk' : k = l.length := by omega
 rw [hall hk'] at hE
 have less : Less s u := by have := empties_less (s := s) (n := 0) (l := l); rw [hE] at this; exact this
 have hpas : takeE s l = passes (s.things.length + 1) u n := by simp only [takeE, hE]
 rw [hpas] at h
 have hku : kinds u + 0 ≤ s.things.length := by have := kinds_le (u := u); omega
 have hn0 : 0 ≤ n ∧ n ≤ 10000 + 16000 * ((0 : Nat) : Int) := by omega
 clear next hsucc hall hE hw hwn hgl hk' hk hpas hnum en em eg hgg en' em' kS kT kL
 refine ALoop.keep [9, 6, 2, 4] ?_; simp only [mpC, go_sem]
 refine ALoop.acc (α := (State × Int) × Heap) (fun k a => [(9, .bool true), (6, .int .i64 a.1.2)]) (fun k a => H ++ _ :: _ :: slotsO a.1.1 :: thingsO a.1.1 :: a.2) (fun k a => Less s a.1.1 ∧ kinds a.1.1 + k ≤ s.things.length ∧ 0 ≤ a.1.2 ∧ a.1.2 ≤ 10000 + 16000 * (k : Int) ∧ passes (s.things.length + 1 - k) a.1.1 a.1.2 = passes (s.things.length + 1) u n) s.things.length ?_ (a0 := ((u, n), G)) ⟨less, hku, hn0.1, hn0.2, rfl⟩
 clear less hku hn0
 intro k a hk I next
 obtain ⟨⟨v, m⟩, G⟩ := a
 obtain ⟨lv, hkk, m0, m1, hps⟩ := I
 simp only at lv hkk m0 m1 hps next ⊢
 refine ALoop.unfold ?_
 (try simp only [w197, wpx_of b197_11.eq_1, slotsO, thingsO, Nat.add_assoc, apC, go_sem]); repeat' ((first | refine orR ?_ | (refine sp ?_ ?_ <;> intro hc) | fail) <;> try simp only [*, w197, wpx_of b197_11.eq_1, slotsO, thingsO, Nat.add_assoc, apC, go_sem])
 refine ALoop.keep [35, 6, 9, 2, 4, 34] ?_; simp only [mpC, go_sem]
 refine ALoop.acc (fun j G => [(35, .int .i64 (j : Int)), (6, .int .i64 (rounds v m j).2.1), (9, .bool (rounds v m j).2.2)]) (fun j G => H ++ _ :: _ :: slotsO (rounds v m j).1 :: thingsO (rounds v m j).1 :: G) (fun j G => True) s.things.length ?_ (a0 := G) trivial
 intro j G hj _ next2
 have hst := round_less (u := v) (n := m) (lv.bits hbits) j (by rw [lv.lT]; exact hj)
 have hsucc : rounds v m (j + 1) = lostE (rounds v m j) j := round_succ
 have hall : j = s.things.length → pass v m = rounds v m j := fun e => by rw [pass_rounds, lv.lT, e]
 generalize rounds v m j = p at *
 obtain ⟨w, q, f⟩ := p
 simp only at hst hsucc ⊢
 obtain ⟨lw, hkw, q0, q1⟩ := hst
 have lsw := lv.trans lw
 have hbw := lsw.bits hbits
 have en := lsw.lS
 have em := lsw.lT
 have eg := lsw.geo
 have hgg : w.geo.threads = s.geo.threads ∧ w.geo.slots = s.geo.slots ∧ w.geo.things = s.geo.things := by rw [eg]; exact ⟨rfl, rfl, rfl⟩
 have hgc : 0 ≤ w.geo.threads ∧ w.geo.threads ≤ 1000 := by rw [eg]; exact hg
 have hlost : j < s.things.length → lostB w j = true → 0 ≤ (lostS w j).2 ∧ (lostS w j).2 ≤ 16 := fun hj hl => by
  have := lost_less hl (by rw [em]; exact hj)
  exact ⟨this.2.2.1, this.2.2.2 hbw⟩
 have en' := hide en
 have em' := hide em
 refine ALoop.unfold ?_
 have hw := wrap_succ (k := j) (by omega)
 have hwq : IntKind.wrap .i64 q = q := w64 (by omega) (by omega)
 have hwr : j < s.things.length → lostB w j = true → IntKind.wrap .i64 (q + (lostS w j).2) = q + (lostS w j).2 := fun h1 h2 => by
  have := hlost h1 h2
  exact w64 (by omega) (by omega)
 clear hlost
 (try simp only [w197, hw, hwq, hwr, wpx_of b197_9.eq_1, nlt_iff, n0_le, slotsO, thingsO, Nat.add_assoc, Int.add_zero, apC, go_sem]); repeat' ((first | refine orR ?_ | (refine sp ?_ ?_ <;> intro hc) | refine take_lost_x (s := w) at2 at3 en em hgg hlS hlT hgc (by assumption) hbw (fun hc => ?_) (fun hc L => ?_)) <;> try simp only [*, w197, hw, hwq, hwr, wpx_of b197_9.eq_1, nlt_iff, n0_le, slotsO, thingsO, Nat.add_assoc, Int.add_zero, apC, go_sem])
 case refine_2.refine_1.refine_1 =>
  simp only [lostE, show lostB w j = false by assumption, cond_false] at hsucc
  simp only [hsucc] at next2
  (refine ALoop.keep [35, 6, 9, 2, 4, 34] ?_; simp only [mpC, go_sem]; refine next2 _ (by assumption) trivial)
 case refine_2.refine_1.refine_2 =>
  simp only [lostE, show lostB w j = true by assumption, cond_true] at hsucc
  simp only [hsucc] at next2
  (refine ALoop.keep [35, 6, 9, 2, 4, 34] ?_; simp only [mpC, go_sem]; refine next2 _ (by assumption) trivial)
 have hp := hall (by omega)
 have eN : s.things.length + 1 - k = (s.things.length - k) + 1 := by omega
 rw [eN] at hps
 clear next2 hsucc hall hw hwq hwr
 cases f with
 | true =>
  rw [passes_go hp] at hps
  simp only [cond_true] at hkw
  (refine ALoop.keep [9, 6, 2, 4] ?_; simp only [mpC, go_sem]; refine next ((w, q), G) (by omega) ⟨lsw, by simp only; omega, by simp only; omega, by simp only; omega, by simp only; rw [← hps]; congr 1; omega⟩)
 | false =>
  rw [passes_end hp] at hps
  rw [← hps] at h
  simp only at h
  clear hps next
  refine ALoop.keep [9, 6, 2, 4] ?_; simp only [mpC, go_sem]
  refine ALoop.unfold ?_
  (try simp only [w197, wpx_of b197_11.eq_1, slotsO, thingsO, Nat.add_assoc, apC, go_sem]); repeat' ((first | refine orR ?_ | (refine sp ?_ ?_ <;> intro hc) | fail) <;> try simp only [*, w197, wpx_of b197_11.eq_1, slotsO, thingsO, Nat.add_assoc, apC, go_sem])
  refine Gc.stN (s' := w) (r := some w) (i := 2) (j := 3) rfl rfl (fun s' e => ?_) (by decide) (by simp [AVal.plain, plains]) en.symm em.symm ⟨hgg.1.symm, hgg.2.1.symm, hgg.2.2.symm⟩ rfl
  injection e with e
  subst e
  exact h
end
end Go.Proofs.YtlaipllgmddkiaaGreat.Ax
namespace Go.Ax.M
open Go Go.Ax
end Go.Ax.M
namespace Go.Proofs.YtlaipllgmddkiaaGreat.Ax
open Go Go.Ax Go.Ax.M
section
variable {H : Heap} {K : AVal → Heap → Prop} {s u : State} {th n : Int} {a b : List Int} {oS oT oA oB : Nat} {fS fT fA fB rS rT rA rB : Bool}
end
end Go.Proofs.YtlaipllgmddkiaaGreat.Ax
namespace Go.Proofs.YtlaipllgmddkiaaGreat.Ax
open Go Go.Ax Go.Ax.M
set_option maxRecDepth 100000
section
variable {H : Heap} {K : AVal → Heap → Prop} {up : List Int} {o : Nat} {f ro fl : Bool}
theorem behind_none {oX : Nat} {fX : Bool} (ho : H[o]? = some (.arr 1 (ints up) ro)) (h : K (.lit (.slice none 0 0)) H) : ACalls Tryz.prog 234 [.agg [.slice o up.length 0 up.length fl], .slice oX 0 0 0 fX] H K := by
 refine ACalls.gc ?_
 refine into ok234 ?_; (try simp only [c234, w234, go_sem]); repeat' ((first | refine orR ?_ | (refine sp ?_ ?_ <;> intro hc) | fail) <;> try simp only [*, w234, go_sem])
 refine ALoop.unfold ?_
 (try simp only [w234, wpx_of b234_3.eq_1, go_sem]); repeat' ((first | refine orR ?_ | (refine sp ?_ ?_ <;> intro hc) | fail) <;> try simp only [*, w234, wpx_of b234_3.eq_1, go_sem])
 exact Gc.old (by simp [AVal.refs]) h
theorem behind_spec : ∀ (n : Nat) (l : List Int) (H : Heap) (K : AVal → Heap → Prop) (oX : Nat) (fX rX : Bool), Deep up n l → (bh up n l).length ≤ 1000000 → up.length ≤ 1000 → H[o]? = some (.arr 1 (ints up) ro) → H[oX]? = some (.arr 1 (ints l) rX) →
 (l = [] → K (.lit (.slice none 0 0)) H) → (l ≠ [] → K (.slice H.length (bh up n l).length 0 (bh up n l).length false) (H ++ [.arr 1 (ints (bh up n l)) false])) →
 ACalls Tryz.prog 234 [.agg [.slice o up.length 0 up.length fl], .slice oX l.length 0 l.length fX] H K := by
 intro n
 induction n with
 | zero =>
  intro l H K oX fX rX hd hlen hup ho hX hn h
  have hd : l = [] := hd
  subst hd
  exact behind_none ho (hn rfl)
 | succ n ih =>
  intro l H K oX fX rX hd hlen hup ho hX hn h
  by_cases hl0 : l = []
  ·subst hl0; exact behind_none ho (hn rfl)
  have h := h hl0
  have kO := Keeps.of ho
  have kX := Keeps.of hX
  refine ACalls.gc ?_
  refine into ok234 ?_; (try simp only [c234, w234, kO, kX, go_sem]); repeat' ((first | refine orR ?_ | (refine sp ?_ ?_ <;> intro hc) | fail) <;> try simp only [*, w234, kO, kX, go_sem])
  refine ALoop.keep [5, 10, 2, 8, 9] ?_; simp only [mpC, go_sem]
  refine ALoop.lay 1 ?_
  simp only [go_sem]
  refine ALoop.acc (fun k G => [(5, .slice (H.length + 1) (bh up (n + 1) (l.take k)).length 0 (bh up (n + 1) (l.take k)).length false), (10, .int .i64 (k : Int))]) (fun k G => H ++ _ :: .arr 1 (ints (bh up (n + 1) (l.take k))) false :: G) (fun k G => True) l.length ?_ (a0 := []) trivial
  intro k G hk _ next
  refine ALoop.hid fun W hW => ?_
  have hl1 : l.length ≤ 1000000 := by rw [bh_level] at hlen; omega
  have kO := kO.ex hW.ex
  have kX := kX.ex hW.ex
  have kst := hW.keep0
  have ko := hW.keep1
  have kst0 := kst.at
  have ko0 := ko.at
  have kX0 := kX.at
  have kO0 := kO.at
  have kos := ko.set
  have hw := wrap_succ (k := k) (by omega)
  refine ALoop.unfold ?_
  by_cases hkl : k < l.length
  ·have hg := ints_get (l := l) (k := k) hkl
   have hmem : l.getD k 0 ∈ l := by simp [List.getD, hkl]
   have hdeep := hd _ hmem
   have hpart := bh_part (up := up) (n := n) hmem
   have hsucc : bh up (n + 1) (l.take (k + 1)) = bh up (n + 1) (l.take k) ++ l.getD k 0 :: bh up n (fOf up (l.getD k 0)) := by
    rw [List.take_succ_eq_append_getElem hkl, bh_append, bh_cons, bh_nil, List.append_nil]; simp [List.getD, hkl]
   have hlen2 : (bh up (n + 1) (l.take (k + 1))).length ≤ (bh up (n + 1) l).length := by
    conv => rhs; rw [← List.take_append_drop (k + 1) l, bh_append, List.length_append]
    omega
   rw [hsucc, List.length_append, List.length_cons] at hlen2
   have hlen2 := hlen2
   generalize l.getD k 0 = i at *
   generalize bh up (n + 1) (l.take k) = A at *
   have hb : (A.length + 1) * 8 ≤ 140737488355328 := by omega
   have fO := kO.other (i := H.length + 1) (by have := get_lt ho; omega)
   have fX := kX.other (i := H.length + 1) (by have := get_lt hX; omega)
   have fst := kst.other (i := H.length + 1) (by omega)
   have hself := ko.self
   clear hmem hlen2 hd
   (try simp only [w234, kst0, ko0, kX0, kO0, kX, kst, ko, kO, kos, hw, hg, hkl, hb, fst, wpx_of b234_3.eq_1, nlt_iff, n0_le, apC, go_sem]); repeat' ((first | refine orR ?_ | (refine sp ?_ ?_ <;> intro hc) | fail) <;> try simp only [*, w234, kst0, ko0, kX0, kO0, kX, kst, ko, kO, kos, hw, hg, hkl, hb, fst, wpx_of b234_3.eq_1, nlt_iff, n0_le, apC, go_sem])
   obtain ⟨V, hV⟩ : ∃ V, List.set W (H.length + 1) (.arr 1 (ints A ++ [[.int .i64 i]]) false) ++ [.arr 1 [[.int .i64 i]] false] = V := ⟨_, rfl⟩
   have vO : Keeps V o (.arr 1 (ints up) ro) := fun L => by rw [← hV, List.append_assoc]; exact fO _ _
   have vst := fun L => show (V ++ L)[H.length]? = some _ by rw [← hV, List.append_assoc]; exact fst _ _
   have vo : Keeps V (H.length + 1) (.arr 1 (ints A ++ [[.int .i64 i]]) false) := fun L => by rw [← hV, List.append_assoc]; exact hself _ _
   have vos := vo.set
   rw [hV]
   have hV : Hid (_ = V) := hV
   clear kO kX kst ko kst0 ko0 kX0 kO0 kos fO fX fst hself hg
   refine forest_of_spec (up := up) vO.at hup ?_
   simp only [go_sem]
   have hb2 : (A.length + 1 + (bh up n (fOf up i)).length) * 8 ≤ 140737488355328 := by omega
   have hti : List.take (bh up n (fOf up i)).length (ints (bh up n (fOf up i))) = ints (bh up n (fOf up i)) := List.take_of_length_le (by simp [ints])
   have hne : fOf up i ≠ [] → (ints (bh up n (fOf up i)) = []) = False := fun h => eq_false (by have := bh_some hdeep h; simp [ints]; exact this)
   (try simp only [w234, vst, vo, vos, hb, hw, hb2, hti, hne, go_sem]); repeat' ((first | refine orR ?_ | (refine sp ?_ ?_ <;> intro hc) | refine ih (fOf up i) _ _ V.length false false hdeep (by omega) hup (vO _) at0 (fun hc => ?_) (fun hc => ?_)) <;> try simp only [*, w234, vst, vo, vos, hb, hw, hb2, hti, hne, go_sem])
   case pos.refine_1 =>
    have e : bh up n (fOf up i) = [] := by rw [show fOf up i = [] by assumption, bh_nil]
    have hV : _ = V := hV
    subst hV
    have hW : W = _ := hW
    subst hW
    rw [hsucc, e] at next
    simp only [go_sem, ints_append, ints_cons, ints_nil, List.length_append, List.length_cons, List.length_nil, List.append_assoc, apC] at next ⊢
    (refine ALoop.keep [5, 10, 2, 8, 9] ?_; simp only [mpC, go_sem]; refine next _ hkl)
   case pos.refine_2 =>
    have hV : _ = V := hV
    subst hV
    have hW : W = _ := hW
    subst hW
    have e2 : (A ++ i :: bh up n (fOf up i)).length = A.length + 1 + (bh up n (fOf up i)).length := by simp; omega
    rw [hsucc, e2] at next
    simp only [go_sem, ints_append, ints_cons, ints_nil, List.append_assoc, apC] at next ⊢
    (refine ALoop.keep [5, 10, 2, 8, 9] ?_; simp only [mpC, go_sem]; refine next _ hkl)
  ·have hk' : k = l.length := by omega
   subst hk'
   (try simp only [w234, kst0, ko0, kX0, kO0, kX, kst, ko, kO, hw, hkl, wpx_of b234_3.eq_1, nlt_iff, n0_le, apC, go_sem]); repeat' ((first | refine orR ?_ | (refine sp ?_ ?_ <;> intro hc) | fail) <;> try simp only [*, w234, kst0, ko0, kX0, kO0, kX, kst, ko, kO, hw, hkl, wpx_of b234_3.eq_1, nlt_iff, n0_le, apC, go_sem])
   have hW : W = _ := hW
   subst hW
   rw [List.take_length]
   exact Gc.slice (i := 1) rfl ints_plain h
end
end Go.Proofs.YtlaipllgmddkiaaGreat.Ax
namespace Go.Ax.M
open Go Go.Ax
theorem sortedI_nil : sortedI [] = [] := by simp [sortedI]
theorem sortedI_ne {l : List Int} (h : l ≠ []) : sortedI l ≠ [] := by
 intro e
 have := congrArg List.length e
 rw [sortedI_length] at this
 exact h (List.length_eq_zero_iff.1 this)
theorem below_deep {up : List Int} {i : Int} (hm : fMay up i = true) : Deep up (up.length + 2) (fOf up i) := by
 have hg : fGood up = true ∧ fIs up i = true := by simpa [fMay] using hm
 have hends : ∀ k : Nat, k < up.length → fEnds up (up.length + 1) (k : Int) = true := fun k hk => by
  have := hg.1
  simp only [fGood, Bool.and_eq_true] at this
  exact List.all_eq_true.1 this.2.2 k (List.mem_range.2 hk)
 have hi0 : 0 ≤ i := by have := hg.2; simp [fIs] at this; omega
 refine deep_of hends _ 0 _ (by omega) fun k hk => ?_
 obtain ⟨k0, k1, k2⟩ := fOf_mem.1 hk
 have : fIs up k = true := by
  simp only [fIs, Bool.and_eq_true, decide_eq_true_eq, Bool.not_eq_true', decide_eq_false_iff_not]
  exact ⟨k0, k1, by rw [k2]; omega⟩
 exact ⟨this, by simp [fEnds, this]⟩
theorem below_len {up : List Int} {i : Int} : (bh up (up.length + 2) (fOf up i)).length ≤ (up.length + 2) * up.length :=
 bh_len _ _ fOf_nodup fun k hk => ⟨(fOf_mem.1 hk).1, (fOf_mem.1 hk).2.1⟩
end Go.Ax.M
namespace Go.Proofs.YtlaipllgmddkiaaGreat.Ax
open Go Go.Ax Go.Ax.M
set_option maxRecDepth 100000
section
variable {H : Heap} {K : AVal → Heap → Prop} {up l : List Int} {o : Nat} {f ro fl : Bool} {i : Int}
theorem sort_spec (ho : H[o]? = some (.arr 1 (ints l) false)) (h0 : 0 < l.length) (hl : l.length ≤ 1000000) (h : K (.tup []) (H.set o (.arr 1 (ints (sortedI l)) false))) :
 ACalls Tryz.prog 138 [.slice o l.length 0 l.length fl] H K :=
 ACalls.sortInts (fun blk off cap zs w h1 h2 h3 => Any.slices_Sort_int Tryz.lays189 blk off cap zs w h1 h2 h3) ho h0 hl h
theorem sort_nil (h : K (.tup []) H) : ACalls Tryz.prog 138 [.lit (.slice none 0 0)] H K :=
 ACalls.sortNone (fun p cap w => Any.slices_Sort_int_none Tryz.lays189 p cap w) h
theorem forest_Below_spec (ho : H[o]? = some (.arr 1 (ints up) ro)) (hlen : up.length ≤ 900) (hn : fBelowS up i = [] → K (.lit (.slice none 0 0)) H)
 (h : fBelowS up i ≠ [] → K (.slice H.length (fBelowS up i).length 0 (fBelowS up i).length false) (H ++ [.arr 1 (ints (fBelowS up i)) false])) :
 ACalls Tryz.prog 196 [.agg [.slice o up.length 0 up.length fl], .int .i64 i] H K := by
 have kO := Keeps.of ho
 cases hm : fMay up i with
 | false =>
  have e : fBelowS up i = [] := by simp only [fBelowS, hm, cond_false]
  refine ACalls.gc ?_
  refine into ok196 ?_; (try simp only [c196, w196, kO, hm, go_sem]); repeat' ((first | refine orR ?_ | (refine sp ?_ ?_ <;> intro hc) | refine forest_may_spec (up := up) (kO _) ?_) <;> try simp only [*, w196, kO, hm, go_sem])
  exact Gc.old (by simp [AVal.refs]) (hn e)
 | true =>
  have hd := below_deep hm
  have hlb := below_len (up := up) (i := i)
  have hlb2 : (up.length + 2) * up.length ≤ 902 * 900 := Nat.mul_le_mul (by omega) hlen
  have e : fBelowS up i = sortedI (bh up (up.length + 2) (fOf up i)) := by simp only [fBelowS, hm, cond_true]
  by_cases hz : fOf up i = []
  ·have e2 : fBelowS up i = [] := by rw [e, hz, bh_nil, sortedI_nil]
   refine ACalls.gc ?_
   refine into ok196 ?_; (try simp only [c196, w196, kO, hm, ints, List.map_nil, List.length_nil, go_sem]); repeat' ((first | refine orR ?_ | (refine sp ?_ ?_ <;> intro hc) | refine forest_may_spec (up := up) (kO _) ?_ | refine forest_of_spec (up := up) (kO _) (by omega) ?_ | refine behind_none (up := up) (kO _) ?_ | refine sort_nil ?_) <;> try simp only [*, w196, kO, hm, ints, List.map_nil, List.length_nil, go_sem])
   exact Gc.old (by simp [AVal.refs]) (hn e2)
  ·have hb := bh_some hd hz
   have hlen0 : 0 < (bh up (up.length + 2) (fOf up i)).length := List.length_pos_iff.2 hb
   have h := h (by rw [e]; exact sortedI_ne hb)
   rw [e, sortedI_length] at h
   refine ACalls.gc ?_
   refine into ok196 ?_; (try simp only [c196, w196, kO, hm, go_sem]); repeat' ((first | refine orR ?_ | (refine sp ?_ ?_ <;> intro hc) | refine forest_may_spec (up := up) (kO _) ?_ | refine forest_of_spec (up := up) (kO _) (by omega) ?_ | refine behind_spec (up := up) _ (fOf up i) _ _ _ false false hd (by omega) (by omega) (kO _) (by first | exact at0 | exact atX rfl) (fun hc => absurd hc hz) (fun hc => ?_) | refine sort_spec (l := bh up (up.length + 2) (fOf up i)) (by first | exact at0 | exact atX rfl) hlen0 (by omega) ?_) <;> try simp only [*, w196, kO, hm, go_sem])
   exact Gc.slice (i := 2) rfl ints_plain h
theorem forest_Below_x {n : Nat} (en : up.length = n) (ho : H[o]? = some (.arr 1 (ints up) ro)) (hlen : n ≤ 900) (hn : fBelowS up i = [] → K (.lit (.slice none 0 0)) H)
 (h : fBelowS up i ≠ [] → K (.slice H.length (fBelowS up i).length 0 (fBelowS up i).length false) (H ++ [.arr 1 (ints (fBelowS up i)) false])) :
 ACalls Tryz.prog 196 [.agg [.slice o n 0 n fl], .int .i64 i] H K := by
 subst en; exact forest_Below_spec ho hlen hn h
end
end Go.Proofs.YtlaipllgmddkiaaGreat.Ax
namespace Go.Ax.M
open Go Go.Ax
theorem below_le {s : State} {i : Int} (h : Inv s) : (fBelowS (sForest s) i).length ≤ 10000 := by
 cases hm : fMay (sForest s) i with
 | false => simp [fBelowS, hm]
 | true =>
  have hl : (sForest s).length ≤ 96 := by
   have := h.ok.forest
   simp only [fGood, Bool.and_eq_true, decide_eq_true_eq] at this; exact this.1
  simp only [fBelowS, hm, cond_true, sortedI_length]
  have h1 := below_len (up := sForest s) (i := i)
  have h2 : ((sForest s).length + 2) * (sForest s).length ≤ 98 * 96 := Nat.mul_le_mul (by omega) hl
  omega
end Go.Ax.M
namespace Go.Proofs.YtlaipllgmddkiaaGreat.Ax
open Go Go.Ax Go.Ax.M
section
variable {H : Heap} {K : AVal → Heap → Prop} {s : State} {th x y w : Int} {a b : List Int} {oS oT oA oB : Nat} {fS fT rS rT fA fB rA rB : Bool}
theorem take_Empty_nil (hS : H[oS]? = some (.arr 5 (s.slots.map Slot.cells) rS)) (hT : H[oT]? = some (.arr 13 (s.things.map Thing.cells) rT)) (good : sGood s = true)
 (h : K (.tup [stV (takeE s []).1 H.length (H.length + 1) false false, .int .i64 (takeE s []).2]) (H ++ [slotsO (takeE s []).1, thingsO (takeE s []).1])) :
 ACalls Tryz.prog 197 [stA s oS oT fS fT, .lit (.slice none 0 0)] H K := by
 refine ACalls.gc (ACalls.lay 1 ?_)
 simp only [Go.Ax.fillN, Go.Ax.fill1, go_sem]
 have kS := Keeps.of hS
 have kT := Keeps.of hT
 refine take_Empty_spec (l := []) (oL := H.length) (rL := false) (fL := false) at0 (kS _) (kT _) good (by decide) ?_
 have := Gc.stateT (H := H) (L := .arr 1 [] false :: [slotsO (takeE s []).1, thingsO (takeE s []).1]) (K := K) (i := 1) (j := 2) (s := (takeE s []).1) (f := false) (f' := false) (l := [.int .i64 (takeE s []).2]) rfl rfl (by decide) (by simp [AVal.plain, plains]) h
 simpa [List.append_assoc, Nat.add_assoc] using this
theorem take_Do_spec : DoSpec 120 takeN := by
 intro H K s th c oS oT oA oB fS fT rS rT fA fB rA rB hS hT hA hB h h'
 obtain ⟨op, a, b, x, y, w⟩ := c
 have kT := Keeps.of hT
 have kS := Keeps.of hS
 have kA := Keeps.of hA
 have kB := Keeps.of hB
 have key : ∀ e : Int, takeN s th ⟨op, a, b, x, y, w⟩ = ⟨e, 0, 0, none⟩ → K (.tup [stA s oS oT fS fT, .agg [.int .i64 e, .int .u64 0, .int .i64 0]]) H := fun e he => by rw [he] at h; exact h rfl
 have hv := fun (e v n : Int) => show (AVal.tup [stA s oS oT fS fT, .agg [.int .i64 e, .int .u64 v, .int .i64 n]]).refs (fun o => o < H.length) by simp [AVal.refs, refsL]; exact ⟨get_lt hS, get_lt hT⟩
 clear h
 cases hcg : callGood ⟨op, a, b, x, y, w⟩ with
 | false =>
  refine ACalls.gc ?_
  refine into ok120 ?_; (try simp only [c120, w120, stV, slotsO, thingsO, Nat.add_assoc, hcg, go_sem]); repeat' ((first | refine orR ?_ | (refine sp ?_ ?_ <;> intro hc) | refine call_Good_spec (c := ⟨op, a, b, x, y, w⟩) (kA _) (kB _) ?_) <;> try simp only [*, w120, stV, slotsO, thingsO, Nat.add_assoc, hcg, go_sem])
  exact Gc.old (hv _ _ _) (key _ (by simp only [takeN, hcg, Bool.not_false, Bool.true_or, cond_true, Res.bad]))
 | true =>
 by_cases hf : (fCap s th a).2.2 = 0
 ·have hgood : sGood s = true := (fCap_ok hf).1.ok.good
  have hlF : (sForest s).length = s.slots.length := by simp [sForest]
  have hl9 : s.slots.length ≤ 900 := by
   have := (fCap_ok hf).1.ok.forest
   simp only [fGood, Bool.and_eq_true, decide_eq_true_eq, hlF] at this; omega
  have hlb : (fBelowS (sForest s) (fCap s th a).1).length ≤ 10000 := below_le (fCap_ok hf).1
  by_cases h5 : op = 5
  ·subst h5
   have e : takeN s th ⟨5, a, b, x, y, w⟩ = ⟨0, 0, (takeE s [(fCap s th a).1]).2, some (takeE s [(fCap s th a).1]).1⟩ := by simp [takeN, hcg, hf]
   have h' := h' _ (by rw [e])
   rw [e] at h'
   clear key hl9 hlb hlF
   refine ACalls.gc ?_
   refine into ok120 ?_; (try simp only [c120, w120, stV, slotsO, thingsO, Nat.add_assoc, Cap.cells, hcg, hf, go_sem]); repeat' ((first | refine orR ?_ | (refine sp ?_ ?_ <;> intro hc) | refine call_Good_spec (c := ⟨5, a, b, x, y, w⟩) (kA _) (kB _) ?_ | refine find_Cap_spec (kS _) (kT _) (kA _) ?_ | refine take_Empty_spec (l := [(fCap s th a).1]) (s := s) (by first | exact at0 | exact atX rfl) (kS _) (kT _) hgood (by simp) ?_) <;> try simp only [*, w120, stV, slotsO, thingsO, Nat.add_assoc, Cap.cells, hcg, hf, go_sem])
   exact Gc.stateT (i := 6) (j := 7) rfl rfl (by decide) (by simp [AVal.plain, plains]) h'
  by_cases h6 : op = 6
  ·subst h6
   have e : takeN s th ⟨6, a, b, x, y, w⟩ = ⟨0, 0, (takeE s (fBelowS (sForest s) (fCap s th a).1)).2, some (takeE s (fBelowS (sForest s) (fCap s th a).1)).1⟩ := by simp [takeN, hcg, hf]
   have h' := h' _ (by rw [e])
   rw [e] at h'
   clear key h5
   by_cases hz : fBelowS (sForest s) (fCap s th a).1 = []
   ·rw [hz] at h'
    refine ACalls.gc ?_
    refine into ok120 ?_; (try simp only [c120, w120, stV, slotsO, thingsO, Nat.add_assoc, Cap.cells, hcg, hf, go_sem]); repeat' ((first | refine orR ?_ | (refine sp ?_ ?_ <;> intro hc) | refine call_Good_spec (c := ⟨6, a, b, x, y, w⟩) (kA _) (kB _) ?_ | refine find_Cap_spec (kS _) (kT _) (kA _) ?_ | refine state_Forest_spec (s := s) (kS _) (lS_of hgood) ?_ | refine forest_Below_x (up := sForest s) hlF (by first | exact at0 | exact atX rfl) hl9 (fun hc => ?_) (fun hc => absurd hz hc) | refine take_Empty_nil (s := s) (kS _) (kT _) hgood ?_) <;> try simp only [*, w120, stV, slotsO, thingsO, Nat.add_assoc, Cap.cells, hcg, hf, go_sem])
    exact Gc.stateT (i := 7) (j := 8) rfl rfl (by decide) (by simp [AVal.plain, plains]) h'
   ·refine ACalls.gc ?_
    refine into ok120 ?_; (try simp only [c120, w120, stV, slotsO, thingsO, Nat.add_assoc, Cap.cells, hcg, hf, go_sem]); repeat' ((first | refine orR ?_ | (refine sp ?_ ?_ <;> intro hc) | refine call_Good_spec (c := ⟨6, a, b, x, y, w⟩) (kA _) (kB _) ?_ | refine find_Cap_spec (kS _) (kT _) (kA _) ?_ | refine state_Forest_spec (s := s) (kS _) (lS_of hgood) ?_ | refine forest_Below_x (up := sForest s) hlF (by first | exact at0 | exact atX rfl) hl9 (fun hc => absurd hc hz) (fun hc => ?_) | refine take_Empty_spec (l := fBelowS (sForest s) (fCap s th a).1) (s := s) (by first | exact at0 | exact atX rfl) (kS _) (kT _) hgood hlb ?_) <;> try simp only [*, w120, stV, slotsO, thingsO, Nat.add_assoc, Cap.cells, hcg, hf, go_sem])
    exact Gc.stateT (i := 8) (j := 9) rfl rfl (by decide) (by simp [AVal.plain, plains]) h'
  have e : takeN s th ⟨op, a, b, x, y, w⟩ = ⟨1, 0, 0, none⟩ := by simp [takeN, h5, h6, Res.bad]
  clear hlb hl9 hlF
  refine ACalls.gc ?_
  refine into ok120 ?_; (try simp only [c120, w120, stV, slotsO, thingsO, Nat.add_assoc, Cap.cells, hcg, hf, h5, h6, go_sem]); repeat' ((first | refine orR ?_ | (refine sp ?_ ?_ <;> intro hc) | refine call_Good_spec (c := ⟨op, a, b, x, y, w⟩) (kA _) (kB _) ?_) <;> try simp only [*, w120, stV, slotsO, thingsO, Nat.add_assoc, Cap.cells, hcg, hf, h5, h6, go_sem])
  exact Gc.old (hv _ _ _) (key _ e)
 ·by_cases h56 : op = 5 ∨ op = 6
  ·have e : takeN s th ⟨op, a, b, x, y, w⟩ = ⟨(fCap s th a).2.2, 0, 0, none⟩ := by
    rcases h56 with h | h <;> (subst h; simp [takeN, hcg, hf, Res.bad])
   rcases h56 with rfl | rfl
   all_goals
    refine ACalls.gc ?_
    refine into ok120 ?_; (try simp only [c120, w120, stV, slotsO, thingsO, Nat.add_assoc, Cap.cells, hcg, hf, go_sem]); repeat' ((first | refine orR ?_ | (refine sp ?_ ?_ <;> intro hc) | refine call_Good_spec (c := ⟨_, a, b, x, y, w⟩) (kA _) (kB _) ?_ | refine find_Cap_spec (kS _) (kT _) (kA _) ?_) <;> try simp only [*, w120, stV, slotsO, thingsO, Nat.add_assoc, Cap.cells, hcg, hf, go_sem])
    exact Gc.old (hv _ _ _) (key _ e)
  ·have h5 : ¬ op = 5 := fun h => h56 (.inl h)
   have h6 : ¬ op = 6 := fun h => h56 (.inr h)
   have e : takeN s th ⟨op, a, b, x, y, w⟩ = ⟨1, 0, 0, none⟩ := by simp [takeN, h5, h6, Res.bad]
   refine ACalls.gc ?_
   refine into ok120 ?_; (try simp only [c120, w120, stV, slotsO, thingsO, Nat.add_assoc, Cap.cells, hcg, hf, h5, h6, go_sem]); repeat' ((first | refine orR ?_ | (refine sp ?_ ?_ <;> intro hc) | refine call_Good_spec (c := ⟨op, a, b, x, y, w⟩) (kA _) (kB _) ?_) <;> try simp only [*, w120, stV, slotsO, thingsO, Nat.add_assoc, Cap.cells, hcg, hf, h5, h6, go_sem])
   exact Gc.old (hv _ _ _) (key _ e)
end
end Go.Proofs.YtlaipllgmddkiaaGreat.Ax

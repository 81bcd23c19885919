/- Copies and moves: what the program's functions answer, on. Conditions: none. -/
import Derived.Test.YtipigjckoejfpaaGreatSForest2Z
import Derived.Test.YtipigjckoejfpaaGreatSDoZ
import Derived.Test.YtipigjckoejfpaaGreatSGiveZ
set_option linter.unusedSimpArgs false
set_option linter.unusedVariables false
namespace Go.Ax.M
open Go Go.Ax

def mvPart (s : State) (fr to : Int) (k : Nat) : List Slot := (List.range s.slots.length).map fun i => ⟨(mvSlot s fr to i).cap, if i < k then (mvSlot s fr to i).up else (s.slot i).up⟩
def tPart (s : State) (fr to : Int) (k : Nat) : List Thing := (List.range s.things.length).map fun i => if i < k then mvThing fr to (s.thing i) else s.thing i
theorem mvPart_len {s : State} {fr to : Int} {k : Nat} : (mvPart s fr to k).length = s.slots.length := by simp [mvPart]
theorem tPart_len {s : State} {fr to : Int} {k : Nat} : (tPart s fr to k).length = s.things.length := by simp [tPart]
theorem mvPart_get {s : State} {fr to : Int} {k i : Nat} (h : i < s.slots.length) : ((mvPart s fr to k).map Slot.cells)[i]? = some [.int .i64 (mvSlot s fr to i).cap.ty, .int .i64 (mvSlot s fr to i).cap.th, .int .i64 (mvSlot s fr to i).cap.ri, .int .i64 (mvSlot s fr to i).cap.ba, .int .i64 (if i < k then (mvSlot s fr to i).up else (s.slot i).up)] := by
  simp [mvPart, h, Slot.cells]
theorem mvPart_set {s : State} {fr to : Int} {k : Nat} (h : k < s.slots.length) : ((mvPart s fr to k).map Slot.cells).set k [.int .i64 (mvSlot s fr to k).cap.ty, .int .i64 (mvSlot s fr to k).cap.th, .int .i64 (mvSlot s fr to k).cap.ri, .int .i64 (mvSlot s fr to k).cap.ba, .int .i64 (mvSlot s fr to k).up] = (mvPart s fr to (k + 1)).map Slot.cells := by
  apply List.ext_getElem?
  intro i
  by_cases hi : i < s.slots.length
  · by_cases e : k = i
    · subst e
      rw [List.getElem?_set_self (by rw [List.length_map, mvPart_len]; exact hi), mvPart_get hi, if_pos (by omega)]
    · rw [List.getElem?_set_ne e, mvPart_get hi, mvPart_get hi]
      by_cases e2 : i < k
      · rw [if_pos e2, if_pos (by omega)]
      · rw [if_neg e2, if_neg (by omega)]
  · rw [List.getElem?_eq_none (by rw [List.length_set, List.length_map, mvPart_len]; omega), List.getElem?_eq_none (by rw [List.length_map, mvPart_len]; omega)]
theorem mvPart_zero {s : State} {fr to : Nat} (hf : fr < s.slots.length) (ht : to < s.slots.length) (hne : fr ≠ to) :
    ((s.slots.map Slot.cells).set to [.int .i64 (s.slot fr).cap.ty, .int .i64 (s.slot fr).cap.th, .int .i64 (s.slot fr).cap.ri, .int .i64 (s.slot fr).cap.ba, .int .i64 (s.slot to).up]).set fr [.int .i64 0, .int .i64 0, .int .i64 0, .int .i64 0, .int .i64 (s.slot fr).up] = (mvPart s fr to 0).map Slot.cells := by
  apply List.ext_getElem?
  intro i
  by_cases hi : i < s.slots.length
  · rw [mvPart_get hi, if_neg (by omega)]
    by_cases e : fr = i
    · subst e
      rw [List.getElem?_set_self (by simpa using hi)]
      simp [mvSlot, Cap.zero]
    · rw [List.getElem?_set_ne e]
      have e' : ¬ ((i : Int) = (fr : Int)) := by omega
      by_cases e2 : to = i
      · subst e2
        rw [List.getElem?_set_self (by simpa using hi)]
        simp only [mvSlot, if_neg e', if_true, Int.toNat_natCast]
      · have e2' : ¬ ((i : Int) = (to : Int)) := by omega
        rw [List.getElem?_set_ne e2, slots_get hi]
        simp only [mvSlot, if_neg e', if_neg e2']
  · rw [List.getElem?_eq_none (by simp; omega), List.getElem?_eq_none (by rw [List.length_map, mvPart_len]; omega)]
theorem mvPart_all {s : State} {fr to : Int} : mvPart s fr to s.slots.length = (movedS s fr to).slots := by
  simp only [mvPart, movedS]
  refine List.map_congr_left fun i hi => ?_
  rw [if_pos (List.mem_range.1 hi)]
theorem tPart_zero {s : State} {fr to : Int} : tPart s fr to 0 = s.things := by
  apply List.ext_getElem (by simp [tPart])
  intro i h1 h2
  simp [tPart, State.thing, List.getD, h2]
theorem tPart_all {s : State} {fr to : Int} : tPart s fr to s.things.length = (movedS s fr to).things := by
  apply List.ext_getElem (by simp [tPart, movedS])
  intro i h1 h2
  have h3 : i < s.things.length := by simpa [tPart] using h1
  simp [tPart, movedS, State.thing, List.getD, h3]
theorem tPart_get {s : State} {fr to : Int} {k : Nat} (h : k < s.things.length) : ((tPart s fr to k).map Thing.cells)[k]? = some [.int .i64 (s.thing k).ty, .int .i64 (s.thing k).bits, .int .i64 (s.thing k).base, .int .i64 (s.thing k).size, .int .i64 (s.thing k).used, .int .i64 (s.thing k).from_, .int .i64 (s.thing k).badge, .bool (s.thing k).full, .int .u64 (s.thing k).word, .int .u64 (s.thing k).d0, .int .u64 (s.thing k).d1, .int .u64 (s.thing k).d2, .int .u64 (s.thing k).d3] := by
  simp [tPart, h, Thing.cells]
theorem tPart_succ {s : State} {fr to : Int} {k : Nat} (h : k < s.things.length) : tPart s fr to (k + 1) = (tPart s fr to k).set k (mvThing fr to (s.thing k)) := by
  apply List.ext_getElem (by simp [tPart])
  intro i h1 h2
  have h3 : i < s.things.length := by simpa [tPart] using h1
  rw [List.getElem_set]
  by_cases e : k = i
  · subst e; simp [tPart]
  · rw [if_neg e]
    simp only [tPart, List.getElem_map, List.getElem_range]
    by_cases e2 : i < k
    · rw [if_pos e2, if_pos (by omega)]
    · rw [if_neg e2, if_neg (by omega)]
theorem tPart_skip {s : State} {fr to : Int} {k : Nat} (h : k < s.things.length) (hn : ¬ (s.thing k).from_ = fr + 1) : tPart s fr to (k + 1) = tPart s fr to k := by
  rw [tPart_succ h, show mvThing fr to (s.thing k) = s.thing k by simp [mvThing, hn]]
  apply List.ext_getElem (by simp)
  intro i h1 h2
  rw [List.getElem_set]
  by_cases e : k = i
  · subst e; simp [tPart]
  · rw [if_neg e]
theorem tPart_set {s : State} {fr to : Int} {k : Nat} (h : k < s.things.length) (hn : (s.thing k).from_ = fr + 1) : ((tPart s fr to k).map Thing.cells).set k [.int .i64 (s.thing k).ty, .int .i64 (s.thing k).bits, .int .i64 (s.thing k).base, .int .i64 (s.thing k).size, .int .i64 (s.thing k).used, .int .i64 (to + 1), .int .i64 (s.thing k).badge, .bool (s.thing k).full, .int .u64 (s.thing k).word, .int .u64 (s.thing k).d0, .int .u64 (s.thing k).d1, .int .u64 (s.thing k).d2, .int .u64 (s.thing k).d3] = (tPart s fr to (k + 1)).map Thing.cells := by
  rw [tPart_succ h, List.map_set]
  congr 1
  simp [mvThing, hn, Thing.cells]
end Go.Ax.M
namespace Go.Proofs.YtipigjckoejfpaaGreat.Ax
open Go Go.Ax Go.Ax.M
set_option linter.unusedSimpArgs false
set_option linter.unusedVariables false
section
variable {H : Heap} {K : AVal → Heap → Prop} {s : State} {oS oT : Nat} {fS fT rS rT : Bool}

theorem give_moved_spec {fr to : Int} (hS : H[oS]? = some (.arr 5 (s.slots.map Slot.cells) rS)) (hT : H[oT]? = some (.arr 13 (s.things.map Thing.cells) rT)) (m : Moves s fr.toNat to.toNat) (f0 : 0 ≤ fr) (t0 : 0 ≤ to)
    (h : K (stV (movedS s fr to) H.length (H.length + 1) false false) (H ++ [slotsO (movedS s fr to), thingsO (movedS s fr to)])) : ACalls Tryz.prog 213 [.agg [.int .i64 s.geo.threads, .int .i64 s.geo.slots, .int .i64 s.geo.things, .slice oS s.slots.length 0 s.slots.length fS, .slice oT s.things.length 0 s.things.length fT], .int .i64 fr, .int .i64 to] H K := by
  obtain ⟨fr, rfl⟩ : ∃ n : Nat, fr = n := ⟨fr.toNat, by omega⟩
  obtain ⟨to, rfl⟩ : ∃ n : Nat, to = n := ⟨to.toNat, by omega⟩
  simp only [Int.toNat_natCast] at m
  have kT := Keeps.of hT
  have kS := Keeps.of hS
  have hg := m.inv.ok.good
  have hlS := lS_of hg
  have hf := m.hf
  have ht := m.ht
  have hne := m.ne
  have hup : fMoveB (sForest s) fr to = true := by
    have hu : ∀ i, i < s.slots.length → s.non i → -1 ≤ (s.slot i).up := fun i hi hn => by rcases m.inv.up i hi hn with h | h <;> omega
    simp only [fMoveB, fMay, m.inv.ok.forest, Bool.true_and, Bool.and_eq_true, decide_eq_true_eq, sForest_length, Bool.not_eq_true']
    refine ⟨(forest_is hu).2 ⟨by omega, by omega, by simpa using m.hfn⟩, by omega, by omega, ?_⟩
    cases hi : fIs (sForest s) to with
    | false => rfl
    | true =>
      have := ((forest_is hu).1 hi).2.2
      simp only [State.non, Int.toNat_natCast, m.hte] at this; cases this
  have hl2 : (sForest s).length ≤ 1000 := by rw [sForest_length]; exact hlS
  have hl3 : 0 < (sForest s).length := by rw [sForest_length]; omega
  have hgF := slots_get (s := s) hf
  have hgT := slots_get (s := s) ht
  have hgF2 : ∀ X, ((s.slots.map Slot.cells).set to X)[fr]? = some [.int .i64 (s.slot fr).cap.ty, .int .i64 (s.slot fr).cap.th, .int .i64 (s.slot fr).cap.ri, .int .i64 (s.slot fr).cap.ba, .int .i64 (s.slot fr).up] := fun X => by rw [List.getElem?_set_ne (Ne.symm hne)]; exact slots_get hf
  have hr : (0 ≤ (fr : Int)) = True ∧ ((fr : Int) < (s.slots.length : Int)) = True ∧ (0 ≤ (to : Int)) = True ∧ ((to : Int) < (s.slots.length : Int)) = True := ⟨by simp, eq_true (by omega), by simp, eq_true (by omega)⟩
  refine ACalls.gc ?_
  refine ACalls.into ok213 (Nat.le_of_ble_eq_true rfl) ?_; (try simp only [c213, wpx_of k213_0.eq_1, wpx_of k213_1.eq_1, wpx_of k213_3.eq_1, wpx_of k213_4.eq_1, wpx_of k213_5.eq_1, wpx_of k213_7.eq_1, wpx_of k213_8.eq_1, wpx_of k213_9.eq_1, wpx_of k213_10.eq_1, wpx_of k213_11.eq_1, stV, slotsO, thingsO, Nat.add_assoc, sForest_length, hgF, hgT, hgF2, hr, Int.toNat_natCast, List.length_set, go_sem]); repeat' ((first
    | refine And.intro (Or.inr rfl) ?_
    | ((first | refine cB ?_ ?_ | refine gT ?_ ?_ | refine gF ?_ ?_ | refine dT ?_ ?_ | refine dF ?_ ?_) <;> intro hc)
    | refine state_Forest_spec (kS _) hlS ?_
    | (rw [← sForest_length]; refine forest_Move_spec (up := sForest s) (by first | exact at0 | exact at1 | exact at2 | exact at3 | exact at4 | exact at5 | exact at6 | exact at7 | exact at8 | exact at9 | exact at10 | exact at11 | exact at12 | exact at13 | exact at14 | exact at15 | exact at16 | exact atX rfl) hl2 hl3 hup ?_)
    | refine state_Clone_spec (kS _) (kT _) (lS_of hg) (lT_of hg) (lS0_of hg) (lT0_of hg) ?_) <;> try simp only [*, wpx_of k213_0.eq_1, wpx_of k213_1.eq_1, wpx_of k213_3.eq_1, wpx_of k213_4.eq_1, wpx_of k213_5.eq_1, wpx_of k213_7.eq_1, wpx_of k213_8.eq_1, wpx_of k213_9.eq_1, wpx_of k213_10.eq_1, wpx_of k213_11.eq_1, stV, slotsO, thingsO, Nat.add_assoc, sForest_length, hgF, hgT, hgF2, hr, Int.toNat_natCast, List.length_set, go_sem])
  rw [mvPart_zero hf ht hne]
  have hfl : (fMove (sForest s) fr to).length = s.slots.length := by simp only [fMove, List.length_set]; rw [(fold_set _ _).1, sForest_length]
  have hlT := lT_of hg
  obtain ⟨F, hF⟩ : ∃ F, Hid (F = fMove (sForest s) fr to) := hide _
  have hF' : F = _ := hF
  rw [← hF'] at hfl ⊢
  clear hF' hgF hgT hgF2 hup
  refine ALoop.keep [42, 1, 2, 3, 6, 40, 41] ?_; simp only [List.map_cons, List.map_nil, go_sem]
  refine ALoop.acc (fun k (_ : Unit) => [(42, .int .i64 (k : Int))]) (fun k _ => H ++ _ :: _ :: _ :: _ :: _ :: .arr 5 ((mvPart s fr to k).map Slot.cells) false :: [_]) (fun k _ => True) s.slots.length ?_ (a0 := ()) trivial
  rintro k - hk - next
  refine ALoop.unfold ?_
  have hw := wrap_succ (k := k) (by omega)
  have hgp : k < s.slots.length → _ := fun h => mvPart_get (s := s) (fr := fr) (to := to) (k := k) h
  have hgf : k < s.slots.length → (ints F)[k]? = some [.int .i64 (F.getD k 0)] := fun h => ints_get (by rw [hfl]; exact h)
  have hmp : (mvPart s fr to k).length = s.slots.length := mvPart_len
  (try simp only [wpx_of k213_0.eq_1, wpx_of k213_1.eq_1, wpx_of k213_3.eq_1, wpx_of k213_4.eq_1, wpx_of k213_5.eq_1, wpx_of k213_7.eq_1, wpx_of k213_8.eq_1, wpx_of k213_9.eq_1, wpx_of k213_10.eq_1, wpx_of k213_11.eq_1, hw, hgp, hgf, hmp, wpx_of b213_2.eq_1, nlt_iff, n0_le, stV, slotsO, thingsO, Nat.add_assoc, List.length_set, List.cons_append, List.nil_append, go_sem]); repeat' ((first
    | refine And.intro (Or.inr rfl) ?_
    | ((first | refine cB ?_ ?_ | refine gT ?_ ?_ | refine gF ?_ ?_ | refine dT ?_ ?_ | refine dF ?_ ?_) <;> intro hc)) <;> try simp only [*, wpx_of k213_0.eq_1, wpx_of k213_1.eq_1, wpx_of k213_3.eq_1, wpx_of k213_4.eq_1, wpx_of k213_5.eq_1, wpx_of k213_7.eq_1, wpx_of k213_8.eq_1, wpx_of k213_9.eq_1, wpx_of k213_10.eq_1, wpx_of k213_11.eq_1, hw, hgp, hgf, hmp, wpx_of b213_2.eq_1, nlt_iff, n0_le, stV, slotsO, thingsO, Nat.add_assoc, List.length_set, List.cons_append, List.nil_append, go_sem])
  · have hk : k < s.slots.length := by assumption
    have eu : (if -1 > F.getD k 0 then -1 else F.getD k 0) = (mvSlot s fr to k).up := by
      have hF : F = _ := hF
      simp only [mvSlot, ← hF]
      split <;> omega
    rw [eu, mvPart_set hk]
    (refine ALoop.keep [42, 1, 2, 3, 6, 40, 41] ?_; simp only [List.map_cons, List.map_nil, go_sem]; refine next () hk trivial)
  · have hk : k = s.slots.length := by omega
    subst hk
    rw [mvPart_all]
    have hml : (movedS s fr to).slots.length = s.slots.length := movedS_len
    refine ALoop.heap (H' := H ++ _ :: _ :: _ :: _ :: _ :: _ :: .arr 13 ((tPart s fr to 0).map Thing.cells) false :: []) (by rw [tPart_zero]) ?_
    clear next hw hgp hgf hmp
    refine ALoop.keep [58, 1, 2, 3, 6, 57] ?_; simp only [List.map_cons, List.map_nil, go_sem]
    refine ALoop.acc (fun k (_ : Unit) => [(58, .int .i64 (k : Int))]) (fun k _ => H ++ _ :: _ :: _ :: _ :: _ :: _ :: .arr 13 ((tPart s fr to k).map Thing.cells) false :: []) (fun k _ => True) s.things.length ?_ (a0 := ()) trivial
    rintro k - hk - next
    refine ALoop.unfold ?_
    have hw := wrap_succ (k := k) (by omega)
    have hw1 := wrap_succ (k := fr) (by omega)
    have hw2 := wrap_succ (k := to) (by omega)
    have hgp : k < s.things.length → _ := fun h => tPart_get (s := s) (fr := fr) (to := to) (k := k) h
    have hmp : (tPart s fr to k).length = s.things.length := tPart_len
    (try simp only [wpx_of k213_0.eq_1, wpx_of k213_1.eq_1, wpx_of k213_3.eq_1, wpx_of k213_4.eq_1, wpx_of k213_5.eq_1, wpx_of k213_7.eq_1, wpx_of k213_8.eq_1, wpx_of k213_9.eq_1, wpx_of k213_10.eq_1, wpx_of k213_11.eq_1, hw, hw1, hw2, hgp, hmp, hml, wpx_of b213_6.eq_1, nlt_iff, n0_le, stV, slotsO, thingsO, Nat.add_assoc, List.length_set, List.cons_append, List.nil_append, go_sem]); repeat' ((first
    | refine And.intro (Or.inr rfl) ?_
    | ((first | refine cB ?_ ?_ | refine gT ?_ ?_ | refine gF ?_ ?_ | refine dT ?_ ?_ | refine dF ?_ ?_) <;> intro hc)) <;> try simp only [*, wpx_of k213_0.eq_1, wpx_of k213_1.eq_1, wpx_of k213_3.eq_1, wpx_of k213_4.eq_1, wpx_of k213_5.eq_1, wpx_of k213_7.eq_1, wpx_of k213_8.eq_1, wpx_of k213_9.eq_1, wpx_of k213_10.eq_1, wpx_of k213_11.eq_1, hw, hw1, hw2, hgp, hmp, hml, wpx_of b213_6.eq_1, nlt_iff, n0_le, stV, slotsO, thingsO, Nat.add_assoc, List.length_set, List.cons_append, List.nil_append, go_sem])
    · have hk : k < s.things.length := by assumption
      have hn : (s.thing k).from_ = ((fr + 1 : Nat) : Int) := by assumption
      rw [show ((to + 1 : Nat) : Int) = (to : Int) + 1 from rfl, tPart_set hk (by omega)]
      (refine ALoop.keep [58, 1, 2, 3, 6, 57] ?_; simp only [List.map_cons, List.map_nil, go_sem]; refine next () hk trivial)
    · have hk : k < s.things.length := by assumption
      have hn : ¬ (s.thing k).from_ = ((fr + 1 : Nat) : Int) := by assumption
      rw [← tPart_skip (fr := fr) (to := to) hk (by omega)]
      (refine ALoop.keep [58, 1, 2, 3, 6, 57] ?_; simp only [List.map_cons, List.map_nil, go_sem]; refine next () hk trivial)
    · have hk : k = s.things.length := by omega
      subst hk
      have hmt : (movedS s fr to).things.length = s.things.length := movedS_lenT
      rw [tPart_all, ← hml, ← hmt]
      exact Gc.state (s := movedS s fr to) (i := 5) (j := 6) rfl rfl (by decide) h

theorem movedS_geo {fr to : Int} : (movedS s fr to).geo = s.geo := rfl

theorem give_ring_x {x0 x1 x2 x3 to : Int} (hS : H[oS]? = some (.arr 5 (s.slots.map Slot.cells) rS)) (hT : H[oT]? = some (.arr 13 (s.things.map Thing.cells) rT)) (h : K (.bool (ringM s ⟨x0, x1, x2, x3⟩ to)) H) : ACalls Tryz.prog 212 [.agg [.int .i64 s.geo.threads, .int .i64 s.geo.slots, .int .i64 s.geo.things, .slice oS s.slots.length 0 s.slots.length fS, .slice oT s.things.length 0 s.things.length fT], .agg [.int .i64 x0, .int .i64 x1, .int .i64 x2, .int .i64 x3], .int .i64 to] H K := give_ring_spec (c := ⟨x0, x1, x2, x3⟩) hS hT h
theorem give_done_spec {th : Int} {c : M.Call} {oA oB : Nat} {fA fB rA rB : Bool} (hS : H[oS]? = some (.arr 5 (s.slots.map Slot.cells) rS)) (hT : H[oT]? = some (.arr 13 (s.things.map Thing.cells) rT)) (hA : H[oA]? = some (.arr 1 (ints c.a) rA)) (hB : H[oB]? = some (.arr 1 (ints c.b) rB))
    (h : (giveM s th c).st = none → K (.tup [.agg [.int .i64 s.geo.threads, .int .i64 s.geo.slots, .int .i64 s.geo.things, .slice oS s.slots.length 0 s.slots.length fS, .slice oT s.things.length 0 s.things.length fT], .int .i64 (giveM s th c).err]) H)
    (h' : ∀ s', (giveM s th c).st = some s' → K (.tup [stV s' H.length (H.length + 1) false false, .int .i64 0]) (H ++ [slotsO s', thingsO s'])) :
    ACalls Tryz.prog 128 [.agg [.int .i64 s.geo.threads, .int .i64 s.geo.slots, .int .i64 s.geo.things, .slice oS s.slots.length 0 s.slots.length fS, .slice oT s.things.length 0 s.things.length fT], .int .i64 th, .agg [.int .i64 c.op, .slice oA c.a.length 0 c.a.length fA, .slice oB c.b.length 0 c.b.length fB, .int .i64 c.x, .int .i64 c.y, .int .u64 c.w]] H K := by
  have kT := Keeps.of hT
  have kS := Keeps.of hS
  have kA := Keeps.of hA
  have kB := Keeps.of hB
  have key : ∀ e, giveM s th c = .bad e → K (.tup [.agg [.int .i64 s.geo.threads, .int .i64 s.geo.slots, .int .i64 s.geo.things, .slice oS s.slots.length 0 s.slots.length fS, .slice oT s.things.length 0 s.things.length fT], .int .i64 e]) H := fun e he => by rw [he] at h; exact h rfl
  have hv := fun e => show (AVal.tup [.agg [.int .i64 s.geo.threads, .int .i64 s.geo.slots, .int .i64 s.geo.things, .slice oS s.slots.length 0 s.slots.length fS, .slice oT s.things.length 0 s.things.length fT], .int .i64 e]).refs (fun o => o < H.length) by simp [AVal.refs, refsL]; exact ⟨get_lt hS, get_lt hT⟩
  clear h
  refine ACalls.gc ?_
  refine ACalls.into ok128 (Nat.le_of_ble_eq_true rfl) ?_; (try simp only [c128, wpx_of k128_0.eq_1, wpx_of k128_1.eq_1, wpx_of k128_2.eq_1, wpx_of k128_3.eq_1, wpx_of k128_4.eq_1, wpx_of k128_5.eq_1, wpx_of k128_6.eq_1, wpx_of k128_7.eq_1, wpx_of k128_8.eq_1, wpx_of k128_9.eq_1, wpx_of k128_10.eq_1, wpx_of k128_11.eq_1, wpx_of k128_12.eq_1, wpx_of k128_13.eq_1, wpx_of k128_14.eq_1, wpx_of k128_15.eq_1, wpx_of k128_16.eq_1, wpx_of k128_17.eq_1, wpx_of k128_18.eq_1, stV, slotsO, thingsO, Nat.add_assoc, Cap.cells, putS_geo, putS_len, putS_things, movedS_geo, movedS_len, movedS_lenT, go_sem]); repeat' ((first
    | refine And.intro (Or.inr rfl) ?_
    | ((first | refine cB ?_ ?_ | refine gT ?_ ?_ | refine gF ?_ ?_ | refine dT ?_ ?_ | refine dF ?_ ?_) <;> intro hc)
    | refine call_Good_spec (kA _) (kB _) ?_
    | refine find_Cap_spec (kS _) (kT _) (kA _) ?_
    | refine find_Empty_spec (kS _) (kT _) (kB _) ?_
    | refine cap_Cut_x ?_
    | refine cap_Stamp_x ?_
    | refine give_ring_x (kS _) (kT _) ?_
    | refine give_Put_x (kS _) (kT _) (fun hc => ?_) (fun hc => ?_)
    | refine give_moved_spec (kS _) (kT _) (moves_of (by assumption) (by assumption) (by assumption)) (fCap_lt (by assumption)).1 (fEmpty_ok (by assumption)).2.1 ?_) <;> try simp only [*, wpx_of k128_0.eq_1, wpx_of k128_1.eq_1, wpx_of k128_2.eq_1, wpx_of k128_3.eq_1, wpx_of k128_4.eq_1, wpx_of k128_5.eq_1, wpx_of k128_6.eq_1, wpx_of k128_7.eq_1, wpx_of k128_8.eq_1, wpx_of k128_9.eq_1, wpx_of k128_10.eq_1, wpx_of k128_11.eq_1, wpx_of k128_12.eq_1, wpx_of k128_13.eq_1, wpx_of k128_14.eq_1, wpx_of k128_15.eq_1, wpx_of k128_16.eq_1, wpx_of k128_17.eq_1, wpx_of k128_18.eq_1, stV, slotsO, thingsO, Nat.add_assoc, Cap.cells, putS_geo, putS_len, putS_things, movedS_geo, movedS_len, movedS_lenT, go_sem])
  all_goals try exact Gc.old (hv _) (key _ (by (first | (simp only [giveM, giveIn, giveX, *, cond_true, cond_false, Bool.and_true, Bool.true_and, Bool.and_false, Bool.false_and, Bool.or_true, Bool.true_or, Bool.or_false, Bool.false_or, Bool.not_true, Bool.not_false, decide_true, decide_false, go_sem]; done) | (simp_all [giveM, giveIn, giveX]; done) | (simp_all [giveM, giveIn, giveX]; omega) | grind [giveM, giveIn, giveX])))
  all_goals clear key hv
  · exact Gc.stN (i := 4) (j := 5) rfl rfl h' (hn := movedS_len.symm) (hm := movedS_lenT.symm) (e := by clear h'; (first | (simp only [giveM, giveIn, giveX, *, cond_true, cond_false, Bool.and_true, Bool.true_and, Bool.and_false, Bool.false_and, Bool.or_true, Bool.true_or, Bool.or_false, Bool.false_or, Bool.not_true, Bool.not_false, decide_true, decide_false, go_sem]; done) | (simp_all [giveM, giveIn, giveX]; done) | (simp_all [giveM, giveIn, giveX]; omega) | grind [giveM, giveIn, giveX]))
  · exact Gc.stN (i := 4) (j := 5) rfl rfl h' (hn := putS_len.symm) (hm := rfl) (e := by clear h'; (first | (simp only [giveM, giveIn, giveX, *, cond_true, cond_false, Bool.and_true, Bool.true_and, Bool.and_false, Bool.false_and, Bool.or_true, Bool.true_or, Bool.or_false, Bool.false_or, Bool.not_true, Bool.not_false, decide_true, decide_false, go_sem]; done) | (simp_all [giveM, giveIn, giveX]; done) | (simp_all [giveM, giveIn, giveX]; omega) | grind [giveM, giveIn, giveX]))
  · exact Gc.stN (i := 4) (j := 5) rfl rfl h' (hn := putS_len.symm) (hm := rfl) (e := by clear h'; (first | (simp only [giveM, giveIn, giveX, *, cond_true, cond_false, Bool.and_true, Bool.true_and, Bool.and_false, Bool.false_and, Bool.or_true, Bool.true_or, Bool.or_false, Bool.false_or, Bool.not_true, Bool.not_false, decide_true, decide_false, go_sem]; done) | (simp_all [giveM, giveIn, giveX]; done) | (simp_all [giveM, giveIn, giveX]; omega) | grind [giveM, giveIn, giveX]))

theorem give_Do_spec : DoSpec 43 giveM := by
  intro H K s th c oS oT oA oB fS fT rS rT fA fB rA rB hS hT hA hB h h'
  have kT := Keeps.of hT
  have kS := Keeps.of hS
  have kA := Keeps.of hA
  have kB := Keeps.of hB
  have hn : (giveM s th c).st = none → ((giveM s th c).err = 0) = False := fun h => eq_false (giveM_none h)
  refine ACalls.gc ?_
  refine ACalls.into ok43 (Nat.le_of_ble_eq_true rfl) ?_; (try simp only [c43, wpx_of k43_0.eq_1, wpx_of k43_1.eq_1, wpx_of k43_2.eq_1, wpx_of k43_3.eq_1, stV, slotsO, thingsO, Nat.add_assoc, hn, go_sem]); repeat' ((first
    | refine And.intro (Or.inr rfl) ?_
    | ((first | refine cB ?_ ?_ | refine gT ?_ ?_ | refine gF ?_ ?_ | refine dT ?_ ?_ | refine dF ?_ ?_) <;> intro hc)
    | refine give_done_spec (kS _) (kT _) (kA _) (kB _) (fun hc => ?_) (fun s' hc => (fun e => ?_) (giveM_some hc).2.2.2.1)) <;> try simp only [*, wpx_of k43_0.eq_1, wpx_of k43_1.eq_1, wpx_of k43_2.eq_1, wpx_of k43_3.eq_1, stV, slotsO, thingsO, Nat.add_assoc, hn, go_sem])
  · obtain ⟨e, -, he⟩ := giveM_bad (s := s) (th := th) (c := c) (by assumption)
    have h := h (by rw [he]; rfl)
    rw [he] at h ⊢
    exact Gc.old (by simp [AVal.refs, refsL]; exact ⟨get_lt hS, get_lt hT⟩) h
  · exact Gc.stN (i := 4) (j := 5) rfl rfl (r := (giveM s th c).st) (fun s' e => by have := h' s' e; have e2 := (giveM_some e).2.2.2.1; rw [e2] at this; exact this) (hn := rfl) (hm := rfl) (e := by assumption)
end
end Go.Proofs.YtipigjckoejfpaaGreat.Ax

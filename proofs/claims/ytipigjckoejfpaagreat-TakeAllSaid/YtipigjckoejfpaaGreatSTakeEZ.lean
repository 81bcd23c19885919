/- Emptied, and all that goes with it: what the program's function answers. Conditions: none. -/
import Derived.Test.YtipigjckoejfpaaGreatZTk
set_option linter.unusedSimpArgs false
set_option linter.unusedVariables false
namespace Go.Ax.M
open Go Go.Ax
theorem passes_go {k : Nat} {u v : State} {n m : Int} (h : pass u n = (v, m, true)) : passes (k + 1) u n = passes k v m := by rw [passes, h]; rfl
theorem passes_end {k : Nat} {u v : State} {n m : Int} (h : pass u n = (v, m, false)) : passes (k + 1) u n = (v, m) := by rw [passes, h]; rfl
end Go.Ax.M
namespace Go.Proofs.YtipigjckoejfpaaGreat.Ax
open Go Go.Ax Go.Ax.M
set_option linter.unusedSimpArgs false
set_option linter.unusedVariables false
section
variable {H : Heap} {K : AVal → Heap → Prop} {s : State} {i : Int} {oS oT oL : Nat} {fS fT fL rS rT rL : Bool}

theorem take_Empty_spec {l : List Int} (hL : H[oL]? = some (.arr 1 (ints l) rL)) (hS : H[oS]? = some (.arr 5 (s.slots.map Slot.cells) rS)) (hT : H[oT]? = some (.arr 13 (s.things.map Thing.cells) rT)) (good : sGood s = true) (hl : l.length ≤ 1000)
    (h : K (.tup [stV (takeE s l).1 H.length (H.length + 1) false false, .int .i64 (takeE s l).2]) (H ++ [slotsO (takeE s l).1, thingsO (takeE s l).1])) :
    ACalls Tryz.prog 69 [.agg [.int .i64 s.geo.threads, .int .i64 s.geo.slots, .int .i64 s.geo.things, .slice oS s.slots.length 0 s.slots.length fS, .slice oT s.things.length 0 s.things.length fT], .slice oL l.length 0 l.length fL] H K := by
  have kS := Keeps.of hS
  have kT := Keeps.of hT
  have kL := Keeps.of hL
  have hlS := lS_of good
  have hlT := lT_of good
  have inv := inv_iff.1 good
  have hg : 0 ≤ s.geo.threads ∧ s.geo.threads ≤ 1000 := by
    have := inv.geo
    simp [gGood, inB] at this; omega
  have hbits := bits_good inv
  refine ACalls.gc ?_
  refine ACalls.into ok69 (Nat.le_of_ble_eq_true rfl) ?_; (try simp only [c69, wpx_of k69_0.eq_1, wpx_of k69_1.eq_1, wpx_of k69_2.eq_1, wpx_of k69_3.eq_1, wpx_of k69_5.eq_1, wpx_of k69_6.eq_1, wpx_of k69_7.eq_1, wpx_of k69_8.eq_1, wpx_of k69_10.eq_1, wpx_of k69_12.eq_1, wpx_of k69_13.eq_1, wpx_of k69_14.eq_1, wpx_of k69_15.eq_1, wpx_of k69_16.eq_1, kS, kT, kL, good, stV, slotsO, thingsO, Nat.add_assoc, go_sem]); repeat' ((first
    | refine And.intro (Or.inr rfl) ?_
    | ((first | refine cB ?_ ?_ | refine gT ?_ ?_ | refine gF ?_ ?_ | refine dT ?_ ?_ | refine dF ?_ ?_) <;> intro hc)
    | refine state_Clone_spec (kS _) (kT _) hlS hlT (lS0_of good) (lT0_of good) ?_
    | refine state_Good_spec (by first | exact at0 | exact at1 | exact at2 | exact at3 | exact at4 | exact at5 | exact at6 | exact at7 | exact at8 | exact at9 | exact at10 | exact at11 | exact at12 | exact at13 | exact at14 | exact at15 | exact at16 | exact atX rfl) (by first | exact at0 | exact at1 | exact at2 | exact at3 | exact at4 | exact at5 | exact at6 | exact at7 | exact at8 | exact at9 | exact at10 | exact at11 | exact at12 | exact at13 | exact at14 | exact at15 | exact at16 | exact atX rfl) ?_) <;> try simp only [*, wpx_of k69_0.eq_1, wpx_of k69_1.eq_1, wpx_of k69_2.eq_1, wpx_of k69_3.eq_1, wpx_of k69_5.eq_1, wpx_of k69_6.eq_1, wpx_of k69_7.eq_1, wpx_of k69_8.eq_1, wpx_of k69_10.eq_1, wpx_of k69_12.eq_1, wpx_of k69_13.eq_1, wpx_of k69_14.eq_1, wpx_of k69_15.eq_1, wpx_of k69_16.eq_1, kS, kT, kL, good, stV, slotsO, thingsO, Nat.add_assoc, go_sem])
  refine ALoop.keep [21, 6, 2, 4, 19, 20] ?_; simp only [List.map_cons, List.map_nil, go_sem]
  refine ALoop.acc (fun k G => [(21, .int .i64 (k : Int)), (6, .int .i64 (empties s 0 (l.take k)).2)]) (fun k G => H ++ _ :: _ :: slotsO (empties s 0 (l.take k)).1 :: thingsO (empties s 0 (l.take k)).1 :: G) (fun k G => True) l.length ?_ (a0 := []) trivial
  intro k G hk _ next
  have hlen := empties_len (l := l.take k) s 0
  have hnum := empties_num (l := l.take k) s 0
  rw [List.length_take] at hnum
  have hsucc := fun h => empties_succ (l := l) (k := k) (s := s) (n := 0) h
  have hall : k = l.length → l.take k = l := fun h => by rw [h, List.take_length]
  generalize hE : empties s 0 (l.take k) = E at *
  obtain ⟨u, n⟩ := E
  simp only at hlen hnum hsucc ⊢
  obtain ⟨en, em, eg⟩ := hlen
  have hgg : u.geo.threads = s.geo.threads ∧ u.geo.slots = s.geo.slots ∧ u.geo.things = s.geo.things := by rw [eg]; exact ⟨rfl, rfl, rfl⟩
  refine ALoop.unfold ?_
  have hw := wrap_succ (k := k) (by omega)
  have hwn : IntKind.wrap .i64 (n + 1) = n + 1 := w64 (by omega) (by omega)
  have hgl : k < l.length → _ := fun h => ints_get (l := l) (k := k) h
  have en' := hide en
  have em' := hide em
  (try simp only [wpx_of k69_0.eq_1, wpx_of k69_1.eq_1, wpx_of k69_2.eq_1, wpx_of k69_3.eq_1, wpx_of k69_5.eq_1, wpx_of k69_6.eq_1, wpx_of k69_7.eq_1, wpx_of k69_8.eq_1, wpx_of k69_10.eq_1, wpx_of k69_12.eq_1, wpx_of k69_13.eq_1, wpx_of k69_14.eq_1, wpx_of k69_15.eq_1, wpx_of k69_16.eq_1, kS, kT, kL, hw, hwn, hgl, wpx_of b69_4.eq_1, nlt_iff, n0_le, slotsO, thingsO, Nat.add_assoc, List.cons_append, List.nil_append, go_sem]); repeat' ((first
    | refine And.intro (Or.inr rfl) ?_
    | ((first | refine cB ?_ ?_ | refine gT ?_ ?_ | refine gF ?_ ?_ | refine dT ?_ ?_ | refine dF ?_ ?_) <;> intro hc)
    | refine take_empty_x (s := u) at2 at3 en em hgg hlS hlT (fun hc => ?_) (fun hc L => ?_)) <;> try simp only [*, wpx_of k69_0.eq_1, wpx_of k69_1.eq_1, wpx_of k69_2.eq_1, wpx_of k69_3.eq_1, wpx_of k69_5.eq_1, wpx_of k69_6.eq_1, wpx_of k69_7.eq_1, wpx_of k69_8.eq_1, wpx_of k69_10.eq_1, wpx_of k69_12.eq_1, wpx_of k69_13.eq_1, wpx_of k69_14.eq_1, wpx_of k69_15.eq_1, wpx_of k69_16.eq_1, kS, kT, kL, hw, hwn, hgl, wpx_of b69_4.eq_1, nlt_iff, n0_le, slotsO, thingsO, Nat.add_assoc, List.cons_append, List.nil_append, go_sem])
  case refine_1.refine_1 =>
    have e := hsucc (by assumption)
    simp only [emptyE, show emptyB u (l.getD k 0) = false by assumption, cond_false] at e
    simp only [e] at next
    (refine ALoop.keep [21, 6, 2, 4, 19, 20] ?_; simp only [List.map_cons, List.map_nil, go_sem]; refine next _ (by assumption) trivial)
  case refine_1.refine_2 =>
    have e := hsucc (by assumption)
    simp only [emptyE, show emptyB u (l.getD k 0) = true by assumption, cond_true] at e
    simp only [e] at next
    (refine ALoop.keep [21, 6, 2, 4, 19, 20] ?_; simp only [List.map_cons, List.map_nil, go_sem]; refine next _ (by assumption) trivial)
  have hk' : k = l.length := by omega
  rw [hall hk'] at hE
  have less : Less s u := by have := empties_less (s := s) (n := 0) (l := l); rw [hE] at this; exact this
  have hpas : takeE s l = passes (s.things.length + 1) u n := by simp only [takeE, hE]
  rw [hpas] at h
  have hku : kinds u + 0 ≤ s.things.length := by have := kinds_le (u := u); omega
  have hn0 : 0 ≤ n ∧ n ≤ 1000 + 16000 * ((0 : Nat) : Int) := by omega
  clear next hsucc hall hE hw hwn hgl hk' hk hpas hnum en em eg hgg en' em' kS kT kL
  refine ALoop.keep [9, 6, 2, 4] ?_; simp only [List.map_cons, List.map_nil, go_sem]
  refine ALoop.acc (α := (State × Int) × Heap) (fun k a => [(9, .bool true), (6, .int .i64 a.1.2)]) (fun k a => H ++ _ :: _ :: slotsO a.1.1 :: thingsO a.1.1 :: a.2) (fun k a => Less s a.1.1 ∧ kinds a.1.1 + k ≤ s.things.length ∧ 0 ≤ a.1.2 ∧ a.1.2 ≤ 1000 + 16000 * (k : Int) ∧ passes (s.things.length + 1 - k) a.1.1 a.1.2 = passes (s.things.length + 1) u n) s.things.length ?_ (a0 := ((u, n), G)) ⟨less, hku, hn0.1, hn0.2, rfl⟩
  clear less hku hn0
  intro k a hk I next
  obtain ⟨⟨v, m⟩, G⟩ := a
  obtain ⟨lv, hkk, m0, m1, hps⟩ := I
  simp only at lv hkk m0 m1 hps next ⊢
  refine ALoop.unfold ?_
  (try simp only [wpx_of k69_0.eq_1, wpx_of k69_1.eq_1, wpx_of k69_2.eq_1, wpx_of k69_3.eq_1, wpx_of k69_5.eq_1, wpx_of k69_6.eq_1, wpx_of k69_7.eq_1, wpx_of k69_8.eq_1, wpx_of k69_10.eq_1, wpx_of k69_12.eq_1, wpx_of k69_13.eq_1, wpx_of k69_14.eq_1, wpx_of k69_15.eq_1, wpx_of k69_16.eq_1, wpx_of b69_11.eq_1, slotsO, thingsO, Nat.add_assoc, List.cons_append, List.nil_append, go_sem]); repeat' ((first
    | refine And.intro (Or.inr rfl) ?_
    | ((first | refine cB ?_ ?_ | refine gT ?_ ?_ | refine gF ?_ ?_ | refine dT ?_ ?_ | refine dF ?_ ?_) <;> intro hc)) <;> try simp only [*, wpx_of k69_0.eq_1, wpx_of k69_1.eq_1, wpx_of k69_2.eq_1, wpx_of k69_3.eq_1, wpx_of k69_5.eq_1, wpx_of k69_6.eq_1, wpx_of k69_7.eq_1, wpx_of k69_8.eq_1, wpx_of k69_10.eq_1, wpx_of k69_12.eq_1, wpx_of k69_13.eq_1, wpx_of k69_14.eq_1, wpx_of k69_15.eq_1, wpx_of k69_16.eq_1, wpx_of b69_11.eq_1, slotsO, thingsO, Nat.add_assoc, List.cons_append, List.nil_append, go_sem])
  refine ALoop.keep [35, 6, 9, 2, 4, 34] ?_; simp only [List.map_cons, List.map_nil, go_sem]
  refine ALoop.acc (fun j G => [(35, .int .i64 (j : Int)), (6, .int .i64 (rounds v m j).2.1), (9, .bool (rounds v m j).2.2)]) (fun j G => H ++ _ :: _ :: slotsO (rounds v m j).1 :: thingsO (rounds v m j).1 :: G) (fun j G => True) s.things.length ?_ (a0 := G) trivial
  intro j G hj _ next2
  have hst := round_less (u := v) (n := m) (lv.bits hbits) j (by rw [lv.lT]; exact hj)
  have hsucc : rounds v m (j + 1) = lostE (rounds v m j) j := round_succ
  have hall : j = s.things.length → pass v m = rounds v m j := fun e => by rw [pass_rounds, lv.lT, e]
  generalize rounds v m j = p at *
  obtain ⟨w, q, f⟩ := p
  simp only at hst hsucc ⊢
  obtain ⟨lw, hkw, q0, q1⟩ := hst
  have lsw := lv.trans lw
  have hbw := lsw.bits hbits
  have en := lsw.lS
  have em := lsw.lT
  have eg := lsw.geo
  have hgg : w.geo.threads = s.geo.threads ∧ w.geo.slots = s.geo.slots ∧ w.geo.things = s.geo.things := by rw [eg]; exact ⟨rfl, rfl, rfl⟩
  have hgc : 0 ≤ w.geo.threads ∧ w.geo.threads ≤ 1000 := by rw [eg]; exact hg
  have hlost : j < s.things.length → lostB w j = true → 0 ≤ (lostS w j).2 ∧ (lostS w j).2 ≤ 16 := fun hj hl => by
    have := lost_less hl (by rw [em]; exact hj)
    exact ⟨this.2.2.1, this.2.2.2 hbw⟩
  have en' := hide en
  have em' := hide em
  refine ALoop.unfold ?_
  have hw := wrap_succ (k := j) (by omega)
  have hwq : IntKind.wrap .i64 q = q := w64 (by omega) (by omega)
  have hwr : j < s.things.length → lostB w j = true → IntKind.wrap .i64 (q + (lostS w j).2) = q + (lostS w j).2 := fun h1 h2 => by
    have := hlost h1 h2
    exact w64 (by omega) (by omega)
  clear hlost
  (try simp only [wpx_of k69_0.eq_1, wpx_of k69_1.eq_1, wpx_of k69_2.eq_1, wpx_of k69_3.eq_1, wpx_of k69_5.eq_1, wpx_of k69_6.eq_1, wpx_of k69_7.eq_1, wpx_of k69_8.eq_1, wpx_of k69_10.eq_1, wpx_of k69_12.eq_1, wpx_of k69_13.eq_1, wpx_of k69_14.eq_1, wpx_of k69_15.eq_1, wpx_of k69_16.eq_1, hw, hwq, hwr, wpx_of b69_9.eq_1, nlt_iff, n0_le, slotsO, thingsO, Nat.add_assoc, Int.add_zero, List.cons_append, List.nil_append, go_sem]); repeat' ((first
    | refine And.intro (Or.inr rfl) ?_
    | ((first | refine cB ?_ ?_ | refine gT ?_ ?_ | refine gF ?_ ?_ | refine dT ?_ ?_ | refine dF ?_ ?_) <;> intro hc)
    | refine take_lost_x (s := w) at2 at3 en em hgg hlS hlT hgc (by assumption) hbw (fun hc => ?_) (fun hc L => ?_)) <;> try simp only [*, wpx_of k69_0.eq_1, wpx_of k69_1.eq_1, wpx_of k69_2.eq_1, wpx_of k69_3.eq_1, wpx_of k69_5.eq_1, wpx_of k69_6.eq_1, wpx_of k69_7.eq_1, wpx_of k69_8.eq_1, wpx_of k69_10.eq_1, wpx_of k69_12.eq_1, wpx_of k69_13.eq_1, wpx_of k69_14.eq_1, wpx_of k69_15.eq_1, wpx_of k69_16.eq_1, hw, hwq, hwr, wpx_of b69_9.eq_1, nlt_iff, n0_le, slotsO, thingsO, Nat.add_assoc, Int.add_zero, List.cons_append, List.nil_append, go_sem])
  case refine_2.refine_1.refine_1 =>
    simp only [lostE, show lostB w j = false by assumption, cond_false] at hsucc
    simp only [hsucc] at next2
    (refine ALoop.keep [35, 6, 9, 2, 4, 34] ?_; simp only [List.map_cons, List.map_nil, go_sem]; refine next2 _ (by assumption) trivial)
  case refine_2.refine_1.refine_2 =>
    simp only [lostE, show lostB w j = true by assumption, cond_true] at hsucc
    simp only [hsucc] at next2
    (refine ALoop.keep [35, 6, 9, 2, 4, 34] ?_; simp only [List.map_cons, List.map_nil, go_sem]; refine next2 _ (by assumption) trivial)
  have hp := hall (by omega)
  have eN : s.things.length + 1 - k = (s.things.length - k) + 1 := by omega
  rw [eN] at hps
  clear next2 hsucc hall hw hwq hwr
  cases f with
  | true =>
    rw [passes_go hp] at hps
    simp only [cond_true] at hkw
    (refine ALoop.keep [9, 6, 2, 4] ?_; simp only [List.map_cons, List.map_nil, go_sem]; refine next ((w, q), G) (by omega) ⟨lsw, by simp only; omega, by simp only; omega, by simp only; omega, by simp only; rw [← hps]; congr 1; omega⟩)
  | false =>
    rw [passes_end hp] at hps
    rw [← hps] at h
    simp only at h
    clear hps next
    refine ALoop.keep [9, 6, 2, 4] ?_; simp only [List.map_cons, List.map_nil, go_sem]
    refine ALoop.unfold ?_
    (try simp only [wpx_of k69_0.eq_1, wpx_of k69_1.eq_1, wpx_of k69_2.eq_1, wpx_of k69_3.eq_1, wpx_of k69_5.eq_1, wpx_of k69_6.eq_1, wpx_of k69_7.eq_1, wpx_of k69_8.eq_1, wpx_of k69_10.eq_1, wpx_of k69_12.eq_1, wpx_of k69_13.eq_1, wpx_of k69_14.eq_1, wpx_of k69_15.eq_1, wpx_of k69_16.eq_1, wpx_of b69_11.eq_1, slotsO, thingsO, Nat.add_assoc, List.cons_append, List.nil_append, go_sem]); repeat' ((first
    | refine And.intro (Or.inr rfl) ?_
    | ((first | refine cB ?_ ?_ | refine gT ?_ ?_ | refine gF ?_ ?_ | refine dT ?_ ?_ | refine dF ?_ ?_) <;> intro hc)) <;> try simp only [*, wpx_of k69_0.eq_1, wpx_of k69_1.eq_1, wpx_of k69_2.eq_1, wpx_of k69_3.eq_1, wpx_of k69_5.eq_1, wpx_of k69_6.eq_1, wpx_of k69_7.eq_1, wpx_of k69_8.eq_1, wpx_of k69_10.eq_1, wpx_of k69_12.eq_1, wpx_of k69_13.eq_1, wpx_of k69_14.eq_1, wpx_of k69_15.eq_1, wpx_of k69_16.eq_1, wpx_of b69_11.eq_1, slotsO, thingsO, Nat.add_assoc, List.cons_append, List.nil_append, go_sem])
    refine Gc.stN (s' := w) (r := some w) (i := 2) (j := 3) rfl rfl (fun s' e => ?_) (by decide) (by simp [AVal.plain, plains]) en.symm em.symm ⟨hgg.1.symm, hgg.2.1.symm, hgg.2.2.symm⟩ rfl
    injection e with e
    subst e
    exact h
end
end Go.Proofs.YtipigjckoejfpaaGreat.Ax

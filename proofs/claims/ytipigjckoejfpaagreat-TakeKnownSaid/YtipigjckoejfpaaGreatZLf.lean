/- Texts put behind one another: SMail, SCarve. Conditions: none. -/
import Derived.Test.YtipigjckoejfpaaGreatZGv
import Derived.Test.YtipigjckoejfpaaGreatZPu
import Derived.Test.YtipigjckoejfpaaGreatZMo
set_option linter.unusedSimpArgs false
set_option linter.unusedVariables false
/- Mail: what the program's functions answer. Conditions: none. -/
namespace Go.Proofs.YtipigjckoejfpaaGreat.Ax
open Go Go.Ax Go.Ax.M
section
variable {H : Heap} {K : AVal → Heap → Prop} {s : State} {oS oT : Nat} {fS fT rS rT : Bool} {c : M.Call} {oA oB : Nat} {fA fB rA rB : Bool}

end
end Go.Proofs.YtipigjckoejfpaaGreat.Ax

/- New things: what the program's functions answer. Conditions: none. -/
namespace Go.Proofs.YtipigjckoejfpaaGreat.Ax
open Go Go.Ax Go.Ax.M
section
variable {H : Heap} {K : AVal → Heap → Prop} {s : State} {oS oT : Nat} {fS fT rS rT : Bool}

theorem carve_Used_spec {i : Int} (hS : H[oS]? = some (.arr 5 (s.slots.map Slot.cells) rS)) (hT : H[oT]? = some (.arr 13 (s.things.map Thing.cells) rT)) (h : K (.int .i64 (usedX s i)) H) : ACalls Tryz.prog 207 [.agg [.int .i64 s.geo.threads, .int .i64 s.geo.slots, .int .i64 s.geo.things, .slice oS s.slots.length 0 s.slots.length fS, .slice oT s.things.length 0 s.things.length fT], .int .i64 i] H K := by
  have kT := Keeps.of hT
  have kS := Keeps.of hS
  have hg1 : ¬ i < 0 → ¬ (s.slots.length : Int) ≤ i → _ := fun h1 h2 => slot_at (s := s) (u := i) (by omega) (by omega)
  have hg2 : sGood s = true → ¬ i < 0 → ¬ (s.slots.length : Int) ≤ i → (s.slot i.toNat).cap.ty = 1 → _ := fun h0 h1 h2 h3 => there_get (((inv_iff.1 h0).capT i.toNat (by omega) (non_of (by omega))).1)
  have hl2 : sGood s = true → (sForest s).length ≤ 1000 := fun h => by rw [sForest_length]; exact lS_of h
  refine ACalls.tidy ?_
  refine ACalls.into ok207 (Nat.le_of_ble_eq_true rfl) ?_; (try simp only [c207, wpx_of k207_0.eq_1, wpx_of k207_1.eq_1, wpx_of k207_2.eq_1, wpx_of k207_3.eq_1, wpx_of k207_4.eq_1, hg1, hg2, sForest_length, go_sem]); repeat' ((first
    | refine And.intro (Or.inr rfl) ?_
    | ((first | refine cB ?_ ?_ | refine gT ?_ ?_ | refine gF ?_ ?_ | refine dT ?_ ?_ | refine dF ?_ ?_) <;> intro hc)
    | refine state_Good_spec (kS _) (kT _) ?_
    | refine state_Forest_spec (kS _) (lS_of (by assumption)) ?_
    | (rw [← sForest_length]; refine forest_Kids_spec (up := sForest s) (by first | exact at0 | exact at1 | exact at2 | exact at3 | exact at4 | exact at5 | exact at6 | exact at7 | exact at8 | exact at9 | exact at10 | exact at11 | exact at12 | exact at13 | exact at14 | exact at15 | exact at16 | exact atX rfl) (hl2 (by assumption)) (fun hc => ?_) (fun hc => ?_))) <;> try simp only [*, wpx_of k207_0.eq_1, wpx_of k207_1.eq_1, wpx_of k207_2.eq_1, wpx_of k207_3.eq_1, wpx_of k207_4.eq_1, hg1, hg2, sForest_length, go_sem])
  all_goals (refine ti h (by first | exact ⟨_, rfl⟩ | exact ⟨[], (List.append_nil _).symm⟩ | exact hx | exact hx.app _) ?_; first | (simp only [usedX, fKids, *, cond_true, cond_false, Bool.and_true, Bool.true_and, Bool.and_false, Bool.false_and, Bool.or_true, Bool.true_or, Bool.or_false, Bool.false_or, Bool.not_true, Bool.not_false, decide_true, decide_false, go_sem]; done) | (simp_all [usedX, fKids]; done) | (simp_all [usedX, fKids]; omega) | grind [usedX, fKids])

theorem tCost_le {k n : Int} : 0 ≤ (tCost k n).1 ∧ (tCost k n).1 ≤ 4096 := by
  simp only [tCost]
  by_cases e1 : k = 1
  · simp only [e1, decide_true, cond_true]
    cases hb : inB n 1 4096 with
    | false => simp
    | true => rw [inB_iff] at hb; simp only [cond_true]; omega
  · simp only [e1, decide_false, cond_false]
    by_cases e2 : k = 2
    · simp only [e2, decide_true, cond_true]
      cases hb : inB n 1 4 with
      | false => simp
      | true => have := p2_bits hb; simp only [cond_true]; omega
    · simp only [e2, decide_false, cond_false]
      cases (decide (k = 3) || decide (k = 4)) <;> cases decide (k = 5) <;> simp

theorem carveT {s : State} {n r : Nat} {T : Thing} {used : Int} (hr : r < s.things.length) (hne : n ≠ r) : ((s.things.map Thing.cells).set n T.cells).set r [.int .i64 (s.thing r).ty, .int .i64 (s.thing r).bits, .int .i64 (s.thing r).base, .int .i64 (s.thing r).size, .int .i64 used, .int .i64 (s.thing r).from_, .int .i64 (s.thing r).badge, .bool (s.thing r).full, .int .u64 (s.thing r).word, .int .u64 (s.thing r).d0, .int .u64 (s.thing r).d1, .int .u64 (s.thing r).d2, .int .u64 (s.thing r).d3] =
    ((s.things.set n T).set r { ((s.things.set n T).getD r .zero) with used := used }).map Thing.cells := by
  have e : (s.things.set n T).getD r .zero = s.thing r := by simp only [List.getD, List.getElem?_set_ne hne, State.thing]
  rw [e, List.map_set, List.map_set]; rfl
theorem carve_carved_spec {th : Int} {c : M.Call} {oA oB : Nat} {fA fB rA rB : Bool} (hS : H[oS]? = some (.arr 5 (s.slots.map Slot.cells) rS)) (hT : H[oT]? = some (.arr 13 (s.things.map Thing.cells) rT)) (hA : H[oA]? = some (.arr 1 (ints c.a) rA)) (hB : H[oB]? = some (.arr 1 (ints c.b) rB))
    (h : (carveM s th c).st = none → K (.tup [.agg [.int .i64 s.geo.threads, .int .i64 s.geo.slots, .int .i64 s.geo.things, .slice oS s.slots.length 0 s.slots.length fS, .slice oT s.things.length 0 s.things.length fT], .int .i64 0, .int .i64 (carveM s th c).err]) H)
    (h' : ∀ s', (carveM s th c).st = some s' → K (.tup [stV s' H.length (H.length + 1) false false, .int .i64 (carveM s th c).n, .int .i64 0]) (H ++ [slotsO s', thingsO s'])) :
    ACalls Tryz.prog 124 [.agg [.int .i64 s.geo.threads, .int .i64 s.geo.slots, .int .i64 s.geo.things, .slice oS s.slots.length 0 s.slots.length fS, .slice oT s.things.length 0 s.things.length fT], .int .i64 th, .agg [.int .i64 c.op, .slice oA c.a.length 0 c.a.length fA, .slice oB c.b.length 0 c.b.length fB, .int .i64 c.x, .int .i64 c.y, .int .u64 c.w]] H K := by
  have kT := Keeps.of hT
  have kS := Keeps.of hS
  have kA := Keeps.of hA
  have kB := Keeps.of hB
  have key : ∀ e, carveM s th c = .bad e → K (.tup [.agg [.int .i64 s.geo.threads, .int .i64 s.geo.slots, .int .i64 s.geo.things, .slice oS s.slots.length 0 s.slots.length fS, .slice oT s.things.length 0 s.things.length fT], .int .i64 0, .int .i64 e]) H := fun e he => by rw [he] at h; exact h rfl
  have hv := fun e => show (AVal.tup [.agg [.int .i64 s.geo.threads, .int .i64 s.geo.slots, .int .i64 s.geo.things, .slice oS s.slots.length 0 s.slots.length fS, .slice oT s.things.length 0 s.things.length fT], .int .i64 0, .int .i64 e]).refs (fun o => o < H.length) by simp [AVal.refs, refsL]; exact ⟨get_lt hS, get_lt hT⟩
  clear h
  have hroom : (fCap s th c.a).2.2 = 0 → _ := fun h => there_get (fCap_there h)
  have hwu : (fCap s th c.a).2.2 = 0 → (fCap s th c.a).2.1.ty = 1 → IntKind.wrap .i64 (usedX s (fCap s th c.a).1 + (tCost c.x c.y).1) = usedX s (fCap s th c.a).1 + (tCost c.x c.y).1 := fun h1 h2 => by
    obtain ⟨i1, i2, i3, i4, i5, i6⟩ := fCap_ok h1
    have := usedX_ok i1 i2 i3 (by rw [← i4]; exact h2)
    have := tCost_le (k := c.x) (n := c.y)
    exact w64 (by omega) (by omega)
  have hfr : ¬ sFree s < 0 → (0 ≤ sFree s) = True ∧ (sFree s < (s.things.length : Int)) = True := fun h => by
    have := sFree_ok (s := s) (by omega)
    exact ⟨eq_true (by omega), eq_true (by omega)⟩
  refine ACalls.gc ?_
  refine ACalls.into ok124 (Nat.le_of_ble_eq_true rfl) ?_; (try simp only [c124, wpx_of k124_0.eq_1, wpx_of k124_1.eq_1, wpx_of k124_2.eq_1, wpx_of k124_3.eq_1, wpx_of k124_4.eq_1, wpx_of k124_5.eq_1, wpx_of k124_6.eq_1, wpx_of k124_7.eq_1, wpx_of k124_8.eq_1, wpx_of k124_9.eq_1, wpx_of k124_10.eq_1, wpx_of k124_11.eq_1, wpx_of k124_12.eq_1, wpx_of k124_13.eq_1, wpx_of k124_14.eq_1, wpx_of k124_15.eq_1, wpx_of k124_16.eq_1, wpx_of k124_17.eq_1, wpx_of k124_18.eq_1, wpx_of k124_19.eq_1, wpx_of k124_20.eq_1, wpx_of k124_21.eq_1, wpx_of k124_22.eq_1, wpx_of k124_23.eq_1, wpx_of k124_24.eq_1, wpx_of k124_25.eq_1, stV, slotsO, thingsO, Nat.add_assoc, Cap.cells, Thing.cells, hroom, hwu, hfr, List.length_set, go_sem]); repeat' ((first
    | refine And.intro (Or.inr rfl) ?_
    | ((first | refine cB ?_ ?_ | refine gT ?_ ?_ | refine gF ?_ ?_ | refine dT ?_ ?_ | refine dF ?_ ?_) <;> intro hc)
    | refine call_Good_spec (kA _) (kB _) ?_
    | refine find_Cap_spec (kS _) (kT _) (kA _) ?_
    | refine find_Empty_spec (kS _) (kT _) (kB _) ?_
    | refine right_Within_spec ?_
    | refine thing_Cost_spec ?_
    | refine carve_Used_spec (kS _) (kT _) ?_
    | refine state_Free_spec (kS _) (kT _) ?_
    | refine state_Gap_spec (kS _) (kT _) ?_) <;> try simp only [*, wpx_of k124_0.eq_1, wpx_of k124_1.eq_1, wpx_of k124_2.eq_1, wpx_of k124_3.eq_1, wpx_of k124_4.eq_1, wpx_of k124_5.eq_1, wpx_of k124_6.eq_1, wpx_of k124_7.eq_1, wpx_of k124_8.eq_1, wpx_of k124_9.eq_1, wpx_of k124_10.eq_1, wpx_of k124_11.eq_1, wpx_of k124_12.eq_1, wpx_of k124_13.eq_1, wpx_of k124_14.eq_1, wpx_of k124_15.eq_1, wpx_of k124_16.eq_1, wpx_of k124_17.eq_1, wpx_of k124_18.eq_1, wpx_of k124_19.eq_1, wpx_of k124_20.eq_1, wpx_of k124_21.eq_1, wpx_of k124_22.eq_1, wpx_of k124_23.eq_1, wpx_of k124_24.eq_1, wpx_of k124_25.eq_1, stV, slotsO, thingsO, Nat.add_assoc, Cap.cells, Thing.cells, hroom, hwu, hfr, List.length_set, go_sem])
  all_goals try exact Gc.old (hv _) (key _ (by (first | (simp only [carveM, carveIn, carveN, *, cond_true, cond_false, Bool.and_true, Bool.true_and, Bool.and_false, Bool.false_and, Bool.or_true, Bool.true_or, Bool.or_false, Bool.false_or, Bool.not_true, Bool.not_false, decide_true, decide_false, go_sem]; done) | (simp_all [carveM, carveIn, carveN]; done) | (simp_all [carveM, carveIn, carveN]; omega) | grind [carveM, carveIn, carveN])))
  all_goals
    have he : ∃ b, carveM s th c = ⟨0, 0, sFree s, some (carveS s c (fCap s th c.a).1 (fEmpty s th c.b).1 (usedX s (fCap s th c.a).1 + (tCost c.x c.y).1) (sFree s) b (fCap s th c.a).2.1)⟩ ∧ b = (carveN c s).1 := ⟨_, by clear h' key hv; (first | (simp only [carveM, carveIn, carveN, *, cond_true, cond_false, Bool.and_true, Bool.true_and, Bool.and_false, Bool.false_and, Bool.or_true, Bool.true_or, Bool.or_false, Bool.false_or, Bool.not_true, Bool.not_false, decide_true, decide_false, go_sem]; done) | (simp_all [carveM, carveIn, carveN]; done) | (simp_all [carveM, carveIn, carveN]; omega) | grind [carveM, carveIn, carveN]), rfl⟩
    clear key hv
    obtain ⟨bs, he, hbs⟩ := he
    have h' := h' _ (by rw [he])
    rw [he] at h'
    simp only at h'
    obtain ⟨y, hy⟩ : ∃ y, Hid (y = carveS s c (fCap s th c.a).1 (fEmpty s th c.b).1 (usedX s (fCap s th c.a).1 + (tCost c.x c.y).1) (sFree s) bs (fCap s th c.a).2.1) := hide _
    have hy' : y = _ := hy
    rw [← hy'] at h'
    obtain ⟨i1, i2, i3, i4, i5, i6⟩ := fCap_ok (s := s) (th := th) (p := c.a) (by assumption)
    obtain ⟨-, j2, j3, j4, j5, j6⟩ := fEmpty_ok (s := s) (th := th) (p := c.b) (by assumption)
    have hsl := slot_at (s := s) j2 j3
    have hsf := sFree_ok (s := s) (by omega)
    have hrt := fCap_there (s := s) (th := th) (p := c.a) (by assumption)
    rw [there_iff] at hrt
    have hr1 : (s.thing (fCap s th c.a).2.1.th.toNat).ty = 1 := by
      have := (i1.capT _ (by omega) i5).2
      rw [← i4] at this; rw [this]; assumption
    have hne : (sFree s).toNat ≠ (fCap s th c.a).2.1.th.toNat := by intro e; rw [e] at hsf; omega
    have hgn := things_get (s := s) hsf.1
    have hgr : ∀ X, ((s.things.map Thing.cells).set (sFree s).toNat X)[(fCap s th c.a).2.1.th.toNat]? = some (s.thing (fCap s th c.a).2.1.th.toNat).cells := fun X => by
      rw [List.getElem?_set_ne hne]; exact things_get (by omega)
    have hgood := i1.ok.good
    have hct := carveT (s := s) (T := (tNew c.x c.y bs).1) (used := usedX s (fCap s th c.a).1 + (tCost c.x c.y).1) (show (fCap s th c.a).2.1.th.toNat < s.things.length by omega) hne
    have hyS : y.slots.length = s.slots.length := by rw [hy']; simp [carveS]
    have hyT : y.things.length = s.things.length := by rw [hy']; simp [carveS]
    have hyg : y.geo = s.geo := by rw [hy']; rfl
    have hy1 : y.slots.map Slot.cells = (s.slots.map Slot.cells).set (fEmpty s th c.b).1.toNat [.int .i64 c.x, .int .i64 (sFree s), .int .i64 7, .int .i64 0, .int .i64 (fCap s th c.a).1] := by rw [hy']; simp only [carveS, ← slots_set]; rfl
    have hy2 := (hct.trans (show _ = y.things.map Thing.cells by rw [hy']; rfl)).symm
    have hyh := And.intro hy1 hy2
    have hyh : Hid _ := hyh
    have hyl := And.intro hyS (And.intro hyT hyg)
    have hyl : Hid _ := hyl
    clear hct hy' hy1 hy2 hyS hyT hyg he i1 i2 i3 i4 i5 i6 j2 j3 j4 j5 j6 hsf hrt hr1
  all_goals
    (try simp only [wpx_of k124_0.eq_1, wpx_of k124_1.eq_1, wpx_of k124_2.eq_1, wpx_of k124_3.eq_1, wpx_of k124_4.eq_1, wpx_of k124_5.eq_1, wpx_of k124_6.eq_1, wpx_of k124_7.eq_1, wpx_of k124_8.eq_1, wpx_of k124_9.eq_1, wpx_of k124_10.eq_1, wpx_of k124_11.eq_1, wpx_of k124_12.eq_1, wpx_of k124_13.eq_1, wpx_of k124_14.eq_1, wpx_of k124_15.eq_1, wpx_of k124_16.eq_1, wpx_of k124_17.eq_1, wpx_of k124_18.eq_1, wpx_of k124_19.eq_1, wpx_of k124_20.eq_1, wpx_of k124_21.eq_1, wpx_of k124_22.eq_1, wpx_of k124_23.eq_1, wpx_of k124_24.eq_1, wpx_of k124_25.eq_1, stV, slotsO, thingsO, Nat.add_assoc, Cap.cells, Thing.cells, hroom, hwu, hfr, hsl, hgn, hgr, List.length_set, go_sem]); repeat' ((first
    | refine And.intro (Or.inr rfl) ?_
    | ((first | refine cB ?_ ?_ | refine gT ?_ ?_ | refine gF ?_ ?_ | refine dT ?_ ?_ | refine dF ?_ ?_) <;> intro hc)
    | refine state_Clone_spec (kS _) (kT _) (lS_of hgood) (lT_of hgood) (lS0_of hgood) (lT0_of hgood) ?_
    | refine thing_New_spec ?_) <;> try simp only [*, wpx_of k124_0.eq_1, wpx_of k124_1.eq_1, wpx_of k124_2.eq_1, wpx_of k124_3.eq_1, wpx_of k124_4.eq_1, wpx_of k124_5.eq_1, wpx_of k124_6.eq_1, wpx_of k124_7.eq_1, wpx_of k124_8.eq_1, wpx_of k124_9.eq_1, wpx_of k124_10.eq_1, wpx_of k124_11.eq_1, wpx_of k124_12.eq_1, wpx_of k124_13.eq_1, wpx_of k124_14.eq_1, wpx_of k124_15.eq_1, wpx_of k124_16.eq_1, wpx_of k124_17.eq_1, wpx_of k124_18.eq_1, wpx_of k124_19.eq_1, wpx_of k124_20.eq_1, wpx_of k124_21.eq_1, wpx_of k124_22.eq_1, wpx_of k124_23.eq_1, wpx_of k124_24.eq_1, wpx_of k124_25.eq_1, stV, slotsO, thingsO, Nat.add_assoc, Cap.cells, Thing.cells, hroom, hwu, hfr, hsl, hgn, hgr, List.length_set, go_sem])
    obtain ⟨hy1, hy2⟩ := hyh
    obtain ⟨hyS, hyT, hyg⟩ := hyl
    first
      | (have hx : c.x = 2 := by assumption
         simp only [hbs, carveN, hx, Thing.cells, decide_true, cond_true] at hy1 hy2
         rw [← hyS, ← hyT, ← hyg]
         refine Gc.stateT (s := y) (i := 4) (j := 5) ?_ ?_ (by decide) (by simp [AVal.plain, plains]) h'
         · simp only [slotsO]; rw [hy1]; rfl
         · simp only [thingsO]; rw [hy2]; rfl)
      | (have hx : ¬ c.x = 2 := by assumption
         simp only [hbs, carveN, hx, Thing.cells, decide_false, cond_false] at hy1 hy2
         rw [← hyS, ← hyT, ← hyg]
         refine Gc.stateT (s := y) (i := 4) (j := 5) ?_ ?_ (by decide) (by simp [AVal.plain, plains]) h'
         · simp only [slotsO]; rw [hy1]; rfl
         · simp only [thingsO]; rw [hy2]; rfl)

theorem carve_Do_spec : DoSpec 37 carveM := by
  intro H K s th c oS oT oA oB fS fT rS rT fA fB rA rB hS hT hA hB h h'
  have kT := Keeps.of hT
  have kS := Keeps.of hS
  have kA := Keeps.of hA
  have kB := Keeps.of hB
  have hn : (carveM s th c).st = none → ((carveM s th c).err = 0) = False := fun h => eq_false (carveM_none h)
  refine ACalls.gc ?_
  refine ACalls.into ok37 (Nat.le_of_ble_eq_true rfl) ?_; (try simp only [c37, wpx_of k37_0.eq_1, wpx_of k37_1.eq_1, wpx_of k37_2.eq_1, wpx_of k37_3.eq_1, stV, slotsO, thingsO, Nat.add_assoc, hn, go_sem]); repeat' ((first
    | refine And.intro (Or.inr rfl) ?_
    | ((first | refine cB ?_ ?_ | refine gT ?_ ?_ | refine gF ?_ ?_ | refine dT ?_ ?_ | refine dF ?_ ?_) <;> intro hc)
    | refine carve_carved_spec (kS _) (kT _) (kA _) (kB _) (fun hc => ?_) (fun s' hc => ?_)) <;> try simp only [*, wpx_of k37_0.eq_1, wpx_of k37_1.eq_1, wpx_of k37_2.eq_1, wpx_of k37_3.eq_1, stV, slotsO, thingsO, Nat.add_assoc, hn, go_sem])
  · obtain ⟨e, -, he⟩ := carveM_bad (s := s) (th := th) (c := c) (by assumption)
    have h := h (by rw [he]; rfl)
    rw [he] at h ⊢
    exact Gc.old (by simp [AVal.refs, refsL]; exact ⟨get_lt hS, get_lt hT⟩) h
  · exact Gc.stN (i := 4) (j := 5) rfl rfl (r := (carveM s th c).st) (fun s' e => by have := h' s' e; have e2 := (carveM_some e).2.2.2.2.2.2.2.2.2.1; rw [e2] at this ⊢; exact this) (hn := rfl) (hm := rfl) (e := by assumption)
end
end Go.Proofs.YtipigjckoejfpaaGreat.Ax

/- Pages: what the program's functions answer that write and read. Conditions: none. -/
import Derived.Test.YtipigjckoejfpaaGreatSDoZ
import Derived.Test.YtipigjckoejfpaaGreatSMailZ
import Derived.Test.YtipigjckoejfpaaGreatZPu
set_option linter.unusedSimpArgs false
set_option linter.unusedVariables false
namespace Go.Proofs.YtipigjckoejfpaaGreat.Ax
open Go Go.Ax Go.Ax.M
set_option linter.unusedSimpArgs false
set_option linter.unusedVariables false
section
variable {H : Heap} {K : AVal → Heap → Prop} {s : State} {th op x y w : Int} {a b : List Int} {oS oT oA oB : Nat} {fS fT rS rT fA fB rA rB : Bool}

theorem leaf_good {op x y w : Int} {a b : List Int} (ho : op = 11 ∨ op = 12) (h : callGood ⟨op, a, b, x, y, w⟩ = true) : x = 0 ∨ x = 1 ∨ x = 2 ∨ x = 3 := by
  simp only [callGood, Bool.and_eq_true] at h
  obtain ⟨-, h1, -, h2, -⟩ := h
  rcases ho with rfl | rfl <;> simp [cNumbers, inB] at h2 <;> omega

theorem leaf11 {x y w : Int} {a b : List Int} (h : callGood ⟨11, a, b, x, y, w⟩ = true) : leafM s th ⟨11, a, b, x, y, w⟩ =
    bif !decide ((fCap s th a).2.2 = 0) then .bad (fCap s th a).2.2 else bif !decide ((fCap s th a).2.1.ty = 5) then .bad 7 else bif !rWithin 2 (fCap s th a).2.1.ri then .bad 6
    else ⟨0, 0, 0, some (boxed s (fCap s th a).2.1.th (tSet (s.thing (fCap s th a).2.1.th.toNat) x w))⟩ := by
  simp only [leafM, h, show decide ((11 : Int) = 11) = true from rfl, show decide ((11 : Int) = 13) = false from rfl, show decide ((11 : Int) = 12) = false from rfl, Bool.not_true, Bool.false_and, Bool.or_self, cond_false]; rfl
theorem leaf12 {x y w : Int} {a b : List Int} (h : callGood ⟨12, a, b, x, y, w⟩ = true) : leafM s th ⟨12, a, b, x, y, w⟩ =
    bif !decide ((fCap s th a).2.2 = 0) then .bad (fCap s th a).2.2 else bif !decide ((fCap s th a).2.1.ty = 5) then .bad 7 else bif !rWithin 1 (fCap s th a).2.1.ri then .bad 6
    else ⟨0, tData (s.thing (fCap s th a).2.1.th.toNat) x, 0, none⟩ := by
  simp only [leafM, h, show decide ((12 : Int) = 11) = false from rfl, show decide ((12 : Int) = 13) = false from rfl, show decide ((12 : Int) = 12) = true from rfl, Bool.not_true, Bool.not_false, Bool.true_and, Bool.false_and, Bool.or_self, cond_false, cond_true]; rfl

set_option maxHeartbeats 8000000 in
theorem leaf_Do_spec (ho : op = 11 ∨ op = 12) (hS : H[oS]? = some (.arr 5 (s.slots.map Slot.cells) rS)) (hT : H[oT]? = some (.arr 13 (s.things.map Thing.cells) rT)) (hA : H[oA]? = some (.arr 1 (ints a) rA)) (hB : H[oB]? = some (.arr 1 (ints b) rB))
    (h : (leafM s th ⟨op, a, b, x, y, w⟩).st = none → K (.tup [.agg [.int .i64 s.geo.threads, .int .i64 s.geo.slots, .int .i64 s.geo.things, .slice oS s.slots.length 0 s.slots.length fS, .slice oT s.things.length 0 s.things.length fT], (leafM s th ⟨op, a, b, x, y, w⟩).reply]) H)
    (h' : ∀ s', (leafM s th ⟨op, a, b, x, y, w⟩).st = some s' → K (.tup [stV s' H.length (H.length + 1) false false, (leafM s th ⟨op, a, b, x, y, w⟩).reply]) (H ++ [slotsO s', thingsO s'])) :
    ACalls Tryz.prog 58 [.agg [.int .i64 s.geo.threads, .int .i64 s.geo.slots, .int .i64 s.geo.things, .slice oS s.slots.length 0 s.slots.length fS, .slice oT s.things.length 0 s.things.length fT], .int .i64 th, .agg [.int .i64 op, .slice oA a.length 0 a.length fA, .slice oB b.length 0 b.length fB, .int .i64 x, .int .i64 y, .int .u64 w]] H K := by
  have kT := Keeps.of hT
  have kS := Keeps.of hS
  have kA := Keeps.of hA
  have kB := Keeps.of hB
  have key : ∀ e v n : Int, leafM s th ⟨op, a, b, x, y, w⟩ = ⟨e, v, n, none⟩ → K (.tup [.agg [.int .i64 s.geo.threads, .int .i64 s.geo.slots, .int .i64 s.geo.things, .slice oS s.slots.length 0 s.slots.length fS, .slice oT s.things.length 0 s.things.length fT], .agg [.int .i64 e, .int .u64 v, .int .i64 n]]) H := fun e v n he => by rw [he] at h; exact h rfl
  have hv := fun (e v n : Int) => show (AVal.tup [.agg [.int .i64 s.geo.threads, .int .i64 s.geo.slots, .int .i64 s.geo.things, .slice oS s.slots.length 0 s.slots.length fS, .slice oT s.things.length 0 s.things.length fT], .agg [.int .i64 e, .int .u64 v, .int .i64 n]]).refs (fun o => o < H.length) by simp [AVal.refs, refsL]; exact ⟨get_lt hS, get_lt hT⟩
  clear h
  have hroom : (fCap s th a).2.2 = 0 → _ := fun h => there_get (fCap_there h)
  have hgood : (fCap s th a).2.2 = 0 → sGood s = true := fun h => (fCap_ok h).1.ok.good
  cases hcg : callGood ⟨op, a, b, x, y, w⟩ with
  | false =>
    refine ACalls.gc ?_
    refine ACalls.into ok58 (Nat.le_of_ble_eq_true rfl) ?_; (try simp only [c58, wpx_of k58_0.eq_1, wpx_of k58_1.eq_1, wpx_of k58_2.eq_1, wpx_of k58_3.eq_1, wpx_of k58_4.eq_1, wpx_of k58_5.eq_1, wpx_of k58_6.eq_1, wpx_of k58_7.eq_1, wpx_of k58_8.eq_1, wpx_of k58_9.eq_1, wpx_of k58_10.eq_1, wpx_of k58_11.eq_1, wpx_of k58_12.eq_1, wpx_of k58_13.eq_1, wpx_of k58_14.eq_1, wpx_of k58_15.eq_1, wpx_of k58_16.eq_1, wpx_of k58_17.eq_1, stV, slotsO, thingsO, Nat.add_assoc, hcg, go_sem]); repeat' ((first
    | refine And.intro (Or.inr rfl) ?_
    | ((first | refine cB ?_ ?_ | refine gT ?_ ?_ | refine gF ?_ ?_ | refine dT ?_ ?_ | refine dF ?_ ?_) <;> intro hc)
    | refine call_Good_spec (c := ⟨op, a, b, x, y, w⟩) (kA _) (kB _) ?_) <;> try simp only [*, wpx_of k58_0.eq_1, wpx_of k58_1.eq_1, wpx_of k58_2.eq_1, wpx_of k58_3.eq_1, wpx_of k58_4.eq_1, wpx_of k58_5.eq_1, wpx_of k58_6.eq_1, wpx_of k58_7.eq_1, wpx_of k58_8.eq_1, wpx_of k58_9.eq_1, wpx_of k58_10.eq_1, wpx_of k58_11.eq_1, wpx_of k58_12.eq_1, wpx_of k58_13.eq_1, wpx_of k58_14.eq_1, wpx_of k58_15.eq_1, wpx_of k58_16.eq_1, wpx_of k58_17.eq_1, stV, slotsO, thingsO, Nat.add_assoc, hcg, go_sem])
    exact Gc.old (hv _ _ _) (key _ _ _ (by simp only [leafM, hcg, Bool.not_false, Bool.true_or, cond_true, Res.bad]))
  | true =>
  have hx := leaf_good ho hcg
  rcases ho with rfl | rfl
  all_goals rcases hx with rfl | rfl | rfl | rfl
  all_goals
    refine ACalls.gc ?_
    refine ACalls.into ok58 (Nat.le_of_ble_eq_true rfl) ?_; (try simp only [c58, wpx_of k58_0.eq_1, wpx_of k58_1.eq_1, wpx_of k58_2.eq_1, wpx_of k58_3.eq_1, wpx_of k58_4.eq_1, wpx_of k58_5.eq_1, wpx_of k58_6.eq_1, wpx_of k58_7.eq_1, wpx_of k58_8.eq_1, wpx_of k58_9.eq_1, wpx_of k58_10.eq_1, wpx_of k58_11.eq_1, wpx_of k58_12.eq_1, wpx_of k58_13.eq_1, wpx_of k58_14.eq_1, wpx_of k58_15.eq_1, wpx_of k58_16.eq_1, wpx_of k58_17.eq_1, stV, slotsO, thingsO, Nat.add_assoc, Cap.cells, hroom, hcg, List.length_set, go_sem]); repeat' ((first
    | refine And.intro (Or.inr rfl) ?_
    | ((first | refine cB ?_ ?_ | refine gT ?_ ?_ | refine gF ?_ ?_ | refine dT ?_ ?_ | refine dF ?_ ?_) <;> intro hc)
    | refine call_Good_spec (c := ⟨_, a, b, _, y, w⟩) (kA _) (kB _) ?_
    | refine find_Cap_spec (kS _) (kT _) (kA _) ?_
    | refine right_Within_spec ?_
    | refine state_Clone_spec (kS _) (kT _) (lS_of (hgood (by assumption))) (lT_of (hgood (by assumption))) (lS0_of (hgood (by assumption))) (lT0_of (hgood (by assumption))) ?_) <;> try simp only [*, wpx_of k58_0.eq_1, wpx_of k58_1.eq_1, wpx_of k58_2.eq_1, wpx_of k58_3.eq_1, wpx_of k58_4.eq_1, wpx_of k58_5.eq_1, wpx_of k58_6.eq_1, wpx_of k58_7.eq_1, wpx_of k58_8.eq_1, wpx_of k58_9.eq_1, wpx_of k58_10.eq_1, wpx_of k58_11.eq_1, wpx_of k58_12.eq_1, wpx_of k58_13.eq_1, wpx_of k58_14.eq_1, wpx_of k58_15.eq_1, wpx_of k58_16.eq_1, wpx_of k58_17.eq_1, stV, slotsO, thingsO, Nat.add_assoc, Cap.cells, hroom, hcg, List.length_set, go_sem])
  all_goals clear hroom hgood
  all_goals try exact Gc.old (hv _ _ _) (key _ _ _ (by first | rw [leaf11 hcg] | rw [leaf12 hcg]
                                                       simp [*, Res.bad, tData]))
  all_goals
    clear key
    rw [leaf11 hcg] at h'
    have h' := h' _ (by simp [*]; rfl)
    generalize ht : tSet (s.thing (fCap s th a).2.1.th.toNat) _ w = t at h'
    refine Gc.stN (s' := boxed s (fCap s th a).2.1.th t) (r := some (boxed s (fCap s th a).2.1.th t)) (i := 5) (j := 6) rfl (by rw [← ht]; simp only [thingsO, boxed, ← things_set, tSet]; rfl) (fun s' e => ?_) (by decide) (by simp [AVal.plain, plains]) rfl (by simp [boxed]) ⟨rfl, rfl, rfl⟩ rfl
    injection e with e
    subst e
    simpa [*, Res.reply] using h'

theorem leaf_nil (ho : op = 11 ∨ op = 12) (hS : H[oS]? = some (.arr 5 (s.slots.map Slot.cells) rS)) (hT : H[oT]? = some (.arr 13 (s.things.map Thing.cells) rT)) (hA : H[oA]? = some (.arr 1 (ints a) rA))
    (h : (leafM s th ⟨op, a, [], x, y, w⟩).st = none → K (.tup [.agg [.int .i64 s.geo.threads, .int .i64 s.geo.slots, .int .i64 s.geo.things, .slice oS s.slots.length 0 s.slots.length fS, .slice oT s.things.length 0 s.things.length fT], (leafM s th ⟨op, a, [], x, y, w⟩).reply]) H)
    (h' : ∀ s', (leafM s th ⟨op, a, [], x, y, w⟩).st = some s' → K (.tup [stV s' H.length (H.length + 1) false false, (leafM s th ⟨op, a, [], x, y, w⟩).reply]) (H ++ [slotsO s', thingsO s'])) :
    ACalls Tryz.prog 58 [.agg [.int .i64 s.geo.threads, .int .i64 s.geo.slots, .int .i64 s.geo.things, .slice oS s.slots.length 0 s.slots.length fS, .slice oT s.things.length 0 s.things.length fT], .int .i64 th, .agg [.int .i64 op, .slice oA a.length 0 a.length fA, .lit (.slice none 0 0), .int .i64 x, .int .i64 y, .int .u64 w]] H K := by
  refine ACalls.gc (ACalls.lay 1 ?_)
  simp only [Go.Ax.fillN, Go.Ax.fill1, go_sem]
  have kS := Keeps.of hS
  have kT := Keeps.of hT
  have kA := Keeps.of hA
  refine leaf_Do_spec (b := []) (oB := H.length) (rB := false) ho (kS _) (kT _) (kA _) at0 (fun e => Gc.old ?_ (h e)) (fun s' e => ?_)
  · simp only [Res.reply, AVal.refs, refsL]
    exact ⟨⟨trivial, trivial, trivial, get_lt hS, get_lt hT, trivial⟩, ⟨trivial, trivial, trivial, trivial⟩, trivial⟩
  · have := Gc.stateT (H := H) (L := .arr 1 [] false :: [slotsO s', thingsO s']) (K := K) (i := 1) (j := 2) (s := s') (f := false) (f' := false) (l := [(leafM s th ⟨op, a, [], x, y, w⟩).reply]) rfl rfl (by decide) (by simp [AVal.plain, plains, Res.reply]) (h' s' e)
    simpa [List.append_assoc, Nat.add_assoc] using this
theorem leaf_nilSom (ho : op = 11 ∨ op = 12) {e w' n : Int} {s' : State} (hr : leafM s th ⟨op, a, [], x, y, w⟩ = ⟨e, w', n, some s'⟩) (hS : H[oS]? = some (.arr 5 (s.slots.map Slot.cells) rS)) (hT : H[oT]? = some (.arr 13 (s.things.map Thing.cells) rT)) (hA : H[oA]? = some (.arr 1 (ints a) rA))
    (h : K (.tup [stV s' H.length (H.length + 1) false false, .agg [.int .i64 e, .int .u64 w', .int .i64 n]]) (H ++ [slotsO s', thingsO s'])) :
    ACalls Tryz.prog 58 [.agg [.int .i64 s.geo.threads, .int .i64 s.geo.slots, .int .i64 s.geo.things, .slice oS s.slots.length 0 s.slots.length fS, .slice oT s.things.length 0 s.things.length fT], .int .i64 th, .agg [.int .i64 op, .slice oA a.length 0 a.length fA, .lit (.slice none 0 0), .int .i64 x, .int .i64 y, .int .u64 w]] H K :=
  leaf_nil ho hS hT hA (by rw [hr]; intro h; cases h) (by rw [hr]; intro s2 h2; injection h2 with h2; subst h2; exact h)
theorem leaf_nilNon (ho : op = 11 ∨ op = 12) {e w' n : Int} (hr : leafM s th ⟨op, a, [], x, y, w⟩ = ⟨e, w', n, none⟩) (hS : H[oS]? = some (.arr 5 (s.slots.map Slot.cells) rS)) (hT : H[oT]? = some (.arr 13 (s.things.map Thing.cells) rT)) (hA : H[oA]? = some (.arr 1 (ints a) rA))
    (h : K (.tup [.agg [.int .i64 s.geo.threads, .int .i64 s.geo.slots, .int .i64 s.geo.things, .slice oS s.slots.length 0 s.slots.length fS, .slice oT s.things.length 0 s.things.length fT], .agg [.int .i64 e, .int .u64 w', .int .i64 n]]) H) :
    ACalls Tryz.prog 58 [.agg [.int .i64 s.geo.threads, .int .i64 s.geo.slots, .int .i64 s.geo.things, .slice oS s.slots.length 0 s.slots.length fS, .slice oT s.things.length 0 s.things.length fT], .int .i64 th, .agg [.int .i64 op, .slice oA a.length 0 a.length fA, .lit (.slice none 0 0), .int .i64 x, .int .i64 y, .int .u64 w]] H K :=
  leaf_nil ho hS hT hA (by rw [hr]; intro _; exact h) (by rw [hr]; intro s2 h2; cases h2)
theorem leaf_err {x w : Int} {a : List Int} (h : (leafM s th ⟨11, a, [], x, 0, w⟩).st = none) : (leafM s th ⟨11, a, [], x, 0, w⟩).err ≠ 0 := by
  cases hcg : callGood ⟨11, a, [], x, 0, w⟩ with
  | false => simp [leafM, hcg, Res.bad]
  | true =>
    rw [leaf11 hcg] at h ⊢
    cases h1 : decide ((fCap s th a).2.2 = 0) with
    | false => simp at h1; simp [h1, Res.bad]
    | true =>
      cases h2 : decide ((fCap s th a).2.1.ty = 5) with
      | false => simp [h1, Res.bad]
      | true =>
        cases h3 : rWithin 2 (fCap s th a).2.1.ri with
        | false => simp [h1, Res.bad]
        | true => simp [h1, h2, h3] at h
end
end Go.Proofs.YtipigjckoejfpaaGreat.Ax

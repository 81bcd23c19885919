/- Texts put behind one another: LRevoke. Conditions: none. -/
import Derived.Test.YtipigjckoejfpaaGreatZRu
import Derived.Test.YtipigjckoejfpaaGreatZTk
import Derived.Test.YtipigjckoejfpaaGreatZPu
import Derived.Test.YtipigjckoejfpaaGreatSArgZ
set_option linter.unusedSimpArgs false
set_option linter.unusedVariables false
namespace Go.Ax.M
open Go Go.Ax
theorem fcap_good {s : State} {th : Int} {a : List Int} (h : (fCap s th a).2.2 = 0) : inB th 0 (s.geo.threads - 1) = true ∧ pGood a = true := by
  cases h1 : inB th 0 (s.geo.threads - 1) with
  | false => simp [fCap, fSlot, h1] at h
  | true =>
    cases h2 : pGood a with
    | false => simp [fCap, fSlot, h2] at h
    | true => exact ⟨rfl, rfl⟩
theorem fcap_bad {s : State} {th : Int} {a : List Int} (h : inB th 0 (s.geo.threads - 1) = false ∨ pGood a = false) : (fCap s th a).2.2 = 1 := by
  rcases h with h | h <;> simp [fCap, fSlot, h]
theorem good6 {a : List Int} : callGood ⟨6, a, [], 0, 0, 0⟩ = pGood a := by simp [callGood, callL, cNumbers]
end Go.Ax.M
namespace Go.Proofs.YtipigjckoejfpaaGreat.Ax
open Go Go.Ax Go.Ax.M
set_option maxRecDepth 100000
section
variable {H : Heap} {K : AVal → Heap → Prop} {s : State} {th x y w : Int} {a b : List Int} {oS oT oA oB : Nat} {fS fT rS rT fA fB rA rB : Bool}

theorem rule_six (hg : sGood s = true) (ht : inB th 0 (s.geo.threads - 1) = true) (hc : callGood ⟨6, a, b, x, y, w⟩ = true) (hS : H[oS]? = some (.arr 5 (s.slots.map Slot.cells) rS)) (hT : H[oT]? = some (.arr 13 (s.things.map Thing.cells) rT)) (hA : H[oA]? = some (.arr 1 (ints a) rA)) (hB : H[oB]? = some (.arr 1 (ints b) rB))
    (h : (takeN s th ⟨6, a, b, x, y, w⟩).st = none → K (.tup [.agg [.int .i64 s.geo.threads, .int .i64 s.geo.slots, .int .i64 s.geo.things, .slice oS s.slots.length 0 s.slots.length fS, .slice oT s.things.length 0 s.things.length fT], (takeN s th ⟨6, a, b, x, y, w⟩).reply]) H) (h' : ∀ s', (takeN s th ⟨6, a, b, x, y, w⟩).st = some s' → K (.tup [stV s' H.length (H.length + 1) false false, (takeN s th ⟨6, a, b, x, y, w⟩).reply]) (H ++ [slotsO s', thingsO s'])) :
    ACalls Tryz.prog 78 [.agg [.int .i64 s.geo.threads, .int .i64 s.geo.slots, .int .i64 s.geo.things, .slice oS s.slots.length 0 s.slots.length fS, .slice oT s.things.length 0 s.things.length fT], .int .i64 th, .agg [.int .i64 6, .slice oA a.length 0 a.length fA, .slice oB b.length 0 b.length fB, .int .i64 x, .int .i64 y, .int .u64 w]] H K := by
  have kT := Keeps.of hT
  have kS := Keeps.of hS
  have kA := Keeps.of hA
  have kB := Keeps.of hB
  have hv := fun (e v n : Int) => show (AVal.tup [.agg [.int .i64 s.geo.threads, .int .i64 s.geo.slots, .int .i64 s.geo.things, .slice oS s.slots.length 0 s.slots.length fS, .slice oT s.things.length 0 s.things.length fT], .agg [.int .i64 e, .int .u64 v, .int .i64 n]]).refs (fun o => o < H.length) by simp [AVal.refs, refsL]; exact ⟨get_lt hS, get_lt hT⟩
  refine ACalls.gc ?_
  refine ACalls.into ok78 (Nat.le_of_ble_eq_true rfl) ?_; (try simp only [c78, wpx_of k78_0.eq_1, wpx_of k78_1.eq_1, wpx_of k78_2.eq_1, wpx_of k78_3.eq_1, wpx_of k78_4.eq_1, wpx_of k78_5.eq_1, wpx_of k78_6.eq_1, wpx_of k78_7.eq_1, wpx_of k78_8.eq_1, wpx_of k78_9.eq_1, wpx_of k78_10.eq_1, wpx_of k78_11.eq_1, wpx_of k78_12.eq_1, wpx_of k78_13.eq_1, wpx_of k78_14.eq_1, wpx_of k78_15.eq_1, wpx_of k78_16.eq_1, wpx_of k78_17.eq_1, wpx_of k78_18.eq_1, stV, slotsO, thingsO, Nat.add_assoc, Res.reply, hg, ht, hc, go_sem]); repeat' ((first
    | refine And.intro (Or.inr rfl) ?_
    | ((first | refine cB ?_ ?_ | refine gT ?_ ?_ | refine gF ?_ ?_ | refine dT ?_ ?_ | refine dF ?_ ?_) <;> intro hc)
    | refine state_Good_spec (kS _) (kT _) ?_
    | refine call_Good_spec (c := ⟨6, a, b, x, y, w⟩) (kA _) (kB _) ?_
    | refine rule_there_spec (s := s) ?_
    | refine take_Do_spec (c := ⟨6, a, b, x, y, w⟩) (kS _) (kT _) (kA _) (kB _) (fun hc => ?_) (fun s' hc => ?_)) <;> try simp only [*, wpx_of k78_0.eq_1, wpx_of k78_1.eq_1, wpx_of k78_2.eq_1, wpx_of k78_3.eq_1, wpx_of k78_4.eq_1, wpx_of k78_5.eq_1, wpx_of k78_6.eq_1, wpx_of k78_7.eq_1, wpx_of k78_8.eq_1, wpx_of k78_9.eq_1, wpx_of k78_10.eq_1, wpx_of k78_11.eq_1, wpx_of k78_12.eq_1, wpx_of k78_13.eq_1, wpx_of k78_14.eq_1, wpx_of k78_15.eq_1, wpx_of k78_16.eq_1, wpx_of k78_17.eq_1, wpx_of k78_18.eq_1, stV, slotsO, thingsO, Nat.add_assoc, Res.reply, hg, ht, hc, go_sem])
  · exact Gc.old (hv _ _ _) (h (by assumption))
  · exact Gc.stN (i := 4) (j := 5) rfl rfl (r := (takeN s th ⟨6, a, b, x, y, w⟩).st) (fun s' e => h' s' e) (hn := rfl) (hm := rfl) (e := by assumption)

theorem rule_six_bad (hg : sGood s = true) (ht : inB th 0 (s.geo.threads - 1) = false ∨ callGood ⟨6, a, b, x, y, w⟩ = false) (hS : H[oS]? = some (.arr 5 (s.slots.map Slot.cells) rS)) (hT : H[oT]? = some (.arr 13 (s.things.map Thing.cells) rT)) (hA : H[oA]? = some (.arr 1 (ints a) rA)) (hB : H[oB]? = some (.arr 1 (ints b) rB))
    (h : K (.tup [.agg [.int .i64 s.geo.threads, .int .i64 s.geo.slots, .int .i64 s.geo.things, .slice oS s.slots.length 0 s.slots.length fS, .slice oT s.things.length 0 s.things.length fT], .agg [.int .i64 1, .int .u64 0, .int .i64 0]]) H) :
    ACalls Tryz.prog 78 [.agg [.int .i64 s.geo.threads, .int .i64 s.geo.slots, .int .i64 s.geo.things, .slice oS s.slots.length 0 s.slots.length fS, .slice oT s.things.length 0 s.things.length fT], .int .i64 th, .agg [.int .i64 6, .slice oA a.length 0 a.length fA, .slice oB b.length 0 b.length fB, .int .i64 x, .int .i64 y, .int .u64 w]] H K := by
  have kT := Keeps.of hT
  have kS := Keeps.of hS
  have kA := Keeps.of hA
  have kB := Keeps.of hB
  have hv := fun (e v n : Int) => show (AVal.tup [.agg [.int .i64 s.geo.threads, .int .i64 s.geo.slots, .int .i64 s.geo.things, .slice oS s.slots.length 0 s.slots.length fS, .slice oT s.things.length 0 s.things.length fT], .agg [.int .i64 e, .int .u64 v, .int .i64 n]]).refs (fun o => o < H.length) by simp [AVal.refs, refsL]; exact ⟨get_lt hS, get_lt hT⟩
  refine ACalls.gc ?_
  cases hc : callGood ⟨6, a, b, x, y, w⟩ with
  | false =>
    clear ht
    refine ACalls.into ok78 (Nat.le_of_ble_eq_true rfl) ?_; (try simp only [c78, wpx_of k78_0.eq_1, wpx_of k78_1.eq_1, wpx_of k78_2.eq_1, wpx_of k78_3.eq_1, wpx_of k78_4.eq_1, wpx_of k78_5.eq_1, wpx_of k78_6.eq_1, wpx_of k78_7.eq_1, wpx_of k78_8.eq_1, wpx_of k78_9.eq_1, wpx_of k78_10.eq_1, wpx_of k78_11.eq_1, wpx_of k78_12.eq_1, wpx_of k78_13.eq_1, wpx_of k78_14.eq_1, wpx_of k78_15.eq_1, wpx_of k78_16.eq_1, wpx_of k78_17.eq_1, wpx_of k78_18.eq_1, stV, slotsO, thingsO, Nat.add_assoc, Res.reply, hg, hc, go_sem]); repeat' ((first
    | refine And.intro (Or.inr rfl) ?_
    | ((first | refine cB ?_ ?_ | refine gT ?_ ?_ | refine gF ?_ ?_ | refine dT ?_ ?_ | refine dF ?_ ?_) <;> intro hc)
    | refine state_Good_spec (kS _) (kT _) ?_
    | refine call_Good_spec (c := ⟨6, a, b, x, y, w⟩) (kA _) (kB _) ?_) <;> try simp only [*, wpx_of k78_0.eq_1, wpx_of k78_1.eq_1, wpx_of k78_2.eq_1, wpx_of k78_3.eq_1, wpx_of k78_4.eq_1, wpx_of k78_5.eq_1, wpx_of k78_6.eq_1, wpx_of k78_7.eq_1, wpx_of k78_8.eq_1, wpx_of k78_9.eq_1, wpx_of k78_10.eq_1, wpx_of k78_11.eq_1, wpx_of k78_12.eq_1, wpx_of k78_13.eq_1, wpx_of k78_14.eq_1, wpx_of k78_15.eq_1, wpx_of k78_16.eq_1, wpx_of k78_17.eq_1, wpx_of k78_18.eq_1, stV, slotsO, thingsO, Nat.add_assoc, Res.reply, hg, hc, go_sem])
    exact Gc.old (hv _ _ _) h
  | true =>
    have ht : inB th 0 (s.geo.threads - 1) = false := by rcases ht with h | h; exact h; rw [hc] at h; cases h
    refine ACalls.into ok78 (Nat.le_of_ble_eq_true rfl) ?_; (try simp only [c78, wpx_of k78_0.eq_1, wpx_of k78_1.eq_1, wpx_of k78_2.eq_1, wpx_of k78_3.eq_1, wpx_of k78_4.eq_1, wpx_of k78_5.eq_1, wpx_of k78_6.eq_1, wpx_of k78_7.eq_1, wpx_of k78_8.eq_1, wpx_of k78_9.eq_1, wpx_of k78_10.eq_1, wpx_of k78_11.eq_1, wpx_of k78_12.eq_1, wpx_of k78_13.eq_1, wpx_of k78_14.eq_1, wpx_of k78_15.eq_1, wpx_of k78_16.eq_1, wpx_of k78_17.eq_1, wpx_of k78_18.eq_1, stV, slotsO, thingsO, Nat.add_assoc, Res.reply, hg, hc, ht, go_sem]); repeat' ((first
    | refine And.intro (Or.inr rfl) ?_
    | ((first | refine cB ?_ ?_ | refine gT ?_ ?_ | refine gF ?_ ?_ | refine dT ?_ ?_ | refine dF ?_ ?_) <;> intro hc)
    | refine state_Good_spec (kS _) (kT _) ?_
    | refine call_Good_spec (c := ⟨6, a, b, x, y, w⟩) (kA _) (kB _) ?_
    | refine rule_there_spec (s := s) ?_) <;> try simp only [*, wpx_of k78_0.eq_1, wpx_of k78_1.eq_1, wpx_of k78_2.eq_1, wpx_of k78_3.eq_1, wpx_of k78_4.eq_1, wpx_of k78_5.eq_1, wpx_of k78_6.eq_1, wpx_of k78_7.eq_1, wpx_of k78_8.eq_1, wpx_of k78_9.eq_1, wpx_of k78_10.eq_1, wpx_of k78_11.eq_1, wpx_of k78_12.eq_1, wpx_of k78_13.eq_1, wpx_of k78_14.eq_1, wpx_of k78_15.eq_1, wpx_of k78_16.eq_1, wpx_of k78_17.eq_1, wpx_of k78_18.eq_1, stV, slotsO, thingsO, Nat.add_assoc, Res.reply, hg, hc, ht, go_sem])
    exact Gc.old (hv _ _ _) h

theorem rule_six_nil {N : Int} {u : State} (hg : sGood s = true) (he : (fCap s th a).2.2 = 0) (hu : takeE s (fBelowS (sForest s) (fCap s th a).1) = (u, N)) (hS : H[oS]? = some (.arr 5 (s.slots.map Slot.cells) rS)) (hT : H[oT]? = some (.arr 13 (s.things.map Thing.cells) rT)) (hA : H[oA]? = some (.arr 1 (ints a) rA))
    (h : K (.tup [stV u H.length (H.length + 1) false false, .agg [.int .i64 0, .int .u64 0, .int .i64 N]]) (H ++ [slotsO u, thingsO u])) :
    ACalls Tryz.prog 78 [.agg [.int .i64 s.geo.threads, .int .i64 s.geo.slots, .int .i64 s.geo.things, .slice oS s.slots.length 0 s.slots.length fS, .slice oT s.things.length 0 s.things.length fT], .int .i64 th, .agg [.int .i64 6, .slice oA a.length 0 a.length fA, .lit (.slice none 0 0), .int .i64 0, .int .i64 0, .int .u64 0]] H K := by
  have hc := fcap_good he
  have hcg : callGood ⟨6, a, [], 0, 0, 0⟩ = true := by rw [good6]; exact hc.2
  have e : takeN s th ⟨6, a, [], 0, 0, 0⟩ = ⟨0, 0, N, some u⟩ := by simp [takeN, hcg, he, hu]
  refine ACalls.gc (ACalls.lay 1 ?_)
  simp only [Go.Ax.fillN, Go.Ax.fill1, go_sem]
  have kS := Keeps.of hS
  have kT := Keeps.of hT
  have kA := Keeps.of hA
  refine rule_six (b := []) (oB := H.length) (rB := false) hg hc.1 hcg (kS _) (kT _) (kA _) at0 (fun h0 => by rw [e] at h0; cases h0) (fun s' hs => ?_)
  rw [e] at hs ⊢
  injection hs with hs
  subst hs
  have := Gc.stateT (H := H) (L := .arr 1 [] false :: [slotsO u, thingsO u]) (K := K) (i := 1) (j := 2) (s := u) (f := false) (f' := false) (l := [.agg [.int .i64 0, .int .u64 0, .int .i64 N]]) rfl rfl (by decide) (by simp [AVal.plain, plains]) h
  simpa [List.append_assoc, Nat.add_assoc, Res.reply] using this
theorem rule_six_err (hg : sGood s = true) (he : (fCap s th a).2.2 ≠ 0) (hS : H[oS]? = some (.arr 5 (s.slots.map Slot.cells) rS)) (hT : H[oT]? = some (.arr 13 (s.things.map Thing.cells) rT)) (hA : H[oA]? = some (.arr 1 (ints a) rA))
    (h : K (.tup [.agg [.int .i64 s.geo.threads, .int .i64 s.geo.slots, .int .i64 s.geo.things, .slice oS s.slots.length 0 s.slots.length fS, .slice oT s.things.length 0 s.things.length fT], .agg [.int .i64 (fCap s th a).2.2, .int .u64 0, .int .i64 0]]) H) :
    ACalls Tryz.prog 78 [.agg [.int .i64 s.geo.threads, .int .i64 s.geo.slots, .int .i64 s.geo.things, .slice oS s.slots.length 0 s.slots.length fS, .slice oT s.things.length 0 s.things.length fT], .int .i64 th, .agg [.int .i64 6, .slice oA a.length 0 a.length fA, .lit (.slice none 0 0), .int .i64 0, .int .i64 0, .int .u64 0]] H K := by
  refine ACalls.gc (ACalls.lay 1 ?_)
  simp only [Go.Ax.fillN, Go.Ax.fill1, go_sem]
  have kS := Keeps.of hS
  have kT := Keeps.of hT
  have kA := Keeps.of hA
  have hv := fun (e v n : Int) => show (AVal.tup [.agg [.int .i64 s.geo.threads, .int .i64 s.geo.slots, .int .i64 s.geo.things, .slice oS s.slots.length 0 s.slots.length fS, .slice oT s.things.length 0 s.things.length fT], .agg [.int .i64 e, .int .u64 v, .int .i64 n]]).refs (fun o => o < H.length) by simp [AVal.refs, refsL]; exact ⟨get_lt hS, get_lt hT⟩
  cases hp : inB th 0 (s.geo.threads - 1) && pGood a with
  | true =>
    simp only [Bool.and_eq_true] at hp
    have hcg : callGood ⟨6, a, [], 0, 0, 0⟩ = true := by rw [good6]; exact hp.2
    have e : takeN s th ⟨6, a, [], 0, 0, 0⟩ = ⟨(fCap s th a).2.2, 0, 0, none⟩ := by simp [takeN, hcg, he, Res.bad]
    refine rule_six (b := []) (oB := H.length) (rB := false) hg hp.1 hcg (kS _) (kT _) (kA _) at0 (fun _ => ?_) (fun s' h0 => by rw [e] at h0; cases h0)
    rw [e]
    exact Gc.old (hv _ _ _) h
  | false =>
    have hp : inB th 0 (s.geo.threads - 1) = false ∨ pGood a = false := by
      cases h1 : inB th 0 (s.geo.threads - 1) with
      | false => exact .inl rfl
      | true => rw [h1] at hp; exact .inr (by simpa using hp)
    rw [fcap_bad hp] at h
    refine rule_six_bad (b := []) (oB := H.length) (rB := false) hg (hp.imp id fun h => by rw [good6]; exact h) (kS _) (kT _) (kA _) at0 ?_
    exact Gc.old (hv _ _ _) h

set_option maxHeartbeats 1000000 in
theorem ruleRevokes_law (H : Heap) (bs : List AVal) (h : ArgShapes Tryz.prog H 8 [27, 3, 28] bs) : ACalls Tryz.prog 17 bs H fun v _ => v = .bool true := by
  obtain ⟨a1, l, rfl, h1, h⟩ := argShapes_cons h
  obtain ⟨a2, l, rfl, h2, h⟩ := argShapes_cons h
  obtain ⟨a3, l, rfl, h3, h⟩ := argShapes_cons h
  obtain rfl := argShapes_nil h
  obtain ⟨s, oS, oT, rfl, hS, hT⟩ := arg_state h1
  obtain ⟨th, rfl, -⟩ := h2.int Tryz.underlying3
  obtain ⟨oA, a, rfl, hA⟩ := arg_ints h3
  clear h1 h2 h3 h
  have kS := Keeps.of hS
  have kT := Keeps.of hT
  have kA := Keeps.of hA
  by_cases he : (fCap s th a).2.2 = 0
  · have hok := fCap_ok he
    have inv := hok.1
    have hgood : sGood s = true := inv.ok.good
    have hlt := fCap_lt he
    obtain ⟨u, N, hu⟩ : ∃ u N, takeE s (fBelowS (sForest s) (fCap s th a).1) = (u, N) := ⟨_, _, rfl⟩
    have hmay : fMay (sForest s) (fCap s th a).1 = true := by
      have hl : (sForest s).length = s.slots.length := by simp [sForest]
      simp only [fMay, inv.ok.forest, Bool.true_and, fIs, Bool.and_eq_true, decide_eq_true_eq, Bool.not_eq_true', decide_eq_false_iff_not, hl]
      refine ⟨hok.2.1, hok.2.2.1, ?_⟩
      rw [forest_get (by omega), if_neg (by rw [show cNone _ = false from hok.2.2.2.2.1]; simp)]
      rcases inv.up _ (by omega) hok.2.2.2.2.1 with e | e <;> omega
    obtain ⟨r1, r2, r3, r4⟩ := revoked inv hok.2.1 hmay hu
    have hr4 := r4 (fCap s th a).1.toNat (by omega)
    have hcap := hok.2.2.2.1
    have hcn : cNone (fCap s th a).2.1 = false := hlt.2.2.2.2
    have j0 := hok.2.1
    have j1 := hok.2.2.1
    have hlS := lS_of hgood
    have hN : 0 ≤ N := by omega
    clear hok inv hlt hmay
    refine ACalls.into ok17 (Nat.le_of_ble_eq_true rfl) ?_; (try simp only [c17, wpx_of k17_0.eq_1, wpx_of k17_1.eq_1, wpx_of k17_2.eq_1, wpx_of k17_3.eq_1, wpx_of k17_4.eq_1, wpx_of k17_5.eq_1, wpx_of k17_6.eq_1, wpx_of k17_8.eq_1, wpx_of k17_9.eq_1, wpx_of k17_10.eq_1, wpx_of k17_11.eq_1, wpx_of k17_12.eq_1, wpx_of k17_13.eq_1, wpx_of k17_14.eq_1, wpx_of k17_15.eq_1, kS, kT, stV, slotsO, thingsO, Nat.add_assoc, Res.reply, Cap.cells, he, go_sem]); repeat' ((first
    | refine And.intro (Or.inr rfl) ?_
    | ((first | refine cB ?_ ?_ | refine gT ?_ ?_ | refine gF ?_ ?_ | refine dT ?_ ?_ | refine dF ?_ ?_) <;> intro hc)
    | refine awake21_spec ?_
    | refine heavy21_nil ?_
    | refine state_Good_spec (kS _) (kT _) ?_
    | refine find_Cap_spec (kS _) (kT _) (kA _) ?_
    | refine rule_six_nil hgood he hu (kS _) (kT _) (kA _) ?_) <;> try simp only [*, wpx_of k17_0.eq_1, wpx_of k17_1.eq_1, wpx_of k17_2.eq_1, wpx_of k17_3.eq_1, wpx_of k17_4.eq_1, wpx_of k17_5.eq_1, wpx_of k17_6.eq_1, wpx_of k17_8.eq_1, wpx_of k17_9.eq_1, wpx_of k17_10.eq_1, wpx_of k17_11.eq_1, wpx_of k17_12.eq_1, wpx_of k17_13.eq_1, wpx_of k17_14.eq_1, wpx_of k17_15.eq_1, kS, kT, stV, slotsO, thingsO, Nat.add_assoc, Res.reply, Cap.cells, he, go_sem])
    have hat := slots_get (s := u) (k := (fCap s th a).1.toNat) (by omega)
    have j2 : (0 ≤ (fCap s th a).1) = True := eq_true j0
    have j3 : ((fCap s th a).1 < (s.slots.length : Int)) = True := eq_true j1
    have hcn2 : cNone ⟨(s.slot (fCap s th a).1.toNat).cap.ty, (s.slot (fCap s th a).1.toNat).cap.th, (s.slot (fCap s th a).1.toNat).cap.ri, (s.slot (fCap s th a).1.toNat).cap.ba⟩ = false := by rw [hcap] at hcn; exact hcn
    clear hcap hcn
    refine ALoop.keep [13, 14, 3, 8, 9, 11, 12] ?_; simp only [List.map_cons, List.map_nil, go_sem]
    refine ALoop.acc (fun k (_ : Unit) => [(13, .int .i64 (gone s u k : Int)), (14, .int .i64 (k : Int))]) (fun _ _ => _) (fun k _ => True) s.slots.length ?_ (a0 := ()) trivial
    intro k _ hk _ next
    refine ALoop.unfold ?_
    have hgl : gone s u k ≤ k := by
      simp only [gone]
      refine Nat.le_trans List.countP_le_length ?_
      simp
    have hw := wrap_succ (k := k) (by omega)
    have hwg := wrap_succ (k := gone s u k) (by omega)
    by_cases hks : k < s.slots.length
    · have hgs := slots_get (s := s) (k := k) hks
      have hgu := slots_get (s := u) (k := k) (by omega)
      have f2 : ((u.slot k).up = (fCap s th a).1) = False := eq_false (r2 k hks)
      have hsu := gone_succ (s := s) (u := u) (k := k)
      clear r2 r3 hr4 hat hu
      (try simp only [wpx_of k17_0.eq_1, wpx_of k17_1.eq_1, wpx_of k17_2.eq_1, wpx_of k17_3.eq_1, wpx_of k17_4.eq_1, wpx_of k17_5.eq_1, wpx_of k17_6.eq_1, wpx_of k17_8.eq_1, wpx_of k17_9.eq_1, wpx_of k17_10.eq_1, wpx_of k17_11.eq_1, wpx_of k17_12.eq_1, wpx_of k17_13.eq_1, wpx_of k17_14.eq_1, wpx_of k17_15.eq_1, kS, kT, r1, hw, hwg, hks, hgs, hgu, f2, wpx_of b17_7.eq_1, nlt_iff, n0_le, Nat.add_assoc, List.cons_append, List.nil_append, go_sem]); repeat' ((first
    | refine And.intro (Or.inr rfl) ?_
    | ((first | refine cB ?_ ?_ | refine gT ?_ ?_ | refine gF ?_ ?_ | refine dT ?_ ?_ | refine dF ?_ ?_) <;> intro hc)
    | refine cap_None_x ?_) <;> try simp only [*, wpx_of k17_0.eq_1, wpx_of k17_1.eq_1, wpx_of k17_2.eq_1, wpx_of k17_3.eq_1, wpx_of k17_4.eq_1, wpx_of k17_5.eq_1, wpx_of k17_6.eq_1, wpx_of k17_8.eq_1, wpx_of k17_9.eq_1, wpx_of k17_10.eq_1, wpx_of k17_11.eq_1, wpx_of k17_12.eq_1, wpx_of k17_13.eq_1, wpx_of k17_14.eq_1, wpx_of k17_15.eq_1, kS, kT, r1, hw, hwg, hks, hgs, hgu, f2, wpx_of b17_7.eq_1, nlt_iff, n0_le, Nat.add_assoc, List.cons_append, List.nil_append, go_sem])
      case pos.refine_1.refine_1 =>
        have e : gone s u (k + 1) = gone s u k + 1 := by rw [hsu, show cNone (u.slot k).cap = true by assumption, show cNone (s.slot k).cap = false by assumption]; rfl
        rw [e] at next
        (refine ALoop.keep [13, 14, 3, 8, 9, 11, 12] ?_; simp only [List.map_cons, List.map_nil, go_sem]; refine next () hks trivial)
      case pos.refine_1.refine_2 =>
        have e : gone s u (k + 1) = gone s u k := by rw [hsu, show cNone (u.slot k).cap = true by assumption, show cNone (s.slot k).cap = true by assumption]; rfl
        rw [e] at next
        (refine ALoop.keep [13, 14, 3, 8, 9, 11, 12] ?_; simp only [List.map_cons, List.map_nil, go_sem]; refine next () hks trivial)
      case pos.refine_2 =>
        have e : gone s u (k + 1) = gone s u k := by rw [hsu, show cNone (u.slot k).cap = false by assumption]; rfl
        rw [e] at next
        (refine ALoop.keep [13, 14, 3, 8, 9, 11, 12] ?_; simp only [List.map_cons, List.map_nil, go_sem]; refine next () hks trivial)
    · have hk' : k = s.slots.length := by omega
      subst hk'
      clear r2 next hu
      have hirr : (s.slots.length < s.slots.length) = False := eq_false (Nat.lt_irrefl _)
      rcases hr4 with hz | hz
      · have hat : (u.slots.map Slot.cells)[(fCap s th a).1.toNat]? = some [.int .i64 0, .int .i64 0, .int .i64 0, .int .i64 0, .int .i64 (-1)] := by rw [hz] at hat; exact hat
        have hnz : cNone ⟨0, 0, 0, 0⟩ = true := by kernel_rfl
        (try simp only [wpx_of k17_0.eq_1, wpx_of k17_1.eq_1, wpx_of k17_2.eq_1, wpx_of k17_3.eq_1, wpx_of k17_4.eq_1, wpx_of k17_5.eq_1, wpx_of k17_6.eq_1, wpx_of k17_8.eq_1, wpx_of k17_9.eq_1, wpx_of k17_10.eq_1, wpx_of k17_11.eq_1, wpx_of k17_12.eq_1, wpx_of k17_13.eq_1, wpx_of k17_14.eq_1, wpx_of k17_15.eq_1, kS, kT, r1, r3, hirr, hat, j2, j3, hnz, wpx_of b17_7.eq_1, nlt_iff, n0_le, Nat.add_assoc, List.cons_append, List.nil_append, go_sem]); repeat' ((first
    | refine And.intro (Or.inr rfl) ?_
    | ((first | refine cB ?_ ?_ | refine gT ?_ ?_ | refine gF ?_ ?_ | refine dT ?_ ?_ | refine dF ?_ ?_) <;> intro hc)
    | refine cap_None_x ?_) <;> try simp only [*, wpx_of k17_0.eq_1, wpx_of k17_1.eq_1, wpx_of k17_2.eq_1, wpx_of k17_3.eq_1, wpx_of k17_4.eq_1, wpx_of k17_5.eq_1, wpx_of k17_6.eq_1, wpx_of k17_8.eq_1, wpx_of k17_9.eq_1, wpx_of k17_10.eq_1, wpx_of k17_11.eq_1, wpx_of k17_12.eq_1, wpx_of k17_13.eq_1, wpx_of k17_14.eq_1, wpx_of k17_15.eq_1, kS, kT, r1, r3, hirr, hat, j2, j3, hnz, wpx_of b17_7.eq_1, nlt_iff, n0_le, Nat.add_assoc, List.cons_append, List.nil_append, go_sem])
        all_goals first | rfl | trace_state
      · rw [hz] at hat
        (try simp only [wpx_of k17_0.eq_1, wpx_of k17_1.eq_1, wpx_of k17_2.eq_1, wpx_of k17_3.eq_1, wpx_of k17_4.eq_1, wpx_of k17_5.eq_1, wpx_of k17_6.eq_1, wpx_of k17_8.eq_1, wpx_of k17_9.eq_1, wpx_of k17_10.eq_1, wpx_of k17_11.eq_1, wpx_of k17_12.eq_1, wpx_of k17_13.eq_1, wpx_of k17_14.eq_1, wpx_of k17_15.eq_1, kS, kT, r1, r3, hirr, hat, j2, j3, hcn2, wpx_of b17_7.eq_1, nlt_iff, n0_le, Nat.add_assoc, List.cons_append, List.nil_append, go_sem]); repeat' ((first
    | refine And.intro (Or.inr rfl) ?_
    | ((first | refine cB ?_ ?_ | refine gT ?_ ?_ | refine gF ?_ ?_ | refine dT ?_ ?_ | refine dF ?_ ?_) <;> intro hc)
    | refine cap_None_x ?_) <;> try simp only [*, wpx_of k17_0.eq_1, wpx_of k17_1.eq_1, wpx_of k17_2.eq_1, wpx_of k17_3.eq_1, wpx_of k17_4.eq_1, wpx_of k17_5.eq_1, wpx_of k17_6.eq_1, wpx_of k17_8.eq_1, wpx_of k17_9.eq_1, wpx_of k17_10.eq_1, wpx_of k17_11.eq_1, wpx_of k17_12.eq_1, wpx_of k17_13.eq_1, wpx_of k17_14.eq_1, wpx_of k17_15.eq_1, kS, kT, r1, r3, hirr, hat, j2, j3, hcn2, wpx_of b17_7.eq_1, nlt_iff, n0_le, Nat.add_assoc, List.cons_append, List.nil_append, go_sem])
        all_goals first | rfl | trace_state
  · refine ACalls.into ok17 (Nat.le_of_ble_eq_true rfl) ?_; (try simp only [c17, wpx_of k17_0.eq_1, wpx_of k17_1.eq_1, wpx_of k17_2.eq_1, wpx_of k17_3.eq_1, wpx_of k17_4.eq_1, wpx_of k17_5.eq_1, wpx_of k17_6.eq_1, wpx_of k17_8.eq_1, wpx_of k17_9.eq_1, wpx_of k17_10.eq_1, wpx_of k17_11.eq_1, wpx_of k17_12.eq_1, wpx_of k17_13.eq_1, wpx_of k17_14.eq_1, wpx_of k17_15.eq_1, kS, kT, stV, slotsO, thingsO, Nat.add_assoc, Res.reply, Cap.cells, he, go_sem]); repeat' ((first
    | refine And.intro (Or.inr rfl) ?_
    | ((first | refine cB ?_ ?_ | refine gT ?_ ?_ | refine gF ?_ ?_ | refine dT ?_ ?_ | refine dF ?_ ?_) <;> intro hc)
    | refine awake21_spec ?_
    | refine heavy21_nil ?_
    | refine state_Good_spec (kS _) (kT _) ?_
    | refine find_Cap_spec (kS _) (kT _) (kA _) ?_
    | refine rule_six_err (by assumption) he (kS _) (kT _) (kA _) ?_) <;> try simp only [*, wpx_of k17_0.eq_1, wpx_of k17_1.eq_1, wpx_of k17_2.eq_1, wpx_of k17_3.eq_1, wpx_of k17_4.eq_1, wpx_of k17_5.eq_1, wpx_of k17_6.eq_1, wpx_of k17_8.eq_1, wpx_of k17_9.eq_1, wpx_of k17_10.eq_1, wpx_of k17_11.eq_1, wpx_of k17_12.eq_1, wpx_of k17_13.eq_1, wpx_of k17_14.eq_1, wpx_of k17_15.eq_1, kS, kT, stV, slotsO, thingsO, Nat.add_assoc, Res.reply, Cap.cells, he, go_sem])
    all_goals first | rfl | trace_state
end
end Go.Proofs.YtipigjckoejfpaaGreat.Ax

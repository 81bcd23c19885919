/- Texts put behind one another: SRule, SRuleA. Conditions: none. -/
import Derived.Test.YtipigjckoejfpaaGreatSLawB21Z
import Derived.Test.YtipigjckoejfpaaGreatZLf
set_option linter.unusedSimpArgs false
set_option linter.unusedVariables false
/- All that may be asked: what the program's functions answer, in part. Conditions: none. -/
namespace Go.Proofs.YtipigjckoejfpaaGreat.Ax
open Go Go.Ax Go.Ax.M
set_option maxRecDepth 100000
section
variable {H : Heap} {K : AVal → Heap → Prop} {s : State} {th x y w : Int} {a b : List Int} {oS oT oA oB oL : Nat} {fS fT rS rT fA fB rA rB fL : Bool}

theorem rule_there_spec (h : K (.bool (inB th 0 (s.geo.threads - 1))) H) : ACalls Tryz.prog 149 [.agg [.int .i64 s.geo.threads, .int .i64 s.geo.slots, .int .i64 s.geo.things, .slice oS s.slots.length 0 s.slots.length fS, .slice oT s.things.length 0 s.things.length fT], .int .i64 th] H K := by
  refine ACalls.tidy ?_
  refine ACalls.into ok149 (Nat.le_of_ble_eq_true rfl) ?_; (try simp only [c149, wpx_of k149_0.eq_1, go_sem]); repeat' ((first
    | refine And.intro (Or.inr rfl) ?_
    | ((first | refine cB ?_ ?_ | refine gT ?_ ?_ | refine gF ?_ ?_ | refine dT ?_ ?_ | refine dF ?_ ?_) <;> intro hc)) <;> try simp only [*, wpx_of k149_0.eq_1, go_sem])
  all_goals exact tb h ⟨_, rfl⟩ (by by_cases h1 : 0 ≤ th <;> by_cases h2 : th < s.geo.threads <;> simp [inB, h1, h2] <;> omega)

theorem call_Get_short {n : Nat} (hn : ((n : Int) = 4) = False) (h : K (.tup [.agg [.int .i64 0, .lit (.slice none 0 0), .lit (.slice none 0 0), .int .i64 0, .int .i64 0, .int .u64 0], .bool false]) H) :
    ACalls Tryz.prog 84 [.slice oL n 0 n fL] H K := by
  refine ACalls.gc ?_
  refine ACalls.into ok84 (Nat.le_of_ble_eq_true rfl) ?_; (try simp only [c84, wpx_of k84_0.eq_1, wpx_of k84_1.eq_1, wpx_of k84_2.eq_1, wpx_of k84_3.eq_1, wpx_of k84_4.eq_1, wpx_of k84_5.eq_1, wpx_of k84_6.eq_1, wpx_of k84_7.eq_1, wpx_of k84_8.eq_1, hn, go_sem]); repeat' ((first
    | refine And.intro (Or.inr rfl) ?_
    | ((first | refine cB ?_ ?_ | refine gT ?_ ?_ | refine gF ?_ ?_ | refine dT ?_ ?_ | refine dF ?_ ?_) <;> intro hc)) <;> try simp only [*, wpx_of k84_0.eq_1, wpx_of k84_1.eq_1, wpx_of k84_2.eq_1, wpx_of k84_3.eq_1, wpx_of k84_4.eq_1, wpx_of k84_5.eq_1, wpx_of k84_6.eq_1, wpx_of k84_7.eq_1, wpx_of k84_8.eq_1, hn, go_sem])
  exact Gc.old (by simp [AVal.refs, refsL]) h

theorem rule_Words_short {n : Nat} (hn : ((n : Int) = 4) = False) (good : sGood s = true) (hS : H[oS]? = some (.arr 5 (s.slots.map Slot.cells) rS)) (hT : H[oT]? = some (.arr 13 (s.things.map Thing.cells) rT))
    (h : K (.tup [.agg [.int .i64 s.geo.threads, .int .i64 s.geo.slots, .int .i64 s.geo.things, .slice oS s.slots.length 0 s.slots.length fS, .slice oT s.things.length 0 s.things.length fT], .agg [.int .i64 2, .int .u64 0, .int .i64 0]]) H) : ACalls Tryz.prog 82 [.agg [.int .i64 s.geo.threads, .int .i64 s.geo.slots, .int .i64 s.geo.things, .slice oS s.slots.length 0 s.slots.length fS, .slice oT s.things.length 0 s.things.length fT], .int .i64 th, .slice oL n 0 n fL] H K := by
  have kT := Keeps.of hT
  have kS := Keeps.of hS
  have hv := fun (e v n : Int) => show (AVal.tup [.agg [.int .i64 s.geo.threads, .int .i64 s.geo.slots, .int .i64 s.geo.things, .slice oS s.slots.length 0 s.slots.length fS, .slice oT s.things.length 0 s.things.length fT], .agg [.int .i64 e, .int .u64 v, .int .i64 n]]).refs (fun o => o < H.length) by simp [AVal.refs, refsL]; exact ⟨get_lt hS, get_lt hT⟩
  refine ACalls.gc ?_
  refine ACalls.into ok82 (Nat.le_of_ble_eq_true rfl) ?_; (try simp only [c82, wpx_of k82_0.eq_1, wpx_of k82_1.eq_1, wpx_of k82_2.eq_1, wpx_of k82_3.eq_1, wpx_of k82_4.eq_1, wpx_of k82_5.eq_1, stV, good, hn, Nat.add_assoc, go_sem]); repeat' ((first
    | refine And.intro (Or.inr rfl) ?_
    | ((first | refine cB ?_ ?_ | refine gT ?_ ?_ | refine gF ?_ ?_ | refine dT ?_ ?_ | refine dF ?_ ?_) <;> intro hc)
    | refine call_Get_short hn ?_
    | refine state_Good_spec (kS _) (kT _) ?_) <;> try simp only [*, wpx_of k82_0.eq_1, wpx_of k82_1.eq_1, wpx_of k82_2.eq_1, wpx_of k82_3.eq_1, wpx_of k82_4.eq_1, wpx_of k82_5.eq_1, stV, good, hn, Nat.add_assoc, go_sem])
  exact Gc.old (hv _ _ _) h

theorem rule_tell (hg : sGood s = true) (ht : inB th 0 (s.geo.threads - 1) = true) (hc : callGood ⟨13, a, b, x, y, w⟩ = true) (hS : H[oS]? = some (.arr 5 (s.slots.map Slot.cells) rS)) (hT : H[oT]? = some (.arr 13 (s.things.map Thing.cells) rT)) (hA : H[oA]? = some (.arr 1 (ints a) rA)) (hB : H[oB]? = some (.arr 1 (ints b) rB))
    (h : K (.tup [.agg [.int .i64 s.geo.threads, .int .i64 s.geo.slots, .int .i64 s.geo.things, .slice oS s.slots.length 0 s.slots.length fS, .slice oT s.things.length 0 s.things.length fT], (leafM s th ⟨13, a, b, x, y, w⟩).reply]) H) :
    ACalls Tryz.prog 78 [.agg [.int .i64 s.geo.threads, .int .i64 s.geo.slots, .int .i64 s.geo.things, .slice oS s.slots.length 0 s.slots.length fS, .slice oT s.things.length 0 s.things.length fT], .int .i64 th, .agg [.int .i64 13, .slice oA a.length 0 a.length fA, .slice oB b.length 0 b.length fB, .int .i64 x, .int .i64 y, .int .u64 w]] H K := by
  have kT := Keeps.of hT
  have kS := Keeps.of hS
  have kA := Keeps.of hA
  have kB := Keeps.of hB
  have hv := fun (e v n : Int) => show (AVal.tup [.agg [.int .i64 s.geo.threads, .int .i64 s.geo.slots, .int .i64 s.geo.things, .slice oS s.slots.length 0 s.slots.length fS, .slice oT s.things.length 0 s.things.length fT], .agg [.int .i64 e, .int .u64 v, .int .i64 n]]).refs (fun o => o < H.length) by simp [AVal.refs, refsL]; exact ⟨get_lt hS, get_lt hT⟩
  refine ACalls.gc ?_
  refine ACalls.into ok78 (Nat.le_of_ble_eq_true rfl) ?_; (try simp only [c78, wpx_of k78_0.eq_1, wpx_of k78_1.eq_1, wpx_of k78_2.eq_1, wpx_of k78_3.eq_1, wpx_of k78_4.eq_1, wpx_of k78_5.eq_1, wpx_of k78_6.eq_1, wpx_of k78_7.eq_1, wpx_of k78_8.eq_1, wpx_of k78_9.eq_1, wpx_of k78_10.eq_1, wpx_of k78_11.eq_1, wpx_of k78_12.eq_1, wpx_of k78_13.eq_1, wpx_of k78_14.eq_1, wpx_of k78_15.eq_1, wpx_of k78_16.eq_1, wpx_of k78_17.eq_1, wpx_of k78_18.eq_1, stV, slotsO, thingsO, Nat.add_assoc, Res.reply, hg, ht, hc, go_sem]); repeat' ((first
    | refine And.intro (Or.inr rfl) ?_
    | ((first | refine cB ?_ ?_ | refine gT ?_ ?_ | refine gF ?_ ?_ | refine dT ?_ ?_ | refine dF ?_ ?_) <;> intro hc)
    | refine state_Good_spec (kS _) (kT _) ?_
    | refine call_Good_spec (c := ⟨13, a, b, x, y, w⟩) (kA _) (kB _) ?_
    | refine rule_there_spec (s := s) ?_
    | refine leaf_Do_tell (kS _) (kT _) (kA _) (kB _) ?_) <;> try simp only [*, wpx_of k78_0.eq_1, wpx_of k78_1.eq_1, wpx_of k78_2.eq_1, wpx_of k78_3.eq_1, wpx_of k78_4.eq_1, wpx_of k78_5.eq_1, wpx_of k78_6.eq_1, wpx_of k78_7.eq_1, wpx_of k78_8.eq_1, wpx_of k78_9.eq_1, wpx_of k78_10.eq_1, wpx_of k78_11.eq_1, wpx_of k78_12.eq_1, wpx_of k78_13.eq_1, wpx_of k78_14.eq_1, wpx_of k78_15.eq_1, wpx_of k78_16.eq_1, wpx_of k78_17.eq_1, wpx_of k78_18.eq_1, stV, slotsO, thingsO, Nat.add_assoc, Res.reply, hg, ht, hc, go_sem])
  exact Gc.old (hv _ _ _) h

theorem rule_tell_nil {e w' n : Int} (hg : sGood s = true) (ht : inB th 0 (s.geo.threads - 1) = true) (hc : callGood ⟨13, a, [], x, y, w⟩ = true) (hr : leafM s th ⟨13, a, [], x, y, w⟩ = ⟨e, w', n, none⟩) (hS : H[oS]? = some (.arr 5 (s.slots.map Slot.cells) rS)) (hT : H[oT]? = some (.arr 13 (s.things.map Thing.cells) rT)) (hA : H[oA]? = some (.arr 1 (ints a) rA))
    (h : K (.tup [.agg [.int .i64 s.geo.threads, .int .i64 s.geo.slots, .int .i64 s.geo.things, .slice oS s.slots.length 0 s.slots.length fS, .slice oT s.things.length 0 s.things.length fT], .agg [.int .i64 e, .int .u64 w', .int .i64 n]]) H) :
    ACalls Tryz.prog 78 [.agg [.int .i64 s.geo.threads, .int .i64 s.geo.slots, .int .i64 s.geo.things, .slice oS s.slots.length 0 s.slots.length fS, .slice oT s.things.length 0 s.things.length fT], .int .i64 th, .agg [.int .i64 13, .slice oA a.length 0 a.length fA, .lit (.slice none 0 0), .int .i64 x, .int .i64 y, .int .u64 w]] H K := by
  refine ACalls.gc (ACalls.lay 1 ?_)
  simp only [Go.Ax.fillN, Go.Ax.fill1, go_sem]
  have kS := Keeps.of hS
  have kT := Keeps.of hT
  have kA := Keeps.of hA
  refine rule_tell (b := []) (oB := H.length) (rB := false) hg ht hc (kS _) (kT _) (kA _) at0 ?_
  rw [hr]
  refine Gc.old ?_ h
  simp only [AVal.refs, refsL]
  exact ⟨⟨trivial, trivial, trivial, get_lt hS, get_lt hT, trivial⟩, ⟨trivial, trivial, trivial, trivial⟩, trivial⟩

theorem reads_13 (h : K (.bool true) H) : ACalls Tryz.prog 86 [.int .i64 13] H K := run_known (v := .bool true) tab21Ok (loops := 5) (k := 5) (by kernel_rfl) rfl rfl h
theorem reads_11 (h : K (.bool false) H) : ACalls Tryz.prog 86 [.int .i64 11] H K := run_known (v := .bool false) tab21Ok (loops := 5) (k := 5) (by kernel_rfl) rfl rfl h
theorem mr_g : sGood S0 = true := by kernel_rfl
theorem mr_t : inB 0 0 (S0.geo.threads - 1) = true := by kernel_rfl
theorem mr_c : callGood ⟨13, [0], [], 0, 0, 0⟩ = true := by kernel_rfl
theorem mr_l : leafM S0 0 ⟨13, [0], [], 0, 0, 0⟩ = ⟨0, cWord ⟨1, 0, 7, 0⟩, 0, none⟩ := by kernel_rfl
theorem awake21_spec (h : K (.bool true) H) : ACalls Tryz.prog 76 [] H K := by
  have hss : sSame S0 S0 = true := sSame_iff.2 rfl
  refine ACalls.tidy ?_
  refine ACalls.into ok76 (Nat.le_of_ble_eq_true rfl) ?_; (try simp only [c76, wpx_of k76_0.eq_1, wpx_of k76_1.eq_1, wpx_of k76_2.eq_1, stV, slotsO, thingsO, Nat.add_assoc, Int.cast_ofNat_Int, hss, go_sem]); repeat' ((first
    | refine And.intro (Or.inr rfl) ?_
    | ((first | refine cB ?_ ?_ | refine gT ?_ ?_ | refine gF ?_ ?_ | refine dT ?_ ?_ | refine dF ?_ ?_) <;> intro hc)
    | refine first21_spec ?_
    | refine way21_spec (by first | exact at0 | exact at1 | exact at2 | exact at3 | exact at4 | exact at5 | exact at6 | exact at7 | exact at8 | exact at9 | exact at10 | exact at11 | exact at12 | exact at13 | exact at14 | exact at15 | exact at16 | exact atX rfl) ?_
    | refine rule_Words_short (s := S0) (n := 2) (by decide) mr_g (by first | exact at0 | exact at1 | exact at2 | exact at3 | exact at4 | exact at5 | exact at6 | exact at7 | exact at8 | exact at9 | exact at10 | exact at11 | exact at12 | exact at13 | exact at14 | exact at15 | exact at16 | exact atX rfl) (by first | exact at0 | exact at1 | exact at2 | exact at3 | exact at4 | exact at5 | exact at6 | exact at7 | exact at8 | exact at9 | exact at10 | exact at11 | exact at12 | exact at13 | exact at14 | exact at15 | exact at16 | exact atX rfl) ?_
    | refine rule_tell_nil (s := S0) (a := [0]) mr_g mr_t mr_c mr_l (by first | exact at0 | exact at1 | exact at2 | exact at3 | exact at4 | exact at5 | exact at6 | exact at7 | exact at8 | exact at9 | exact at10 | exact at11 | exact at12 | exact at13 | exact at14 | exact at15 | exact at16 | exact atX rfl) (by first | exact at0 | exact at1 | exact at2 | exact at3 | exact at4 | exact at5 | exact at6 | exact at7 | exact at8 | exact at9 | exact at10 | exact at11 | exact at12 | exact at13 | exact at14 | exact at15 | exact at16 | exact atX rfl) (by first | exact at0 | exact at1 | exact at2 | exact at3 | exact at4 | exact at5 | exact at6 | exact at7 | exact at8 | exact at9 | exact at10 | exact at11 | exact at12 | exact at13 | exact at14 | exact at15 | exact at16 | exact atX rfl) ?_
    | refine state_Same_spec (s := S0) (u := S0) (by first | exact at0 | exact at1 | exact at2 | exact at3 | exact at4 | exact at5 | exact at6 | exact at7 | exact at8 | exact at9 | exact at10 | exact at11 | exact at12 | exact at13 | exact at14 | exact at15 | exact at16 | exact atX rfl) (by first | exact at0 | exact at1 | exact at2 | exact at3 | exact at4 | exact at5 | exact at6 | exact at7 | exact at8 | exact at9 | exact at10 | exact at11 | exact at12 | exact at13 | exact at14 | exact at15 | exact at16 | exact atX rfl) (by first | exact at0 | exact at1 | exact at2 | exact at3 | exact at4 | exact at5 | exact at6 | exact at7 | exact at8 | exact at9 | exact at10 | exact at11 | exact at12 | exact at13 | exact at14 | exact at15 | exact at16 | exact atX rfl) (by first | exact at0 | exact at1 | exact at2 | exact at3 | exact at4 | exact at5 | exact at6 | exact at7 | exact at8 | exact at9 | exact at10 | exact at11 | exact at12 | exact at13 | exact at14 | exact at15 | exact at16 | exact atX rfl) (by decide) (by decide) ?_
    | refine reads_13 ?_
    | refine reads_11 ?_) <;> try simp only [*, wpx_of k76_0.eq_1, wpx_of k76_1.eq_1, wpx_of k76_2.eq_1, stV, slotsO, thingsO, Nat.add_assoc, Int.cast_ofNat_Int, hss, go_sem])
  all_goals first | exact ⟨rfl, _, rfl⟩ | exact tb h ⟨_, rfl⟩ rfl | trace_state
end
end Go.Proofs.YtipigjckoejfpaaGreat.Ax

/- All that may be asked: what rule.Do answers where a thing is made, sent, taken out, written, read. Conditions: none. -/
namespace Go.Proofs.YtipigjckoejfpaaGreat.Ax
open Go Go.Ax Go.Ax.M
set_option maxRecDepth 100000
section
variable {H : Heap} {K : AVal → Heap → Prop} {s : State} {th x y w : Int} {a b : List Int} {oS oT oA oB : Nat} {fS fT rS rT fA fB rA rB : Bool}

theorem rule_op1 (hg : sGood s = true) (ht : inB th 0 (s.geo.threads - 1) = true) (hc : callGood ⟨1, a, b, x, y, w⟩ = true) (hS : H[oS]? = some (.arr 5 (s.slots.map Slot.cells) rS)) (hT : H[oT]? = some (.arr 13 (s.things.map Thing.cells) rT)) (hA : H[oA]? = some (.arr 1 (ints a) rA)) (hB : H[oB]? = some (.arr 1 (ints b) rB))
    (h : (carveM s th ⟨1, a, b, x, y, w⟩).st = none → K (.tup [.agg [.int .i64 s.geo.threads, .int .i64 s.geo.slots, .int .i64 s.geo.things, .slice oS s.slots.length 0 s.slots.length fS, .slice oT s.things.length 0 s.things.length fT], (carveM s th ⟨1, a, b, x, y, w⟩).reply]) H) (h' : ∀ s', (carveM s th ⟨1, a, b, x, y, w⟩).st = some s' → K (.tup [stV s' H.length (H.length + 1) false false, (carveM s th ⟨1, a, b, x, y, w⟩).reply]) (H ++ [slotsO s', thingsO s'])) :
    ACalls Tryz.prog 78 [.agg [.int .i64 s.geo.threads, .int .i64 s.geo.slots, .int .i64 s.geo.things, .slice oS s.slots.length 0 s.slots.length fS, .slice oT s.things.length 0 s.things.length fT], .int .i64 th, .agg [.int .i64 1, .slice oA a.length 0 a.length fA, .slice oB b.length 0 b.length fB, .int .i64 x, .int .i64 y, .int .u64 w]] H K := by
  have kT := Keeps.of hT
  have kS := Keeps.of hS
  have kA := Keeps.of hA
  have kB := Keeps.of hB
  have hv := fun (e v n : Int) => show (AVal.tup [.agg [.int .i64 s.geo.threads, .int .i64 s.geo.slots, .int .i64 s.geo.things, .slice oS s.slots.length 0 s.slots.length fS, .slice oT s.things.length 0 s.things.length fT], .agg [.int .i64 e, .int .u64 v, .int .i64 n]]).refs (fun o => o < H.length) by simp [AVal.refs, refsL]; exact ⟨get_lt hS, get_lt hT⟩
  refine ACalls.gc ?_
  refine ACalls.into ok78 (Nat.le_of_ble_eq_true rfl) ?_; (try simp only [c78, wpx_of k78_0.eq_1, wpx_of k78_1.eq_1, wpx_of k78_2.eq_1, wpx_of k78_3.eq_1, wpx_of k78_4.eq_1, wpx_of k78_5.eq_1, wpx_of k78_6.eq_1, wpx_of k78_7.eq_1, wpx_of k78_8.eq_1, wpx_of k78_9.eq_1, wpx_of k78_10.eq_1, wpx_of k78_11.eq_1, wpx_of k78_12.eq_1, wpx_of k78_13.eq_1, wpx_of k78_14.eq_1, wpx_of k78_15.eq_1, wpx_of k78_16.eq_1, wpx_of k78_17.eq_1, wpx_of k78_18.eq_1, stV, slotsO, thingsO, Nat.add_assoc, Res.reply, hg, ht, hc, go_sem]); repeat' ((first
    | refine And.intro (Or.inr rfl) ?_
    | ((first | refine cB ?_ ?_ | refine gT ?_ ?_ | refine gF ?_ ?_ | refine dT ?_ ?_ | refine dF ?_ ?_) <;> intro hc)
    | refine state_Good_spec (kS _) (kT _) ?_
    | refine call_Good_spec (c := ⟨1, a, b, x, y, w⟩) (kA _) (kB _) ?_
    | refine rule_there_spec (s := s) ?_
    | refine carve_Do_spec (c := ⟨1, a, b, x, y, w⟩) (kS _) (kT _) (kA _) (kB _) (fun hc => ?_) (fun s' hc => ?_)) <;> try simp only [*, wpx_of k78_0.eq_1, wpx_of k78_1.eq_1, wpx_of k78_2.eq_1, wpx_of k78_3.eq_1, wpx_of k78_4.eq_1, wpx_of k78_5.eq_1, wpx_of k78_6.eq_1, wpx_of k78_7.eq_1, wpx_of k78_8.eq_1, wpx_of k78_9.eq_1, wpx_of k78_10.eq_1, wpx_of k78_11.eq_1, wpx_of k78_12.eq_1, wpx_of k78_13.eq_1, wpx_of k78_14.eq_1, wpx_of k78_15.eq_1, wpx_of k78_16.eq_1, wpx_of k78_17.eq_1, wpx_of k78_18.eq_1, stV, slotsO, thingsO, Nat.add_assoc, Res.reply, hg, ht, hc, go_sem])
  · exact Gc.old (hv _ _ _) (h (by assumption))
  · exact Gc.stN (i := 4) (j := 5) rfl rfl (r := (carveM s th ⟨1, a, b, x, y, w⟩).st) (fun s' e => h' s' e) (hn := rfl) (hm := rfl) (e := by assumption)
theorem rule_som1 {e v n : Int} {s' : State} (hr : carveM s th ⟨1, a, b, x, y, w⟩ = ⟨e, v, n, some s'⟩) (hg : sGood s = true) (ht : inB th 0 (s.geo.threads - 1) = true) (hc : callGood ⟨1, a, b, x, y, w⟩ = true) (hS : H[oS]? = some (.arr 5 (s.slots.map Slot.cells) rS)) (hT : H[oT]? = some (.arr 13 (s.things.map Thing.cells) rT)) (hA : H[oA]? = some (.arr 1 (ints a) rA)) (hB : H[oB]? = some (.arr 1 (ints b) rB))
    (h : K (.tup [stV s' H.length (H.length + 1) false false, .agg [.int .i64 e, .int .u64 v, .int .i64 n]]) (H ++ [slotsO s', thingsO s'])) :
    ACalls Tryz.prog 78 [.agg [.int .i64 s.geo.threads, .int .i64 s.geo.slots, .int .i64 s.geo.things, .slice oS s.slots.length 0 s.slots.length fS, .slice oT s.things.length 0 s.things.length fT], .int .i64 th, .agg [.int .i64 1, .slice oA a.length 0 a.length fA, .slice oB b.length 0 b.length fB, .int .i64 x, .int .i64 y, .int .u64 w]] H K :=
  rule_op1 hg ht hc hS hT hA hB (by rw [hr]; intro h; cases h) (by rw [hr]; intro s2 h2; injection h2 with h2; subst h2; exact h)

theorem rule_op7 (hg : sGood s = true) (ht : inB th 0 (s.geo.threads - 1) = true) (hc : callGood ⟨7, a, b, x, y, w⟩ = true) (hS : H[oS]? = some (.arr 5 (s.slots.map Slot.cells) rS)) (hT : H[oT]? = some (.arr 13 (s.things.map Thing.cells) rT)) (hA : H[oA]? = some (.arr 1 (ints a) rA)) (hB : H[oB]? = some (.arr 1 (ints b) rB))
    (h : (mailM s th ⟨7, a, b, x, y, w⟩).st = none → K (.tup [.agg [.int .i64 s.geo.threads, .int .i64 s.geo.slots, .int .i64 s.geo.things, .slice oS s.slots.length 0 s.slots.length fS, .slice oT s.things.length 0 s.things.length fT], (mailM s th ⟨7, a, b, x, y, w⟩).reply]) H) (h' : ∀ s', (mailM s th ⟨7, a, b, x, y, w⟩).st = some s' → K (.tup [stV s' H.length (H.length + 1) false false, (mailM s th ⟨7, a, b, x, y, w⟩).reply]) (H ++ [slotsO s', thingsO s'])) :
    ACalls Tryz.prog 78 [.agg [.int .i64 s.geo.threads, .int .i64 s.geo.slots, .int .i64 s.geo.things, .slice oS s.slots.length 0 s.slots.length fS, .slice oT s.things.length 0 s.things.length fT], .int .i64 th, .agg [.int .i64 7, .slice oA a.length 0 a.length fA, .slice oB b.length 0 b.length fB, .int .i64 x, .int .i64 y, .int .u64 w]] H K := by
  have kT := Keeps.of hT
  have kS := Keeps.of hS
  have kA := Keeps.of hA
  have kB := Keeps.of hB
  have hv := fun (e v n : Int) => show (AVal.tup [.agg [.int .i64 s.geo.threads, .int .i64 s.geo.slots, .int .i64 s.geo.things, .slice oS s.slots.length 0 s.slots.length fS, .slice oT s.things.length 0 s.things.length fT], .agg [.int .i64 e, .int .u64 v, .int .i64 n]]).refs (fun o => o < H.length) by simp [AVal.refs, refsL]; exact ⟨get_lt hS, get_lt hT⟩
  refine ACalls.gc ?_
  refine ACalls.into ok78 (Nat.le_of_ble_eq_true rfl) ?_; (try simp only [c78, wpx_of k78_0.eq_1, wpx_of k78_1.eq_1, wpx_of k78_2.eq_1, wpx_of k78_3.eq_1, wpx_of k78_4.eq_1, wpx_of k78_5.eq_1, wpx_of k78_6.eq_1, wpx_of k78_7.eq_1, wpx_of k78_8.eq_1, wpx_of k78_9.eq_1, wpx_of k78_10.eq_1, wpx_of k78_11.eq_1, wpx_of k78_12.eq_1, wpx_of k78_13.eq_1, wpx_of k78_14.eq_1, wpx_of k78_15.eq_1, wpx_of k78_16.eq_1, wpx_of k78_17.eq_1, wpx_of k78_18.eq_1, stV, slotsO, thingsO, Nat.add_assoc, Res.reply, hg, ht, hc, go_sem]); repeat' ((first
    | refine And.intro (Or.inr rfl) ?_
    | ((first | refine cB ?_ ?_ | refine gT ?_ ?_ | refine gF ?_ ?_ | refine dT ?_ ?_ | refine dF ?_ ?_) <;> intro hc)
    | refine state_Good_spec (kS _) (kT _) ?_
    | refine call_Good_spec (c := ⟨7, a, b, x, y, w⟩) (kA _) (kB _) ?_
    | refine rule_there_spec (s := s) ?_
    | refine mail_Do_spec (c := ⟨7, a, b, x, y, w⟩) (kS _) (kT _) (kA _) (kB _) (fun hc => ?_) (fun s' hc => ?_)) <;> try simp only [*, wpx_of k78_0.eq_1, wpx_of k78_1.eq_1, wpx_of k78_2.eq_1, wpx_of k78_3.eq_1, wpx_of k78_4.eq_1, wpx_of k78_5.eq_1, wpx_of k78_6.eq_1, wpx_of k78_7.eq_1, wpx_of k78_8.eq_1, wpx_of k78_9.eq_1, wpx_of k78_10.eq_1, wpx_of k78_11.eq_1, wpx_of k78_12.eq_1, wpx_of k78_13.eq_1, wpx_of k78_14.eq_1, wpx_of k78_15.eq_1, wpx_of k78_16.eq_1, wpx_of k78_17.eq_1, wpx_of k78_18.eq_1, stV, slotsO, thingsO, Nat.add_assoc, Res.reply, hg, ht, hc, go_sem])
  · exact Gc.old (hv _ _ _) (h (by assumption))
  · exact Gc.stN (i := 4) (j := 5) rfl rfl (r := (mailM s th ⟨7, a, b, x, y, w⟩).st) (fun s' e => h' s' e) (hn := rfl) (hm := rfl) (e := by assumption)
theorem rule_som7 {e v n : Int} {s' : State} (hr : mailM s th ⟨7, a, b, x, y, w⟩ = ⟨e, v, n, some s'⟩) (hg : sGood s = true) (ht : inB th 0 (s.geo.threads - 1) = true) (hc : callGood ⟨7, a, b, x, y, w⟩ = true) (hS : H[oS]? = some (.arr 5 (s.slots.map Slot.cells) rS)) (hT : H[oT]? = some (.arr 13 (s.things.map Thing.cells) rT)) (hA : H[oA]? = some (.arr 1 (ints a) rA)) (hB : H[oB]? = some (.arr 1 (ints b) rB))
    (h : K (.tup [stV s' H.length (H.length + 1) false false, .agg [.int .i64 e, .int .u64 v, .int .i64 n]]) (H ++ [slotsO s', thingsO s'])) :
    ACalls Tryz.prog 78 [.agg [.int .i64 s.geo.threads, .int .i64 s.geo.slots, .int .i64 s.geo.things, .slice oS s.slots.length 0 s.slots.length fS, .slice oT s.things.length 0 s.things.length fT], .int .i64 th, .agg [.int .i64 7, .slice oA a.length 0 a.length fA, .slice oB b.length 0 b.length fB, .int .i64 x, .int .i64 y, .int .u64 w]] H K :=
  rule_op7 hg ht hc hS hT hA hB (by rw [hr]; intro h; cases h) (by rw [hr]; intro s2 h2; injection h2 with h2; subst h2; exact h)

theorem rule_op8 (hg : sGood s = true) (ht : inB th 0 (s.geo.threads - 1) = true) (hc : callGood ⟨8, a, b, x, y, w⟩ = true) (hS : H[oS]? = some (.arr 5 (s.slots.map Slot.cells) rS)) (hT : H[oT]? = some (.arr 13 (s.things.map Thing.cells) rT)) (hA : H[oA]? = some (.arr 1 (ints a) rA)) (hB : H[oB]? = some (.arr 1 (ints b) rB))
    (h : (mailM s th ⟨8, a, b, x, y, w⟩).st = none → K (.tup [.agg [.int .i64 s.geo.threads, .int .i64 s.geo.slots, .int .i64 s.geo.things, .slice oS s.slots.length 0 s.slots.length fS, .slice oT s.things.length 0 s.things.length fT], (mailM s th ⟨8, a, b, x, y, w⟩).reply]) H) (h' : ∀ s', (mailM s th ⟨8, a, b, x, y, w⟩).st = some s' → K (.tup [stV s' H.length (H.length + 1) false false, (mailM s th ⟨8, a, b, x, y, w⟩).reply]) (H ++ [slotsO s', thingsO s'])) :
    ACalls Tryz.prog 78 [.agg [.int .i64 s.geo.threads, .int .i64 s.geo.slots, .int .i64 s.geo.things, .slice oS s.slots.length 0 s.slots.length fS, .slice oT s.things.length 0 s.things.length fT], .int .i64 th, .agg [.int .i64 8, .slice oA a.length 0 a.length fA, .slice oB b.length 0 b.length fB, .int .i64 x, .int .i64 y, .int .u64 w]] H K := by
  have kT := Keeps.of hT
  have kS := Keeps.of hS
  have kA := Keeps.of hA
  have kB := Keeps.of hB
  have hv := fun (e v n : Int) => show (AVal.tup [.agg [.int .i64 s.geo.threads, .int .i64 s.geo.slots, .int .i64 s.geo.things, .slice oS s.slots.length 0 s.slots.length fS, .slice oT s.things.length 0 s.things.length fT], .agg [.int .i64 e, .int .u64 v, .int .i64 n]]).refs (fun o => o < H.length) by simp [AVal.refs, refsL]; exact ⟨get_lt hS, get_lt hT⟩
  refine ACalls.gc ?_
  refine ACalls.into ok78 (Nat.le_of_ble_eq_true rfl) ?_; (try simp only [c78, wpx_of k78_0.eq_1, wpx_of k78_1.eq_1, wpx_of k78_2.eq_1, wpx_of k78_3.eq_1, wpx_of k78_4.eq_1, wpx_of k78_5.eq_1, wpx_of k78_6.eq_1, wpx_of k78_7.eq_1, wpx_of k78_8.eq_1, wpx_of k78_9.eq_1, wpx_of k78_10.eq_1, wpx_of k78_11.eq_1, wpx_of k78_12.eq_1, wpx_of k78_13.eq_1, wpx_of k78_14.eq_1, wpx_of k78_15.eq_1, wpx_of k78_16.eq_1, wpx_of k78_17.eq_1, wpx_of k78_18.eq_1, stV, slotsO, thingsO, Nat.add_assoc, Res.reply, hg, ht, hc, go_sem]); repeat' ((first
    | refine And.intro (Or.inr rfl) ?_
    | ((first | refine cB ?_ ?_ | refine gT ?_ ?_ | refine gF ?_ ?_ | refine dT ?_ ?_ | refine dF ?_ ?_) <;> intro hc)
    | refine state_Good_spec (kS _) (kT _) ?_
    | refine call_Good_spec (c := ⟨8, a, b, x, y, w⟩) (kA _) (kB _) ?_
    | refine rule_there_spec (s := s) ?_
    | refine mail_Do_spec (c := ⟨8, a, b, x, y, w⟩) (kS _) (kT _) (kA _) (kB _) (fun hc => ?_) (fun s' hc => ?_)) <;> try simp only [*, wpx_of k78_0.eq_1, wpx_of k78_1.eq_1, wpx_of k78_2.eq_1, wpx_of k78_3.eq_1, wpx_of k78_4.eq_1, wpx_of k78_5.eq_1, wpx_of k78_6.eq_1, wpx_of k78_7.eq_1, wpx_of k78_8.eq_1, wpx_of k78_9.eq_1, wpx_of k78_10.eq_1, wpx_of k78_11.eq_1, wpx_of k78_12.eq_1, wpx_of k78_13.eq_1, wpx_of k78_14.eq_1, wpx_of k78_15.eq_1, wpx_of k78_16.eq_1, wpx_of k78_17.eq_1, wpx_of k78_18.eq_1, stV, slotsO, thingsO, Nat.add_assoc, Res.reply, hg, ht, hc, go_sem])
  · exact Gc.old (hv _ _ _) (h (by assumption))
  · exact Gc.stN (i := 4) (j := 5) rfl rfl (r := (mailM s th ⟨8, a, b, x, y, w⟩).st) (fun s' e => h' s' e) (hn := rfl) (hm := rfl) (e := by assumption)
theorem rule_som8 {e v n : Int} {s' : State} (hr : mailM s th ⟨8, a, b, x, y, w⟩ = ⟨e, v, n, some s'⟩) (hg : sGood s = true) (ht : inB th 0 (s.geo.threads - 1) = true) (hc : callGood ⟨8, a, b, x, y, w⟩ = true) (hS : H[oS]? = some (.arr 5 (s.slots.map Slot.cells) rS)) (hT : H[oT]? = some (.arr 13 (s.things.map Thing.cells) rT)) (hA : H[oA]? = some (.arr 1 (ints a) rA)) (hB : H[oB]? = some (.arr 1 (ints b) rB))
    (h : K (.tup [stV s' H.length (H.length + 1) false false, .agg [.int .i64 e, .int .u64 v, .int .i64 n]]) (H ++ [slotsO s', thingsO s'])) :
    ACalls Tryz.prog 78 [.agg [.int .i64 s.geo.threads, .int .i64 s.geo.slots, .int .i64 s.geo.things, .slice oS s.slots.length 0 s.slots.length fS, .slice oT s.things.length 0 s.things.length fT], .int .i64 th, .agg [.int .i64 8, .slice oA a.length 0 a.length fA, .slice oB b.length 0 b.length fB, .int .i64 x, .int .i64 y, .int .u64 w]] H K :=
  rule_op8 hg ht hc hS hT hA hB (by rw [hr]; intro h; cases h) (by rw [hr]; intro s2 h2; injection h2 with h2; subst h2; exact h)

theorem rule_op11 (hg : sGood s = true) (ht : inB th 0 (s.geo.threads - 1) = true) (hc : callGood ⟨11, a, b, x, y, w⟩ = true) (hS : H[oS]? = some (.arr 5 (s.slots.map Slot.cells) rS)) (hT : H[oT]? = some (.arr 13 (s.things.map Thing.cells) rT)) (hA : H[oA]? = some (.arr 1 (ints a) rA)) (hB : H[oB]? = some (.arr 1 (ints b) rB))
    (h : (leafM s th ⟨11, a, b, x, y, w⟩).st = none → K (.tup [.agg [.int .i64 s.geo.threads, .int .i64 s.geo.slots, .int .i64 s.geo.things, .slice oS s.slots.length 0 s.slots.length fS, .slice oT s.things.length 0 s.things.length fT], (leafM s th ⟨11, a, b, x, y, w⟩).reply]) H) (h' : ∀ s', (leafM s th ⟨11, a, b, x, y, w⟩).st = some s' → K (.tup [stV s' H.length (H.length + 1) false false, (leafM s th ⟨11, a, b, x, y, w⟩).reply]) (H ++ [slotsO s', thingsO s'])) :
    ACalls Tryz.prog 78 [.agg [.int .i64 s.geo.threads, .int .i64 s.geo.slots, .int .i64 s.geo.things, .slice oS s.slots.length 0 s.slots.length fS, .slice oT s.things.length 0 s.things.length fT], .int .i64 th, .agg [.int .i64 11, .slice oA a.length 0 a.length fA, .slice oB b.length 0 b.length fB, .int .i64 x, .int .i64 y, .int .u64 w]] H K := by
  have kT := Keeps.of hT
  have kS := Keeps.of hS
  have kA := Keeps.of hA
  have kB := Keeps.of hB
  have hv := fun (e v n : Int) => show (AVal.tup [.agg [.int .i64 s.geo.threads, .int .i64 s.geo.slots, .int .i64 s.geo.things, .slice oS s.slots.length 0 s.slots.length fS, .slice oT s.things.length 0 s.things.length fT], .agg [.int .i64 e, .int .u64 v, .int .i64 n]]).refs (fun o => o < H.length) by simp [AVal.refs, refsL]; exact ⟨get_lt hS, get_lt hT⟩
  refine ACalls.gc ?_
  refine ACalls.into ok78 (Nat.le_of_ble_eq_true rfl) ?_; (try simp only [c78, wpx_of k78_0.eq_1, wpx_of k78_1.eq_1, wpx_of k78_2.eq_1, wpx_of k78_3.eq_1, wpx_of k78_4.eq_1, wpx_of k78_5.eq_1, wpx_of k78_6.eq_1, wpx_of k78_7.eq_1, wpx_of k78_8.eq_1, wpx_of k78_9.eq_1, wpx_of k78_10.eq_1, wpx_of k78_11.eq_1, wpx_of k78_12.eq_1, wpx_of k78_13.eq_1, wpx_of k78_14.eq_1, wpx_of k78_15.eq_1, wpx_of k78_16.eq_1, wpx_of k78_17.eq_1, wpx_of k78_18.eq_1, stV, slotsO, thingsO, Nat.add_assoc, Res.reply, hg, ht, hc, go_sem]); repeat' ((first
    | refine And.intro (Or.inr rfl) ?_
    | ((first | refine cB ?_ ?_ | refine gT ?_ ?_ | refine gF ?_ ?_ | refine dT ?_ ?_ | refine dF ?_ ?_) <;> intro hc)
    | refine state_Good_spec (kS _) (kT _) ?_
    | refine call_Good_spec (c := ⟨11, a, b, x, y, w⟩) (kA _) (kB _) ?_
    | refine rule_there_spec (s := s) ?_
    | refine leaf_Do_spec (.inl rfl) (kS _) (kT _) (kA _) (kB _) (fun hc => ?_) (fun s' hc => ?_)) <;> try simp only [*, wpx_of k78_0.eq_1, wpx_of k78_1.eq_1, wpx_of k78_2.eq_1, wpx_of k78_3.eq_1, wpx_of k78_4.eq_1, wpx_of k78_5.eq_1, wpx_of k78_6.eq_1, wpx_of k78_7.eq_1, wpx_of k78_8.eq_1, wpx_of k78_9.eq_1, wpx_of k78_10.eq_1, wpx_of k78_11.eq_1, wpx_of k78_12.eq_1, wpx_of k78_13.eq_1, wpx_of k78_14.eq_1, wpx_of k78_15.eq_1, wpx_of k78_16.eq_1, wpx_of k78_17.eq_1, wpx_of k78_18.eq_1, stV, slotsO, thingsO, Nat.add_assoc, Res.reply, hg, ht, hc, go_sem])
  · exact Gc.old (hv _ _ _) (h (by assumption))
  · exact Gc.stN (i := 4) (j := 5) rfl rfl (r := (leafM s th ⟨11, a, b, x, y, w⟩).st) (fun s' e => h' s' e) (hn := rfl) (hm := rfl) (e := by assumption)
theorem rule_nil11 (hg : sGood s = true) (ht : inB th 0 (s.geo.threads - 1) = true) (hc : callGood ⟨11, a, [], x, y, w⟩ = true) (hS : H[oS]? = some (.arr 5 (s.slots.map Slot.cells) rS)) (hT : H[oT]? = some (.arr 13 (s.things.map Thing.cells) rT)) (hA : H[oA]? = some (.arr 1 (ints a) rA))
    (h : (leafM s th ⟨11, a, [], x, y, w⟩).st = none → K (.tup [.agg [.int .i64 s.geo.threads, .int .i64 s.geo.slots, .int .i64 s.geo.things, .slice oS s.slots.length 0 s.slots.length fS, .slice oT s.things.length 0 s.things.length fT], (leafM s th ⟨11, a, [], x, y, w⟩).reply]) H) (h' : ∀ s', (leafM s th ⟨11, a, [], x, y, w⟩).st = some s' → K (.tup [stV s' H.length (H.length + 1) false false, (leafM s th ⟨11, a, [], x, y, w⟩).reply]) (H ++ [slotsO s', thingsO s'])) :
    ACalls Tryz.prog 78 [.agg [.int .i64 s.geo.threads, .int .i64 s.geo.slots, .int .i64 s.geo.things, .slice oS s.slots.length 0 s.slots.length fS, .slice oT s.things.length 0 s.things.length fT], .int .i64 th, .agg [.int .i64 11, .slice oA a.length 0 a.length fA, .lit (.slice none 0 0), .int .i64 x, .int .i64 y, .int .u64 w]] H K := by
  refine ACalls.gc (ACalls.lay 1 ?_)
  simp only [Go.Ax.fillN, Go.Ax.fill1, go_sem]
  have kS := Keeps.of hS
  have kT := Keeps.of hT
  have kA := Keeps.of hA
  refine rule_op11 (b := []) (oB := H.length) (rB := false) hg ht hc (kS _) (kT _) (kA _) at0 (fun e => Gc.old ?_ (h e)) (fun s' e => ?_)
  · simp only [Res.reply, AVal.refs, refsL]
    exact ⟨⟨trivial, trivial, trivial, get_lt hS, get_lt hT, trivial⟩, ⟨trivial, trivial, trivial, trivial⟩, trivial⟩
  · have := Gc.stateT (H := H) (L := .arr 1 [] false :: [slotsO s', thingsO s']) (K := K) (i := 1) (j := 2) (s := s') (f := false) (f' := false) (l := [(leafM s th ⟨11, a, [], x, y, w⟩).reply]) rfl rfl (by decide) (by simp [AVal.plain, plains, Res.reply]) (h' s' e)
    simpa [List.append_assoc, Nat.add_assoc] using this

theorem rule_op12 (hg : sGood s = true) (ht : inB th 0 (s.geo.threads - 1) = true) (hc : callGood ⟨12, a, b, x, y, w⟩ = true) (hS : H[oS]? = some (.arr 5 (s.slots.map Slot.cells) rS)) (hT : H[oT]? = some (.arr 13 (s.things.map Thing.cells) rT)) (hA : H[oA]? = some (.arr 1 (ints a) rA)) (hB : H[oB]? = some (.arr 1 (ints b) rB))
    (h : (leafM s th ⟨12, a, b, x, y, w⟩).st = none → K (.tup [.agg [.int .i64 s.geo.threads, .int .i64 s.geo.slots, .int .i64 s.geo.things, .slice oS s.slots.length 0 s.slots.length fS, .slice oT s.things.length 0 s.things.length fT], (leafM s th ⟨12, a, b, x, y, w⟩).reply]) H) (h' : ∀ s', (leafM s th ⟨12, a, b, x, y, w⟩).st = some s' → K (.tup [stV s' H.length (H.length + 1) false false, (leafM s th ⟨12, a, b, x, y, w⟩).reply]) (H ++ [slotsO s', thingsO s'])) :
    ACalls Tryz.prog 78 [.agg [.int .i64 s.geo.threads, .int .i64 s.geo.slots, .int .i64 s.geo.things, .slice oS s.slots.length 0 s.slots.length fS, .slice oT s.things.length 0 s.things.length fT], .int .i64 th, .agg [.int .i64 12, .slice oA a.length 0 a.length fA, .slice oB b.length 0 b.length fB, .int .i64 x, .int .i64 y, .int .u64 w]] H K := by
  have kT := Keeps.of hT
  have kS := Keeps.of hS
  have kA := Keeps.of hA
  have kB := Keeps.of hB
  have hv := fun (e v n : Int) => show (AVal.tup [.agg [.int .i64 s.geo.threads, .int .i64 s.geo.slots, .int .i64 s.geo.things, .slice oS s.slots.length 0 s.slots.length fS, .slice oT s.things.length 0 s.things.length fT], .agg [.int .i64 e, .int .u64 v, .int .i64 n]]).refs (fun o => o < H.length) by simp [AVal.refs, refsL]; exact ⟨get_lt hS, get_lt hT⟩
  refine ACalls.gc ?_
  refine ACalls.into ok78 (Nat.le_of_ble_eq_true rfl) ?_; (try simp only [c78, wpx_of k78_0.eq_1, wpx_of k78_1.eq_1, wpx_of k78_2.eq_1, wpx_of k78_3.eq_1, wpx_of k78_4.eq_1, wpx_of k78_5.eq_1, wpx_of k78_6.eq_1, wpx_of k78_7.eq_1, wpx_of k78_8.eq_1, wpx_of k78_9.eq_1, wpx_of k78_10.eq_1, wpx_of k78_11.eq_1, wpx_of k78_12.eq_1, wpx_of k78_13.eq_1, wpx_of k78_14.eq_1, wpx_of k78_15.eq_1, wpx_of k78_16.eq_1, wpx_of k78_17.eq_1, wpx_of k78_18.eq_1, stV, slotsO, thingsO, Nat.add_assoc, Res.reply, hg, ht, hc, go_sem]); repeat' ((first
    | refine And.intro (Or.inr rfl) ?_
    | ((first | refine cB ?_ ?_ | refine gT ?_ ?_ | refine gF ?_ ?_ | refine dT ?_ ?_ | refine dF ?_ ?_) <;> intro hc)
    | refine state_Good_spec (kS _) (kT _) ?_
    | refine call_Good_spec (c := ⟨12, a, b, x, y, w⟩) (kA _) (kB _) ?_
    | refine rule_there_spec (s := s) ?_
    | refine leaf_Do_spec (.inr rfl) (kS _) (kT _) (kA _) (kB _) (fun hc => ?_) (fun s' hc => ?_)) <;> try simp only [*, wpx_of k78_0.eq_1, wpx_of k78_1.eq_1, wpx_of k78_2.eq_1, wpx_of k78_3.eq_1, wpx_of k78_4.eq_1, wpx_of k78_5.eq_1, wpx_of k78_6.eq_1, wpx_of k78_7.eq_1, wpx_of k78_8.eq_1, wpx_of k78_9.eq_1, wpx_of k78_10.eq_1, wpx_of k78_11.eq_1, wpx_of k78_12.eq_1, wpx_of k78_13.eq_1, wpx_of k78_14.eq_1, wpx_of k78_15.eq_1, wpx_of k78_16.eq_1, wpx_of k78_17.eq_1, wpx_of k78_18.eq_1, stV, slotsO, thingsO, Nat.add_assoc, Res.reply, hg, ht, hc, go_sem])
  · exact Gc.old (hv _ _ _) (h (by assumption))
  · exact Gc.stN (i := 4) (j := 5) rfl rfl (r := (leafM s th ⟨12, a, b, x, y, w⟩).st) (fun s' e => h' s' e) (hn := rfl) (hm := rfl) (e := by assumption)
theorem rule_nil12 (hg : sGood s = true) (ht : inB th 0 (s.geo.threads - 1) = true) (hc : callGood ⟨12, a, [], x, y, w⟩ = true) (hS : H[oS]? = some (.arr 5 (s.slots.map Slot.cells) rS)) (hT : H[oT]? = some (.arr 13 (s.things.map Thing.cells) rT)) (hA : H[oA]? = some (.arr 1 (ints a) rA))
    (h : (leafM s th ⟨12, a, [], x, y, w⟩).st = none → K (.tup [.agg [.int .i64 s.geo.threads, .int .i64 s.geo.slots, .int .i64 s.geo.things, .slice oS s.slots.length 0 s.slots.length fS, .slice oT s.things.length 0 s.things.length fT], (leafM s th ⟨12, a, [], x, y, w⟩).reply]) H) (h' : ∀ s', (leafM s th ⟨12, a, [], x, y, w⟩).st = some s' → K (.tup [stV s' H.length (H.length + 1) false false, (leafM s th ⟨12, a, [], x, y, w⟩).reply]) (H ++ [slotsO s', thingsO s'])) :
    ACalls Tryz.prog 78 [.agg [.int .i64 s.geo.threads, .int .i64 s.geo.slots, .int .i64 s.geo.things, .slice oS s.slots.length 0 s.slots.length fS, .slice oT s.things.length 0 s.things.length fT], .int .i64 th, .agg [.int .i64 12, .slice oA a.length 0 a.length fA, .lit (.slice none 0 0), .int .i64 x, .int .i64 y, .int .u64 w]] H K := by
  refine ACalls.gc (ACalls.lay 1 ?_)
  simp only [Go.Ax.fillN, Go.Ax.fill1, go_sem]
  have kS := Keeps.of hS
  have kT := Keeps.of hT
  have kA := Keeps.of hA
  refine rule_op12 (b := []) (oB := H.length) (rB := false) hg ht hc (kS _) (kT _) (kA _) at0 (fun e => Gc.old ?_ (h e)) (fun s' e => ?_)
  · simp only [Res.reply, AVal.refs, refsL]
    exact ⟨⟨trivial, trivial, trivial, get_lt hS, get_lt hT, trivial⟩, ⟨trivial, trivial, trivial, trivial⟩, trivial⟩
  · have := Gc.stateT (H := H) (L := .arr 1 [] false :: [slotsO s', thingsO s']) (K := K) (i := 1) (j := 2) (s := s') (f := false) (f' := false) (l := [(leafM s th ⟨12, a, [], x, y, w⟩).reply]) rfl rfl (by decide) (by simp [AVal.plain, plains, Res.reply]) (h' s' e)
    simpa [List.append_assoc, Nat.add_assoc] using this
theorem rule_nilSom11 {e v n : Int} {s' : State} (hr : leafM s th ⟨11, a, [], x, y, w⟩ = ⟨e, v, n, some s'⟩) (hg : sGood s = true) (ht : inB th 0 (s.geo.threads - 1) = true) (hc : callGood ⟨11, a, [], x, y, w⟩ = true) (hS : H[oS]? = some (.arr 5 (s.slots.map Slot.cells) rS)) (hT : H[oT]? = some (.arr 13 (s.things.map Thing.cells) rT)) (hA : H[oA]? = some (.arr 1 (ints a) rA))
    (h : K (.tup [stV s' H.length (H.length + 1) false false, .agg [.int .i64 e, .int .u64 v, .int .i64 n]]) (H ++ [slotsO s', thingsO s'])) :
    ACalls Tryz.prog 78 [.agg [.int .i64 s.geo.threads, .int .i64 s.geo.slots, .int .i64 s.geo.things, .slice oS s.slots.length 0 s.slots.length fS, .slice oT s.things.length 0 s.things.length fT], .int .i64 th, .agg [.int .i64 11, .slice oA a.length 0 a.length fA, .lit (.slice none 0 0), .int .i64 x, .int .i64 y, .int .u64 w]] H K :=
  rule_nil11 hg ht hc hS hT hA (by rw [hr]; intro h; cases h) (by rw [hr]; intro s2 h2; injection h2 with h2; subst h2; exact h)
theorem rule_nilNon12 {e v n : Int} (hr : leafM s th ⟨12, a, [], x, y, w⟩ = ⟨e, v, n, none⟩) (hg : sGood s = true) (ht : inB th 0 (s.geo.threads - 1) = true) (hc : callGood ⟨12, a, [], x, y, w⟩ = true) (hS : H[oS]? = some (.arr 5 (s.slots.map Slot.cells) rS)) (hT : H[oT]? = some (.arr 13 (s.things.map Thing.cells) rT)) (hA : H[oA]? = some (.arr 1 (ints a) rA))
    (h : K (.tup [.agg [.int .i64 s.geo.threads, .int .i64 s.geo.slots, .int .i64 s.geo.things, .slice oS s.slots.length 0 s.slots.length fS, .slice oT s.things.length 0 s.things.length fT], .agg [.int .i64 e, .int .u64 v, .int .i64 n]]) H) :
    ACalls Tryz.prog 78 [.agg [.int .i64 s.geo.threads, .int .i64 s.geo.slots, .int .i64 s.geo.things, .slice oS s.slots.length 0 s.slots.length fS, .slice oT s.things.length 0 s.things.length fT], .int .i64 th, .agg [.int .i64 12, .slice oA a.length 0 a.length fA, .lit (.slice none 0 0), .int .i64 x, .int .i64 y, .int .u64 w]] H K :=
  rule_nil12 hg ht hc hS hT hA (by rw [hr]; intro _; exact h) (by rw [hr]; intro s2 h2; cases h2)
end
end Go.Proofs.YtipigjckoejfpaaGreat.Ax

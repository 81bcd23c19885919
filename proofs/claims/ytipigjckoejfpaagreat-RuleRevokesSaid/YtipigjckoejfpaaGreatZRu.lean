/- Texts put behind one another: SRule. Conditions: none. -/
import Derived.Test.YtipigjckoejfpaaGreatSLawB21Z
import Derived.Test.YtipigjckoejfpaaGreatZLf
set_option linter.unusedSimpArgs false
set_option linter.unusedVariables false
namespace Go.Proofs.YtipigjckoejfpaaGreat.Ax
open Go Go.Ax Go.Ax.M
set_option maxRecDepth 100000
section
variable {H : Heap} {K : AVal → Heap → Prop} {s : State} {th x y w : Int} {a b : List Int} {oS oT oA oB oL : Nat} {fS fT rS rT fA fB rA rB fL : Bool}

theorem rule_there_spec (h : K (.bool (inB th 0 (s.geo.threads - 1))) H) : ACalls Tryz.prog 149 [.agg [.int .i64 s.geo.threads, .int .i64 s.geo.slots, .int .i64 s.geo.things, .slice oS s.slots.length 0 s.slots.length fS, .slice oT s.things.length 0 s.things.length fT], .int .i64 th] H K := by
  refine ACalls.tidy ?_
  refine ACalls.into ok149 (Nat.le_of_ble_eq_true rfl) ?_; (try simp only [c149, wpx_of k149_0.eq_1, go_sem]); repeat' ((first
    | refine And.intro (Or.inr rfl) ?_
    | ((first | refine cB ?_ ?_ | refine gT ?_ ?_ | refine gF ?_ ?_ | refine dT ?_ ?_ | refine dF ?_ ?_) <;> intro hc)) <;> try simp only [*, wpx_of k149_0.eq_1, go_sem])
  all_goals exact tb h ⟨_, rfl⟩ (by by_cases h1 : 0 ≤ th <;> by_cases h2 : th < s.geo.threads <;> simp [inB, h1, h2] <;> omega)

theorem call_Get_short {n : Nat} (hn : ((n : Int) = 4) = False) (h : K (.tup [.agg [.int .i64 0, .lit (.slice none 0 0), .lit (.slice none 0 0), .int .i64 0, .int .i64 0, .int .u64 0], .bool false]) H) :
    ACalls Tryz.prog 84 [.slice oL n 0 n fL] H K := by
  refine ACalls.gc ?_
  refine ACalls.into ok84 (Nat.le_of_ble_eq_true rfl) ?_; (try simp only [c84, wpx_of k84_0.eq_1, wpx_of k84_1.eq_1, wpx_of k84_2.eq_1, wpx_of k84_3.eq_1, wpx_of k84_4.eq_1, wpx_of k84_5.eq_1, wpx_of k84_6.eq_1, wpx_of k84_7.eq_1, wpx_of k84_8.eq_1, hn, go_sem]); repeat' ((first
    | refine And.intro (Or.inr rfl) ?_
    | ((first | refine cB ?_ ?_ | refine gT ?_ ?_ | refine gF ?_ ?_ | refine dT ?_ ?_ | refine dF ?_ ?_) <;> intro hc)) <;> try simp only [*, wpx_of k84_0.eq_1, wpx_of k84_1.eq_1, wpx_of k84_2.eq_1, wpx_of k84_3.eq_1, wpx_of k84_4.eq_1, wpx_of k84_5.eq_1, wpx_of k84_6.eq_1, wpx_of k84_7.eq_1, wpx_of k84_8.eq_1, hn, go_sem])
  exact Gc.old (by simp [AVal.refs, refsL]) h

theorem rule_Words_short {n : Nat} (hn : ((n : Int) = 4) = False) (good : sGood s = true) (hS : H[oS]? = some (.arr 5 (s.slots.map Slot.cells) rS)) (hT : H[oT]? = some (.arr 13 (s.things.map Thing.cells) rT))
    (h : K (.tup [.agg [.int .i64 s.geo.threads, .int .i64 s.geo.slots, .int .i64 s.geo.things, .slice oS s.slots.length 0 s.slots.length fS, .slice oT s.things.length 0 s.things.length fT], .agg [.int .i64 2, .int .u64 0, .int .i64 0]]) H) : ACalls Tryz.prog 82 [.agg [.int .i64 s.geo.threads, .int .i64 s.geo.slots, .int .i64 s.geo.things, .slice oS s.slots.length 0 s.slots.length fS, .slice oT s.things.length 0 s.things.length fT], .int .i64 th, .slice oL n 0 n fL] H K := by
  have kT := Keeps.of hT
  have kS := Keeps.of hS
  have hv := fun (e v n : Int) => show (AVal.tup [.agg [.int .i64 s.geo.threads, .int .i64 s.geo.slots, .int .i64 s.geo.things, .slice oS s.slots.length 0 s.slots.length fS, .slice oT s.things.length 0 s.things.length fT], .agg [.int .i64 e, .int .u64 v, .int .i64 n]]).refs (fun o => o < H.length) by simp [AVal.refs, refsL]; exact ⟨get_lt hS, get_lt hT⟩
  refine ACalls.gc ?_
  refine ACalls.into ok82 (Nat.le_of_ble_eq_true rfl) ?_; (try simp only [c82, wpx_of k82_0.eq_1, wpx_of k82_1.eq_1, wpx_of k82_2.eq_1, wpx_of k82_3.eq_1, wpx_of k82_4.eq_1, wpx_of k82_5.eq_1, stV, good, hn, Nat.add_assoc, go_sem]); repeat' ((first
    | refine And.intro (Or.inr rfl) ?_
    | ((first | refine cB ?_ ?_ | refine gT ?_ ?_ | refine gF ?_ ?_ | refine dT ?_ ?_ | refine dF ?_ ?_) <;> intro hc)
    | refine call_Get_short hn ?_
    | refine state_Good_spec (kS _) (kT _) ?_) <;> try simp only [*, wpx_of k82_0.eq_1, wpx_of k82_1.eq_1, wpx_of k82_2.eq_1, wpx_of k82_3.eq_1, wpx_of k82_4.eq_1, wpx_of k82_5.eq_1, stV, good, hn, Nat.add_assoc, go_sem])
  exact Gc.old (hv _ _ _) h

theorem rule_tell (hg : sGood s = true) (ht : inB th 0 (s.geo.threads - 1) = true) (hc : callGood ⟨13, a, b, x, y, w⟩ = true) (hS : H[oS]? = some (.arr 5 (s.slots.map Slot.cells) rS)) (hT : H[oT]? = some (.arr 13 (s.things.map Thing.cells) rT)) (hA : H[oA]? = some (.arr 1 (ints a) rA)) (hB : H[oB]? = some (.arr 1 (ints b) rB))
    (h : K (.tup [.agg [.int .i64 s.geo.threads, .int .i64 s.geo.slots, .int .i64 s.geo.things, .slice oS s.slots.length 0 s.slots.length fS, .slice oT s.things.length 0 s.things.length fT], (leafM s th ⟨13, a, b, x, y, w⟩).reply]) H) :
    ACalls Tryz.prog 78 [.agg [.int .i64 s.geo.threads, .int .i64 s.geo.slots, .int .i64 s.geo.things, .slice oS s.slots.length 0 s.slots.length fS, .slice oT s.things.length 0 s.things.length fT], .int .i64 th, .agg [.int .i64 13, .slice oA a.length 0 a.length fA, .slice oB b.length 0 b.length fB, .int .i64 x, .int .i64 y, .int .u64 w]] H K := by
  have kT := Keeps.of hT
  have kS := Keeps.of hS
  have kA := Keeps.of hA
  have kB := Keeps.of hB
  have hv := fun (e v n : Int) => show (AVal.tup [.agg [.int .i64 s.geo.threads, .int .i64 s.geo.slots, .int .i64 s.geo.things, .slice oS s.slots.length 0 s.slots.length fS, .slice oT s.things.length 0 s.things.length fT], .agg [.int .i64 e, .int .u64 v, .int .i64 n]]).refs (fun o => o < H.length) by simp [AVal.refs, refsL]; exact ⟨get_lt hS, get_lt hT⟩
  refine ACalls.gc ?_
  refine ACalls.into ok78 (Nat.le_of_ble_eq_true rfl) ?_; (try simp only [c78, wpx_of k78_0.eq_1, wpx_of k78_1.eq_1, wpx_of k78_2.eq_1, wpx_of k78_3.eq_1, wpx_of k78_4.eq_1, wpx_of k78_5.eq_1, wpx_of k78_6.eq_1, wpx_of k78_7.eq_1, wpx_of k78_8.eq_1, wpx_of k78_9.eq_1, wpx_of k78_10.eq_1, wpx_of k78_11.eq_1, wpx_of k78_12.eq_1, wpx_of k78_13.eq_1, wpx_of k78_14.eq_1, wpx_of k78_15.eq_1, wpx_of k78_16.eq_1, wpx_of k78_17.eq_1, wpx_of k78_18.eq_1, stV, slotsO, thingsO, Nat.add_assoc, Res.reply, hg, ht, hc, go_sem]); repeat' ((first
    | refine And.intro (Or.inr rfl) ?_
    | ((first | refine cB ?_ ?_ | refine gT ?_ ?_ | refine gF ?_ ?_ | refine dT ?_ ?_ | refine dF ?_ ?_) <;> intro hc)
    | refine state_Good_spec (kS _) (kT _) ?_
    | refine call_Good_spec (c := ⟨13, a, b, x, y, w⟩) (kA _) (kB _) ?_
    | refine rule_there_spec (s := s) ?_
    | refine leaf_Do_tell (kS _) (kT _) (kA _) (kB _) ?_) <;> try simp only [*, wpx_of k78_0.eq_1, wpx_of k78_1.eq_1, wpx_of k78_2.eq_1, wpx_of k78_3.eq_1, wpx_of k78_4.eq_1, wpx_of k78_5.eq_1, wpx_of k78_6.eq_1, wpx_of k78_7.eq_1, wpx_of k78_8.eq_1, wpx_of k78_9.eq_1, wpx_of k78_10.eq_1, wpx_of k78_11.eq_1, wpx_of k78_12.eq_1, wpx_of k78_13.eq_1, wpx_of k78_14.eq_1, wpx_of k78_15.eq_1, wpx_of k78_16.eq_1, wpx_of k78_17.eq_1, wpx_of k78_18.eq_1, stV, slotsO, thingsO, Nat.add_assoc, Res.reply, hg, ht, hc, go_sem])
  exact Gc.old (hv _ _ _) h

theorem rule_tell_nil {e w' n : Int} (hg : sGood s = true) (ht : inB th 0 (s.geo.threads - 1) = true) (hc : callGood ⟨13, a, [], x, y, w⟩ = true) (hr : leafM s th ⟨13, a, [], x, y, w⟩ = ⟨e, w', n, none⟩) (hS : H[oS]? = some (.arr 5 (s.slots.map Slot.cells) rS)) (hT : H[oT]? = some (.arr 13 (s.things.map Thing.cells) rT)) (hA : H[oA]? = some (.arr 1 (ints a) rA))
    (h : K (.tup [.agg [.int .i64 s.geo.threads, .int .i64 s.geo.slots, .int .i64 s.geo.things, .slice oS s.slots.length 0 s.slots.length fS, .slice oT s.things.length 0 s.things.length fT], .agg [.int .i64 e, .int .u64 w', .int .i64 n]]) H) :
    ACalls Tryz.prog 78 [.agg [.int .i64 s.geo.threads, .int .i64 s.geo.slots, .int .i64 s.geo.things, .slice oS s.slots.length 0 s.slots.length fS, .slice oT s.things.length 0 s.things.length fT], .int .i64 th, .agg [.int .i64 13, .slice oA a.length 0 a.length fA, .lit (.slice none 0 0), .int .i64 x, .int .i64 y, .int .u64 w]] H K := by
  refine ACalls.gc (ACalls.lay 1 ?_)
  simp only [Go.Ax.fillN, Go.Ax.fill1, go_sem]
  have kS := Keeps.of hS
  have kT := Keeps.of hT
  have kA := Keeps.of hA
  refine rule_tell (b := []) (oB := H.length) (rB := false) hg ht hc (kS _) (kT _) (kA _) at0 ?_
  rw [hr]
  refine Gc.old ?_ h
  simp only [AVal.refs, refsL]
  exact ⟨⟨trivial, trivial, trivial, get_lt hS, get_lt hT, trivial⟩, ⟨trivial, trivial, trivial, trivial⟩, trivial⟩

theorem reads_13 (h : K (.bool true) H) : ACalls Tryz.prog 86 [.int .i64 13] H K := run_known (v := .bool true) tab21Ok (loops := 5) (k := 5) (by kernel_rfl) rfl rfl h
theorem reads_11 (h : K (.bool false) H) : ACalls Tryz.prog 86 [.int .i64 11] H K := run_known (v := .bool false) tab21Ok (loops := 5) (k := 5) (by kernel_rfl) rfl rfl h
theorem mr_g : sGood S0 = true := by kernel_rfl
theorem mr_t : inB 0 0 (S0.geo.threads - 1) = true := by kernel_rfl
theorem mr_c : callGood ⟨13, [0], [], 0, 0, 0⟩ = true := by kernel_rfl
theorem mr_l : leafM S0 0 ⟨13, [0], [], 0, 0, 0⟩ = ⟨0, cWord ⟨1, 0, 7, 0⟩, 0, none⟩ := by kernel_rfl
theorem awake21_spec (h : K (.bool true) H) : ACalls Tryz.prog 76 [] H K := by
  have hss : sSame S0 S0 = true := sSame_iff.2 rfl
  refine ACalls.tidy ?_
  refine ACalls.into ok76 (Nat.le_of_ble_eq_true rfl) ?_; (try simp only [c76, wpx_of k76_0.eq_1, wpx_of k76_1.eq_1, wpx_of k76_2.eq_1, stV, slotsO, thingsO, Nat.add_assoc, Int.cast_ofNat_Int, hss, go_sem]); repeat' ((first
    | refine And.intro (Or.inr rfl) ?_
    | ((first | refine cB ?_ ?_ | refine gT ?_ ?_ | refine gF ?_ ?_ | refine dT ?_ ?_ | refine dF ?_ ?_) <;> intro hc)
    | refine first21_spec ?_
    | refine way21_spec (by first | exact at0 | exact at1 | exact at2 | exact at3 | exact at4 | exact at5 | exact at6 | exact at7 | exact at8 | exact at9 | exact at10 | exact at11 | exact at12 | exact at13 | exact at14 | exact at15 | exact at16 | exact atX rfl) ?_
    | refine rule_Words_short (s := S0) (n := 2) (by decide) mr_g (by first | exact at0 | exact at1 | exact at2 | exact at3 | exact at4 | exact at5 | exact at6 | exact at7 | exact at8 | exact at9 | exact at10 | exact at11 | exact at12 | exact at13 | exact at14 | exact at15 | exact at16 | exact atX rfl) (by first | exact at0 | exact at1 | exact at2 | exact at3 | exact at4 | exact at5 | exact at6 | exact at7 | exact at8 | exact at9 | exact at10 | exact at11 | exact at12 | exact at13 | exact at14 | exact at15 | exact at16 | exact atX rfl) ?_
    | refine rule_tell_nil (s := S0) (a := [0]) mr_g mr_t mr_c mr_l (by first | exact at0 | exact at1 | exact at2 | exact at3 | exact at4 | exact at5 | exact at6 | exact at7 | exact at8 | exact at9 | exact at10 | exact at11 | exact at12 | exact at13 | exact at14 | exact at15 | exact at16 | exact atX rfl) (by first | exact at0 | exact at1 | exact at2 | exact at3 | exact at4 | exact at5 | exact at6 | exact at7 | exact at8 | exact at9 | exact at10 | exact at11 | exact at12 | exact at13 | exact at14 | exact at15 | exact at16 | exact atX rfl) (by first | exact at0 | exact at1 | exact at2 | exact at3 | exact at4 | exact at5 | exact at6 | exact at7 | exact at8 | exact at9 | exact at10 | exact at11 | exact at12 | exact at13 | exact at14 | exact at15 | exact at16 | exact atX rfl) ?_
    | refine state_Same_spec (s := S0) (u := S0) (by first | exact at0 | exact at1 | exact at2 | exact at3 | exact at4 | exact at5 | exact at6 | exact at7 | exact at8 | exact at9 | exact at10 | exact at11 | exact at12 | exact at13 | exact at14 | exact at15 | exact at16 | exact atX rfl) (by first | exact at0 | exact at1 | exact at2 | exact at3 | exact at4 | exact at5 | exact at6 | exact at7 | exact at8 | exact at9 | exact at10 | exact at11 | exact at12 | exact at13 | exact at14 | exact at15 | exact at16 | exact atX rfl) (by first | exact at0 | exact at1 | exact at2 | exact at3 | exact at4 | exact at5 | exact at6 | exact at7 | exact at8 | exact at9 | exact at10 | exact at11 | exact at12 | exact at13 | exact at14 | exact at15 | exact at16 | exact atX rfl) (by first | exact at0 | exact at1 | exact at2 | exact at3 | exact at4 | exact at5 | exact at6 | exact at7 | exact at8 | exact at9 | exact at10 | exact at11 | exact at12 | exact at13 | exact at14 | exact at15 | exact at16 | exact atX rfl) (by decide) (by decide) ?_
    | refine reads_13 ?_
    | refine reads_11 ?_) <;> try simp only [*, wpx_of k76_0.eq_1, wpx_of k76_1.eq_1, wpx_of k76_2.eq_1, stV, slotsO, thingsO, Nat.add_assoc, Int.cast_ofNat_Int, hss, go_sem])
  all_goals first | exact ⟨rfl, _, rfl⟩ | exact tb h ⟨_, rfl⟩ rfl | trace_state
end
end Go.Proofs.YtipigjckoejfpaaGreat.Ax

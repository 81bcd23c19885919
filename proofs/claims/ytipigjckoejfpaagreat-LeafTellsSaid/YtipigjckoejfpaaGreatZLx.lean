/- Texts put behind one another: LLeafA, LLeafT. Conditions: none. -/
import Derived.Test.YtipigjckoejfpaaGreatSLawB20Z
import Derived.Test.YtipigjckoejfpaaGreatZLf
import Derived.Test.YtipigjckoejfpaaGreatZGv
import Derived.Test.YtipigjckoejfpaaGreatSArgZ
import Derived.Test.YtipigjckoejfpaaGreatZPu
set_option linter.unusedSimpArgs false
set_option linter.unusedVariables false
/- A page, two copies of it: what the parts of chapter 20's laws yield. Conditions: none. -/
namespace Go.Ax.M
open Go Go.Ax
def KL1 : State := ((carveM S0 0 ⟨1, [0], [3], 5, 0, 0⟩).st).getD S0
def KL2 : State := ((giveM KL1 0 ⟨2, [3], [4], 1, 0, 0⟩).st).getD S0
def KL3 : State := ((giveM KL2 0 ⟨2, [3], [5], 2, 0, 0⟩).st).getD S0
def KL4 : State := ((leafM KL3 0 ⟨11, [3], [], 2, 0, 77⟩).st).getD S0
end Go.Ax.M
namespace Go.Proofs.YtipigjckoejfpaaGreat.Ax
open Go Go.Ax Go.Ax.M
set_option maxRecDepth 100000
section
variable {H : Heap} {K : AVal → Heap → Prop}
theorem ml_1 : carveM S0 0 ⟨1, [0], [3], 5, 0, 0⟩ = ⟨0, 0, 4, some KL1⟩ := by kernel_rfl
theorem ml_2 : giveM KL1 0 ⟨2, [3], [4], 1, 0, 0⟩ = ⟨0, 0, 0, some KL2⟩ := by kernel_rfl
theorem ml_3 : giveM KL2 0 ⟨2, [3], [5], 2, 0, 0⟩ = ⟨0, 0, 0, some KL3⟩ := by kernel_rfl
theorem ml_4 : leafM KL3 0 ⟨11, [3], [], 2, 0, 77⟩ = ⟨0, 0, 0, some KL4⟩ := by kernel_rfl
theorem ml_5 : leafM KL4 0 ⟨12, [4], [], 2, 0, 0⟩ = ⟨0, 77, 0, none⟩ := by kernel_rfl
attribute [irreducible] KL1 KL2 KL3 KL4

theorem paged_spec (h : K (stV KL3 H.length (H.length + 1) false false) (H ++ [slotsO KL3, thingsO KL3])) : ACalls Tryz.prog 57 [] H K := by
  refine ACalls.gc ?_
  refine ACalls.into ok57 (Nat.le_of_ble_eq_true rfl) ?_; (try simp only [c57, wpx_of k57_0.eq_1, wpx_of k57_1.eq_1, wpx_of k57_2.eq_1, stV, slotsO, thingsO, Nat.add_assoc, Int.cast_ofNat_Int, go_sem]); repeat' ((first
    | refine And.intro (Or.inr rfl) ?_
    | ((first | refine cB ?_ ?_ | refine gT ?_ ?_ | refine gF ?_ ?_ | refine dT ?_ ?_ | refine dF ?_ ?_) <;> intro hc)
    | refine first20_spec ?_
    | refine way20_spec (by first | exact at0 | exact at1 | exact at2 | exact at3 | exact at4 | exact at5 | exact at6 | exact at7 | exact at8 | exact at9 | exact at10 | exact at11 | exact at12 | exact at13 | exact at14 | exact at15 | exact at16 | exact atX rfl) ?_
    | refine DoSpec.som carve_Do_spec (c := ⟨1, [0], [3], 5, 0, 0⟩) ml_1 (by first | exact at0 | exact at1 | exact at2 | exact at3 | exact at4 | exact at5 | exact at6 | exact at7 | exact at8 | exact at9 | exact at10 | exact at11 | exact at12 | exact at13 | exact at14 | exact at15 | exact at16 | exact atX rfl) (by first | exact at0 | exact at1 | exact at2 | exact at3 | exact at4 | exact at5 | exact at6 | exact at7 | exact at8 | exact at9 | exact at10 | exact at11 | exact at12 | exact at13 | exact at14 | exact at15 | exact at16 | exact atX rfl) (by first | exact at0 | exact at1 | exact at2 | exact at3 | exact at4 | exact at5 | exact at6 | exact at7 | exact at8 | exact at9 | exact at10 | exact at11 | exact at12 | exact at13 | exact at14 | exact at15 | exact at16 | exact atX rfl) (by first | exact at0 | exact at1 | exact at2 | exact at3 | exact at4 | exact at5 | exact at6 | exact at7 | exact at8 | exact at9 | exact at10 | exact at11 | exact at12 | exact at13 | exact at14 | exact at15 | exact at16 | exact atX rfl) ?_
    | refine DoSpec.som give_Do_spec (c := ⟨2, [3], [4], 1, 0, 0⟩) ml_2 (by first | exact at0 | exact at1 | exact at2 | exact at3 | exact at4 | exact at5 | exact at6 | exact at7 | exact at8 | exact at9 | exact at10 | exact at11 | exact at12 | exact at13 | exact at14 | exact at15 | exact at16 | exact atX rfl) (by first | exact at0 | exact at1 | exact at2 | exact at3 | exact at4 | exact at5 | exact at6 | exact at7 | exact at8 | exact at9 | exact at10 | exact at11 | exact at12 | exact at13 | exact at14 | exact at15 | exact at16 | exact atX rfl) (by first | exact at0 | exact at1 | exact at2 | exact at3 | exact at4 | exact at5 | exact at6 | exact at7 | exact at8 | exact at9 | exact at10 | exact at11 | exact at12 | exact at13 | exact at14 | exact at15 | exact at16 | exact atX rfl) (by first | exact at0 | exact at1 | exact at2 | exact at3 | exact at4 | exact at5 | exact at6 | exact at7 | exact at8 | exact at9 | exact at10 | exact at11 | exact at12 | exact at13 | exact at14 | exact at15 | exact at16 | exact atX rfl) ?_
    | refine DoSpec.som give_Do_spec (c := ⟨2, [3], [5], 2, 0, 0⟩) ml_3 (by first | exact at0 | exact at1 | exact at2 | exact at3 | exact at4 | exact at5 | exact at6 | exact at7 | exact at8 | exact at9 | exact at10 | exact at11 | exact at12 | exact at13 | exact at14 | exact at15 | exact at16 | exact atX rfl) (by first | exact at0 | exact at1 | exact at2 | exact at3 | exact at4 | exact at5 | exact at6 | exact at7 | exact at8 | exact at9 | exact at10 | exact at11 | exact at12 | exact at13 | exact at14 | exact at15 | exact at16 | exact atX rfl) (by first | exact at0 | exact at1 | exact at2 | exact at3 | exact at4 | exact at5 | exact at6 | exact at7 | exact at8 | exact at9 | exact at10 | exact at11 | exact at12 | exact at13 | exact at14 | exact at15 | exact at16 | exact atX rfl) (by first | exact at0 | exact at1 | exact at2 | exact at3 | exact at4 | exact at5 | exact at6 | exact at7 | exact at8 | exact at9 | exact at10 | exact at11 | exact at12 | exact at13 | exact at14 | exact at15 | exact at16 | exact atX rfl) ?_) <;> try simp only [*, wpx_of k57_0.eq_1, wpx_of k57_1.eq_1, wpx_of k57_2.eq_1, stV, slotsO, thingsO, Nat.add_assoc, Int.cast_ofNat_Int, go_sem])
  exact Gc.state rfl rfl (by decide) h

theorem awake20_spec (h : K (.bool true) H) : ACalls Tryz.prog 56 [] H K := by
  refine ACalls.tidy ?_
  refine ACalls.into ok56 (Nat.le_of_ble_eq_true rfl) ?_; (try simp only [c56, wpx_of k56_0.eq_1, wpx_of k56_1.eq_1, wpx_of k56_2.eq_1, stV, slotsO, thingsO, Nat.add_assoc, Int.cast_ofNat_Int, go_sem]); repeat' ((first
    | refine And.intro (Or.inr rfl) ?_
    | ((first | refine cB ?_ ?_ | refine gT ?_ ?_ | refine gF ?_ ?_ | refine dT ?_ ?_ | refine dF ?_ ?_) <;> intro hc)
    | refine paged_spec ?_
    | refine way20_spec (by first | exact at0 | exact at1 | exact at2 | exact at3 | exact at4 | exact at5 | exact at6 | exact at7 | exact at8 | exact at9 | exact at10 | exact at11 | exact at12 | exact at13 | exact at14 | exact at15 | exact at16 | exact atX rfl) ?_
    | refine leaf_nilSom (a := [3]) (.inl rfl) ml_4 (by first | exact at0 | exact at1 | exact at2 | exact at3 | exact at4 | exact at5 | exact at6 | exact at7 | exact at8 | exact at9 | exact at10 | exact at11 | exact at12 | exact at13 | exact at14 | exact at15 | exact at16 | exact atX rfl) (by first | exact at0 | exact at1 | exact at2 | exact at3 | exact at4 | exact at5 | exact at6 | exact at7 | exact at8 | exact at9 | exact at10 | exact at11 | exact at12 | exact at13 | exact at14 | exact at15 | exact at16 | exact atX rfl) (by first | exact at0 | exact at1 | exact at2 | exact at3 | exact at4 | exact at5 | exact at6 | exact at7 | exact at8 | exact at9 | exact at10 | exact at11 | exact at12 | exact at13 | exact at14 | exact at15 | exact at16 | exact atX rfl) ?_
    | refine leaf_nilNon (a := [4]) (.inr rfl) ml_5 (by first | exact at0 | exact at1 | exact at2 | exact at3 | exact at4 | exact at5 | exact at6 | exact at7 | exact at8 | exact at9 | exact at10 | exact at11 | exact at12 | exact at13 | exact at14 | exact at15 | exact at16 | exact atX rfl) (by first | exact at0 | exact at1 | exact at2 | exact at3 | exact at4 | exact at5 | exact at6 | exact at7 | exact at8 | exact at9 | exact at10 | exact at11 | exact at12 | exact at13 | exact at14 | exact at15 | exact at16 | exact atX rfl) (by first | exact at0 | exact at1 | exact at2 | exact at3 | exact at4 | exact at5 | exact at6 | exact at7 | exact at8 | exact at9 | exact at10 | exact at11 | exact at12 | exact at13 | exact at14 | exact at15 | exact at16 | exact atX rfl) ?_) <;> try simp only [*, wpx_of k56_0.eq_1, wpx_of k56_1.eq_1, wpx_of k56_2.eq_1, stV, slotsO, thingsO, Nat.add_assoc, Int.cast_ofNat_Int, go_sem])
  all_goals first | exact ⟨rfl, _, rfl⟩ | exact tb h ⟨_, rfl⟩ rfl

end
end Go.Proofs.YtipigjckoejfpaaGreat.Ax

/- The laws of what is told of pages, walked. Conditions: none. -/
namespace Go.Proofs.YtipigjckoejfpaaGreat.Ax
open Go Go.Ax Go.Ax.M
set_option maxRecDepth 100000
section
variable {H : Heap} {K : AVal → Heap → Prop}
theorem tell_eq {s : State} {th : Int} {a : List Int} : leafM s th ⟨13, a, [], 0, 0, 0⟩ = bif !decide ((fCap s th a).2.2 = 0) then .bad (fCap s th a).2.2 else ⟨0, cWord (fCap s th a).2.1, fDepth (sForest s) (fCap s th a).1, none⟩ := by
  cases hp : pGood a with
  | true => exact leaf13 (by simp [callGood, callL, cNumbers, hp])
  | false =>
    have e : (fCap s th a).2.2 = 1 := by simp [fCap, fSlot, hp]
    rw [e]
    simp [leafM, callGood, callL, hp]
theorem is_non {s : State} {i : Int} (h : fIs (sForest s) i = true) : 0 ≤ i ∧ i < s.slots.length ∧ (sForest s).getD i.toNat 0 = (s.slot i.toNat).up := by
  have hl : (sForest s).length = s.slots.length := by simp [sForest]
  simp only [fIs, Bool.and_eq_true, decide_eq_true_eq, Bool.not_eq_true', decide_eq_false_iff_not, hl] at h
  have hg := forest_get (s := s) (k := i.toNat) (by omega)
  refine ⟨h.1, h.2.1, ?_⟩
  rw [hg] at h ⊢
  split at h
  · exact absurd rfl h.2.2
  · rename_i hn; rw [if_neg hn]

set_option maxHeartbeats 1000000 in
theorem leafTells_law (H : Heap) (bs : List AVal) (h : ArgShapes Tryz.prog H 8 [27, 3, 28] bs) : ACalls Tryz.prog 12 bs H fun v _ => v = .bool true := by
  obtain ⟨a1, l, rfl, h1, h⟩ := argShapes_cons h
  obtain ⟨a2, l, rfl, h2, h⟩ := argShapes_cons h
  obtain ⟨a3, l, rfl, h3, h⟩ := argShapes_cons h
  obtain rfl := argShapes_nil h
  obtain ⟨s, oS, oT, rfl, hS, hT⟩ := arg_state h1
  obtain ⟨th, rfl, -⟩ := h2.int Tryz.underlying3
  obtain ⟨oA, a, rfl, hA⟩ := arg_ints h3
  clear h1 h2 h3 h
  have kS := Keeps.of hS
  have kT := Keeps.of hT
  have kA := Keeps.of hA
  have hss : ∀ s, sSame s s = true := fun s => sSame_iff.2 rfl
  have ht := tell_eq (s := s) (th := th) (a := a)
  by_cases he : (fCap s th a).2.2 = 0
  · have hok := fCap_ok he
    have inv := hok.1
    have hgood : sGood s = true := inv.ok.good
    have hgc : cGood (fCap s th a).2.1 = true := by rw [hok.2.2.2.1]; exact inv.capG _ (by omega)
    have j0 := hok.2.1
    have j1 := hok.2.2.1
    have hnon := hok.2.2.2.2.1
    have hl : (sForest s).length = s.slots.length := by simp [sForest]
    have hfg : fGood (sForest s) = true := inv.ok.forest
    have hfi : fIs (sForest s) (fCap s th a).1 = true := by
      simp only [fIs, Bool.and_eq_true, decide_eq_true_eq, Bool.not_eq_true', decide_eq_false_iff_not, hl]
      refine ⟨j0, j1, ?_⟩
      rw [forest_get (by omega), if_neg (by rw [show cNone _ = false from hnon]; simp)]
      rcases inv.up _ (by omega) hnon with e | e <;> omega
    have hmay : fMay (sForest s) (fCap s th a).1 = true := by simp only [fMay, hfg, hfi, Bool.and_self]
    have hcl := Climb.start hmay
    have hfd : fDepth (sForest s) (fCap s th a).1 = (fDepth.stepsD (sForest s) ((sForest s).length + 1) ((sForest s).getD (fCap s th a).1.toNat 0) : Int) := by simp only [fDepth, hmay, cond_true]
    rw [hfd] at ht
    have hup := (is_non hfi).2.2
    rw [hup] at hcl ht
    generalize fDepth.stepsD (sForest s) ((sForest s).length + 1) (s.slot (fCap s th a).1.toNat).up = D at ht hcl
    have hl96 : s.slots.length ≤ 96 := by
      have := hfg
      simp only [fGood, Bool.and_eq_true, decide_eq_true_eq, hl] at this; omega
    have hat := slots_get (s := s) (k := (fCap s th a).1.toNat) (by omega)
    have j2 : (0 ≤ (fCap s th a).1) = True := eq_true j0
    have j3 : ((fCap s th a).1 < (s.slots.length : Int)) = True := eq_true j1
    have hlS := lS_of hgood
    have hlT := lT_of hgood
    rw [he] at ht
    simp only [decide_true, Bool.not_true, cond_false] at ht
    clear hok hnon hfd hfi hmay hup inv hl j0 j1
    refine ACalls.into ok12 (Nat.le_of_ble_eq_true rfl) ?_; (try simp only [c12, wpx_of k12_0.eq_1, wpx_of k12_1.eq_1, wpx_of k12_2.eq_1, wpx_of k12_3.eq_1, wpx_of k12_4.eq_1, wpx_of k12_6.eq_1, wpx_of k12_7.eq_1, wpx_of k12_8.eq_1, wpx_of k12_9.eq_1, wpx_of k12_10.eq_1, wpx_of k12_11.eq_1, wpx_of k12_12.eq_1, wpx_of k12_13.eq_1, wpx_of k12_14.eq_1, kS, kT, stV, slotsO, thingsO, Nat.add_assoc, Res.reply, Cap.cells, ht, hss, he, hat, j2, j3, go_sem]); repeat' ((first
    | refine And.intro (Or.inr rfl) ?_
    | ((first | refine cB ?_ ?_ | refine gT ?_ ?_ | refine gF ?_ ?_ | refine dT ?_ ?_ | refine dF ?_ ?_) <;> intro hc)
    | refine awake20_spec ?_
    | refine way20_spec (kA _) ?_
    | refine heavy20_nil ?_
    | refine state_Good_spec (kS _) (kT _) ?_
    | refine leaf_tell_nil (kS _) (kT _) (kA _) ?_
    | refine find_Cap_spec (kS _) (kT _) (kA _) ?_
    | refine cap_Get_spec (c := (fCap s th a).2.1) hgc ?_) <;> try simp only [*, wpx_of k12_0.eq_1, wpx_of k12_1.eq_1, wpx_of k12_2.eq_1, wpx_of k12_3.eq_1, wpx_of k12_4.eq_1, wpx_of k12_6.eq_1, wpx_of k12_7.eq_1, wpx_of k12_8.eq_1, wpx_of k12_9.eq_1, wpx_of k12_10.eq_1, wpx_of k12_11.eq_1, wpx_of k12_12.eq_1, wpx_of k12_13.eq_1, wpx_of k12_14.eq_1, kS, kT, stV, slotsO, thingsO, Nat.add_assoc, Res.reply, Cap.cells, ht, hss, he, hat, j2, j3, go_sem])
    refine ALoop.keep [16, 15, 3, 8, 9, 11, 13, 14] ?_; simp only [List.map_cons, List.map_nil, go_sem]
    refine ALoop.acc (fun k a => [(16, .int .i64 a), (15, .int .i64 (k : Int))]) (fun _ _ => _) (fun k a => Climb (sForest s) D k a) ((sForest s).length + 1) ?_ (a0 := (s.slot (fCap s th a).1.toNat).up) hcl
    clear hcl hat j2 j3
    intro k u hk hI next
    refine ALoop.unfold ?_
    have hl : (sForest s).length = s.slots.length := by simp [sForest]
    have hw := wrap_succ (k := k) (by omega)
    by_cases ha : u = -1
    · subst ha
      have e := hI.last
      subst e
      clear hl
      (try simp only [wpx_of k12_0.eq_1, wpx_of k12_1.eq_1, wpx_of k12_2.eq_1, wpx_of k12_3.eq_1, wpx_of k12_4.eq_1, wpx_of k12_6.eq_1, wpx_of k12_7.eq_1, wpx_of k12_8.eq_1, wpx_of k12_9.eq_1, wpx_of k12_10.eq_1, wpx_of k12_11.eq_1, wpx_of k12_12.eq_1, wpx_of k12_13.eq_1, wpx_of k12_14.eq_1, kS, kT, ht, hss, he, hw, stV, slotsO, thingsO, Nat.add_assoc, Res.reply, Cap.cells, wpx_of b12_5.eq_1, List.cons_append, List.nil_append, go_sem]); repeat' ((first
    | refine And.intro (Or.inr rfl) ?_
    | ((first | refine cB ?_ ?_ | refine gT ?_ ?_ | refine gF ?_ ?_ | refine dT ?_ ?_ | refine dF ?_ ?_) <;> intro hc)
    | refine state_Same_spec (kS _) (kT _) (kS _) (kT _) hlS hlT ?_) <;> try simp only [*, wpx_of k12_0.eq_1, wpx_of k12_1.eq_1, wpx_of k12_2.eq_1, wpx_of k12_3.eq_1, wpx_of k12_4.eq_1, wpx_of k12_6.eq_1, wpx_of k12_7.eq_1, wpx_of k12_8.eq_1, wpx_of k12_9.eq_1, wpx_of k12_10.eq_1, wpx_of k12_11.eq_1, wpx_of k12_12.eq_1, wpx_of k12_13.eq_1, wpx_of k12_14.eq_1, kS, kT, ht, hss, he, hw, stV, slotsO, thingsO, Nat.add_assoc, Res.reply, Cap.cells, wpx_of b12_5.eq_1, List.cons_append, List.nil_append, go_sem])
      all_goals first | rfl | trace_state
    · obtain ⟨h1, h2, h3⟩ := hI.next hfg ha
      obtain ⟨q0, q1, q2⟩ := is_non h1
      rw [q2] at h3
      have hga := slots_get (s := s) (k := u.toNat) (by omega)
      have g0 : (0 ≤ u) = True := eq_true q0
      have g1 : (u < (s.slots.length : Int)) = True := eq_true q1
      have g2 : ((k : Int) < 100) = True := eq_true (by omega)
      clear hl q2
      (try simp only [wpx_of k12_0.eq_1, wpx_of k12_1.eq_1, wpx_of k12_2.eq_1, wpx_of k12_3.eq_1, wpx_of k12_4.eq_1, wpx_of k12_6.eq_1, wpx_of k12_7.eq_1, wpx_of k12_8.eq_1, wpx_of k12_9.eq_1, wpx_of k12_10.eq_1, wpx_of k12_11.eq_1, wpx_of k12_12.eq_1, wpx_of k12_13.eq_1, wpx_of k12_14.eq_1, kS, kT, hw, hga, g0, g1, g2, stV, slotsO, thingsO, Nat.add_assoc, wpx_of b12_5.eq_1, List.cons_append, List.nil_append, go_sem]); repeat' ((first
    | refine And.intro (Or.inr rfl) ?_
    | ((first | refine cB ?_ ?_ | refine gT ?_ ?_ | refine gF ?_ ?_ | refine dT ?_ ?_ | refine dF ?_ ?_) <;> intro hc)) <;> try simp only [*, wpx_of k12_0.eq_1, wpx_of k12_1.eq_1, wpx_of k12_2.eq_1, wpx_of k12_3.eq_1, wpx_of k12_4.eq_1, wpx_of k12_6.eq_1, wpx_of k12_7.eq_1, wpx_of k12_8.eq_1, wpx_of k12_9.eq_1, wpx_of k12_10.eq_1, wpx_of k12_11.eq_1, wpx_of k12_12.eq_1, wpx_of k12_13.eq_1, wpx_of k12_14.eq_1, kS, kT, hw, hga, g0, g1, g2, stV, slotsO, thingsO, Nat.add_assoc, wpx_of b12_5.eq_1, List.cons_append, List.nil_append, go_sem])
      (refine ALoop.keep [16, 15, 3, 8, 9, 11, 13, 14] ?_; simp only [List.map_cons, List.map_nil, go_sem]; refine next _ h2 h3)
  · rw [decide_eq_false he] at ht
    simp only [Bool.not_false, cond_true] at ht
    refine ACalls.into ok12 (Nat.le_of_ble_eq_true rfl) ?_; (try simp only [c12, wpx_of k12_0.eq_1, wpx_of k12_1.eq_1, wpx_of k12_2.eq_1, wpx_of k12_3.eq_1, wpx_of k12_4.eq_1, wpx_of k12_6.eq_1, wpx_of k12_7.eq_1, wpx_of k12_8.eq_1, wpx_of k12_9.eq_1, wpx_of k12_10.eq_1, wpx_of k12_11.eq_1, wpx_of k12_12.eq_1, wpx_of k12_13.eq_1, wpx_of k12_14.eq_1, kS, kT, stV, slotsO, thingsO, Nat.add_assoc, Res.reply, Res.bad, Cap.cells, ht, hss, he, go_sem]); repeat' ((first
    | refine And.intro (Or.inr rfl) ?_
    | ((first | refine cB ?_ ?_ | refine gT ?_ ?_ | refine gF ?_ ?_ | refine dT ?_ ?_ | refine dF ?_ ?_) <;> intro hc)
    | refine awake20_spec ?_
    | refine way20_spec (kA _) ?_
    | refine heavy20_nil ?_
    | refine state_Good_spec (kS _) (kT _) ?_
    | refine leaf_tell_nil (kS _) (kT _) (kA _) ?_
    | refine find_Cap_spec (kS _) (kT _) (kA _) ?_
    | refine state_Same_spec (kS _) (kT _) (kS _) (kT _) (lS_of (by assumption)) (lT_of (by assumption)) ?_) <;> try simp only [*, wpx_of k12_0.eq_1, wpx_of k12_1.eq_1, wpx_of k12_2.eq_1, wpx_of k12_3.eq_1, wpx_of k12_4.eq_1, wpx_of k12_6.eq_1, wpx_of k12_7.eq_1, wpx_of k12_8.eq_1, wpx_of k12_9.eq_1, wpx_of k12_10.eq_1, wpx_of k12_11.eq_1, wpx_of k12_12.eq_1, wpx_of k12_13.eq_1, wpx_of k12_14.eq_1, kS, kT, stV, slotsO, thingsO, Nat.add_assoc, Res.reply, Res.bad, Cap.cells, ht, hss, he, go_sem])
    all_goals first | rfl | trace_state
end
end Go.Proofs.YtipigjckoejfpaaGreat.Ax

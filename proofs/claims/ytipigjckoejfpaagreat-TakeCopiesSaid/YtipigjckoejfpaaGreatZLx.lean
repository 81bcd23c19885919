/- Texts put behind one another: LTake. Conditions: none. -/
import Derived.Test.YtipigjckoejfpaaGreatSLawB17Z
import Derived.Test.YtipigjckoejfpaaGreatZTk
import Derived.Test.YtipigjckoejfpaaGreatZGv
import Derived.Test.YtipigjckoejfpaaGreatSArgZ
set_option linter.unusedSimpArgs false
set_option linter.unusedVariables false
namespace Go.Ax.M
open Go Go.Ax
def KT1 : State := ((giveM S0 0 ⟨2, [1], [2], 7, 0, 0⟩).st).getD S0
def KT2 : State := ((giveM KT1 0 ⟨2, [2], [3], 7, 0, 0⟩).st).getD S0
def KT3 : State := (empties KT2 0 [3]).1
end Go.Ax.M
namespace Go.Proofs.YtipigjckoejfpaaGreat.Ax
open Go Go.Ax Go.Ax.M
set_option maxRecDepth 100000
section
variable {H : Heap} {K : AVal → Heap → Prop}

theorem mt_1 : giveM S0 0 ⟨2, [1], [2], 7, 0, 0⟩ = ⟨0, 0, 0, some KT1⟩ := by kernel_rfl
theorem mt_2 : giveM KT1 0 ⟨2, [2], [3], 7, 0, 0⟩ = ⟨0, 0, 0, some KT2⟩ := by kernel_rfl
theorem mt_3 : empties KT2 0 [3] = (KT3, 1) := by kernel_rfl
theorem mt_g : callGood ⟨6, [2], [], 0, 0, 0⟩ = true := by kernel_rfl
theorem mt_f : (fCap KT2 0 [2]).2.2 = 0 := by kernel_rfl
theorem mt_s : sGood KT2 = true := by kernel_rfl
theorem mt_m : fMay (sForest KT2) (fCap KT2 0 [2]).1 = true := by kernel_rfl
theorem mt_o : fOf (sForest KT2) (fCap KT2 0 [2]).1 = [3] := by kernel_rfl
theorem mt_p : fOf (sForest KT2) 3 = [] := by kernel_rfl
theorem mt_l : KT2.things.length = 16 := by kernel_rfl
theorem mt_q : ((List.range 16).all fun t => !lostB KT3 t) = true := by kernel_rfl
theorem mt_c : ∀ t, t < KT2.things.length → lostB KT3 t = false := fun t ht => by
  rw [mt_l] at ht
  have := List.all_eq_true.1 mt_q t (List.mem_range.2 ht)
  simpa using this
theorem mt_h : 0 ≤ KT2.geo.threads ∧ KT2.geo.threads ≤ 1000 := by
  have : KT2.geo.threads = 2 := by kernel_rfl
  omega
theorem mt_n : ((KT3.slots.length : Int) = 32) = True ∧ (3 < (KT3.slots.length : Int)) = True ∧ (2 < (KT3.slots.length : Int)) = True := by
  have a : KT3.slots.length = 32 := by kernel_rfl
  rw [a]; simp
theorem mt_u : (KT3.slots.map Slot.cells)[3]? = some [.int .i64 0, .int .i64 0, .int .i64 0, .int .i64 0, .int .i64 (-1)] := by kernel_rfl
theorem mt_v : (KT3.slots.map Slot.cells)[2]? = some [.int .i64 3, .int .i64 1, .int .i64 7, .int .i64 0, .int .i64 1] := by kernel_rfl
theorem mt_w : cNone ⟨0, 0, 0, 0⟩ = true ∧ cNone ⟨3, 1, 7, 0⟩ = false := ⟨by kernel_rfl, by kernel_rfl⟩
attribute [irreducible] KT1 KT2 KT3

theorem awake17_spec (h : K (.bool true) H) : ACalls Tryz.prog 67 [] H K := by
  refine ACalls.tidy ?_
  refine ACalls.into ok67 (Nat.le_of_ble_eq_true rfl) ?_; (try simp only [c67, wpx_of k67_0.eq_1, wpx_of k67_1.eq_1, wpx_of k67_2.eq_1, wpx_of k67_3.eq_1, stV, slotsO, thingsO, Nat.add_assoc, Int.cast_ofNat_Int, mt_n, mt_u, mt_v, mt_w, go_sem]); repeat' ((first
    | refine And.intro (Or.inr rfl) ?_
    | ((first | refine cB ?_ ?_ | refine gT ?_ ?_ | refine gF ?_ ?_ | refine dT ?_ ?_ | refine dF ?_ ?_) <;> intro hc)
    | refine first17_spec ?_
    | refine way17_spec (by first | exact at0 | exact at1 | exact at2 | exact at3 | exact at4 | exact at5 | exact at6 | exact at7 | exact at8 | exact at9 | exact at10 | exact at11 | exact at12 | exact at13 | exact at14 | exact at15 | exact at16 | exact atX rfl) ?_
    | refine DoSpec.som give_Do_spec (c := ⟨2, [1], [2], 7, 0, 0⟩) mt_1 (by first | exact at0 | exact at1 | exact at2 | exact at3 | exact at4 | exact at5 | exact at6 | exact at7 | exact at8 | exact at9 | exact at10 | exact at11 | exact at12 | exact at13 | exact at14 | exact at15 | exact at16 | exact atX rfl) (by first | exact at0 | exact at1 | exact at2 | exact at3 | exact at4 | exact at5 | exact at6 | exact at7 | exact at8 | exact at9 | exact at10 | exact at11 | exact at12 | exact at13 | exact at14 | exact at15 | exact at16 | exact atX rfl) (by first | exact at0 | exact at1 | exact at2 | exact at3 | exact at4 | exact at5 | exact at6 | exact at7 | exact at8 | exact at9 | exact at10 | exact at11 | exact at12 | exact at13 | exact at14 | exact at15 | exact at16 | exact atX rfl) (by first | exact at0 | exact at1 | exact at2 | exact at3 | exact at4 | exact at5 | exact at6 | exact at7 | exact at8 | exact at9 | exact at10 | exact at11 | exact at12 | exact at13 | exact at14 | exact at15 | exact at16 | exact atX rfl) ?_
    | refine DoSpec.som give_Do_spec (c := ⟨2, [2], [3], 7, 0, 0⟩) mt_2 (by first | exact at0 | exact at1 | exact at2 | exact at3 | exact at4 | exact at5 | exact at6 | exact at7 | exact at8 | exact at9 | exact at10 | exact at11 | exact at12 | exact at13 | exact at14 | exact at15 | exact at16 | exact atX rfl) (by first | exact at0 | exact at1 | exact at2 | exact at3 | exact at4 | exact at5 | exact at6 | exact at7 | exact at8 | exact at9 | exact at10 | exact at11 | exact at12 | exact at13 | exact at14 | exact at15 | exact at16 | exact atX rfl) (by first | exact at0 | exact at1 | exact at2 | exact at3 | exact at4 | exact at5 | exact at6 | exact at7 | exact at8 | exact at9 | exact at10 | exact at11 | exact at12 | exact at13 | exact at14 | exact at15 | exact at16 | exact atX rfl) (by first | exact at0 | exact at1 | exact at2 | exact at3 | exact at4 | exact at5 | exact at6 | exact at7 | exact at8 | exact at9 | exact at10 | exact at11 | exact at12 | exact at13 | exact at14 | exact at15 | exact at16 | exact atX rfl) ?_
    | refine take_six_nil (s := KT2) (u := KT3) (a := [2]) (x := 3) mt_g mt_f mt_s mt_m mt_o mt_p mt_3 mt_c mt_h (by first | exact at0 | exact at1 | exact at2 | exact at3 | exact at4 | exact at5 | exact at6 | exact at7 | exact at8 | exact at9 | exact at10 | exact at11 | exact at12 | exact at13 | exact at14 | exact at15 | exact at16 | exact atX rfl) (by first | exact at0 | exact at1 | exact at2 | exact at3 | exact at4 | exact at5 | exact at6 | exact at7 | exact at8 | exact at9 | exact at10 | exact at11 | exact at12 | exact at13 | exact at14 | exact at15 | exact at16 | exact atX rfl) (by first | exact at0 | exact at1 | exact at2 | exact at3 | exact at4 | exact at5 | exact at6 | exact at7 | exact at8 | exact at9 | exact at10 | exact at11 | exact at12 | exact at13 | exact at14 | exact at15 | exact at16 | exact atX rfl) ?_
    | refine cap_None_x ?_) <;> try simp only [*, wpx_of k67_0.eq_1, wpx_of k67_1.eq_1, wpx_of k67_2.eq_1, wpx_of k67_3.eq_1, stV, slotsO, thingsO, Nat.add_assoc, Int.cast_ofNat_Int, mt_n, mt_u, mt_v, mt_w, go_sem])
  all_goals first | exact ⟨rfl, _, rfl⟩ | exact tb h ⟨_, rfl⟩ rfl

theorem takeCopies_law (H : Heap) (bs : List AVal) (h : ArgShapes Tryz.prog H 8 [27, 3, 28, 28, 3] bs) : ACalls Tryz.prog 14 bs H fun v _ => v = .bool true := by
  obtain ⟨a1, l, rfl, h1, h⟩ := argShapes_cons h
  obtain ⟨a2, l, rfl, h2, h⟩ := argShapes_cons h
  obtain ⟨a3, l, rfl, h3, h⟩ := argShapes_cons h
  obtain ⟨a4, l, rfl, h4, h⟩ := argShapes_cons h
  obtain ⟨a5, l, rfl, h5, h⟩ := argShapes_cons h
  obtain rfl := argShapes_nil h
  obtain ⟨s, oS, oT, rfl, hS, hT⟩ := arg_state h1
  obtain ⟨th, rfl, -⟩ := h2.int Tryz.underlying3
  obtain ⟨oA, a, rfl, hA⟩ := arg_ints h3
  obtain ⟨oB, b, rfl, hB⟩ := arg_ints h4
  obtain ⟨r, rfl, -⟩ := h5.int Tryz.underlying3
  clear h1 h2 h3 h4 h5 h
  have kS := Keeps.of hS
  have kT := Keeps.of hT
  have kA := Keeps.of hA
  have kB := Keeps.of hB
  have hn : (giveM s th ⟨2, a, b, r, 0, 0⟩).st = none → ((giveM s th ⟨2, a, b, r, 0, 0⟩).err = 0) = False := fun h => eq_false (giveM_none h)
  have hss : ∀ s, sSame s s = true := fun s => sSame_iff.2 rfl
  have hab : ∀ x, (giveM s th ⟨2, a, b, r, 0, 0⟩).st = some x → (b.length : Int) = 1 → (giveM s th ⟨2, a, b, r, 0, 0⟩).err = 0 ∧ callGood ⟨5, b, [], 0, 0, 0⟩ = true ∧ (fCap x th b).2.2 = 0 ∧ sGood x = true ∧ empties x 0 [(fCap x th b).1] = (s, 1) ∧ ∀ t, t < x.things.length → lostB s t = false := by
    intro x hx hb
    obtain ⟨b0, rfl⟩ := List.length_eq_one_iff.1 (show b.length = 1 by omega)
    exact copies_parts hx
  refine ACalls.into ok14 (Nat.le_of_ble_eq_true rfl) ?_; (try simp only [c14, wpx_of k14_0.eq_1, wpx_of k14_1.eq_1, wpx_of k14_2.eq_1, wpx_of k14_3.eq_1, wpx_of k14_4.eq_1, wpx_of k14_5.eq_1, wpx_of k14_6.eq_1, wpx_of k14_7.eq_1, wpx_of k14_8.eq_1, wpx_of k14_9.eq_1, stV, slotsO, thingsO, Nat.add_assoc, Res.reply, hn, hss, go_sem]); repeat' ((first
    | refine And.intro (Or.inr rfl) ?_
    | ((first | refine cB ?_ ?_ | refine gT ?_ ?_ | refine gF ?_ ?_ | refine dT ?_ ?_ | refine dF ?_ ?_) <;> intro hc)
    | refine awake17_spec ?_
    | refine way17_spec (by first | exact kS _ | exact kT _ | exact kA _ | exact kB _ | exact kC _ | exact kD _ | exact kX _ | exact at0 | exact at1 | exact at2 | exact at3 | exact at4 | exact at5 | exact at6 | exact at7 | exact at8 | exact at9 | exact at10 | exact at11 | exact at12 | exact at13 | exact at14 | exact at15 | exact at16 | exact atX rfl) ?_
    | refine heavy17_spec (c := ⟨2, a, b, r, 0, 0⟩) ?_
    | refine state_Good_spec (kS _) (kT _) ?_
    | refine give_Do_spec (c := ⟨2, a, b, r, 0, 0⟩) (kS _) (kT _) (kA _) (kB _) (fun hc => ?_) (fun x hc => (fun e => ?_) (hab x hc (by assumption)))) <;> try simp only [*, wpx_of k14_0.eq_1, wpx_of k14_1.eq_1, wpx_of k14_2.eq_1, wpx_of k14_3.eq_1, wpx_of k14_4.eq_1, wpx_of k14_5.eq_1, wpx_of k14_6.eq_1, wpx_of k14_7.eq_1, wpx_of k14_8.eq_1, wpx_of k14_9.eq_1, stV, slotsO, thingsO, Nat.add_assoc, Res.reply, hn, hss, go_sem])
  rename_i x hc e
  have hg : sGood s = true := by assumption
  obtain ⟨e1, e2, e3, e4, e5, e6⟩ := e
  have hgx : 0 ≤ x.geo.threads ∧ x.geo.threads ≤ 1000 := by
    have := (inv_iff.1 e4).geo
    simp [gGood, inB] at this; omega
  (try simp only [wpx_of k14_0.eq_1, wpx_of k14_1.eq_1, wpx_of k14_2.eq_1, wpx_of k14_3.eq_1, wpx_of k14_4.eq_1, wpx_of k14_5.eq_1, wpx_of k14_6.eq_1, wpx_of k14_7.eq_1, wpx_of k14_8.eq_1, wpx_of k14_9.eq_1, stV, slotsO, thingsO, Nat.add_assoc, Res.reply, e1, hss, go_sem]); repeat' ((first
    | refine And.intro (Or.inr rfl) ?_
    | ((first | refine cB ?_ ?_ | refine gT ?_ ?_ | refine gF ?_ ?_ | refine dT ?_ ?_ | refine dF ?_ ?_) <;> intro hc)
    | refine way17_spec (by first | exact kS _ | exact kT _ | exact kA _ | exact kB _ | exact kC _ | exact kD _ | exact kX _ | exact at0 | exact at1 | exact at2 | exact at3 | exact at4 | exact at5 | exact at6 | exact at7 | exact at8 | exact at9 | exact at10 | exact at11 | exact at12 | exact at13 | exact at14 | exact at15 | exact at16 | exact atX rfl) ?_
    | refine take_five_nil e2 e3 e4 e5 e6 hgx (by first | exact at0 | exact at1 | exact at2 | exact at3 | exact at4 | exact at5 | exact at6 | exact at7 | exact at8 | exact at9 | exact at10 | exact at11 | exact at12 | exact at13 | exact at14 | exact at15 | exact at16 | exact atX rfl) (by first | exact at0 | exact at1 | exact at2 | exact at3 | exact at4 | exact at5 | exact at6 | exact at7 | exact at8 | exact at9 | exact at10 | exact at11 | exact at12 | exact at13 | exact at14 | exact at15 | exact at16 | exact atX rfl) (kB _) ?_
    | refine state_Same_spec (by first | exact at0 | exact at1 | exact at2 | exact at3 | exact at4 | exact at5 | exact at6 | exact at7 | exact at8 | exact at9 | exact at10 | exact at11 | exact at12 | exact at13 | exact at14 | exact at15 | exact at16 | exact atX rfl) (by first | exact at0 | exact at1 | exact at2 | exact at3 | exact at4 | exact at5 | exact at6 | exact at7 | exact at8 | exact at9 | exact at10 | exact at11 | exact at12 | exact at13 | exact at14 | exact at15 | exact at16 | exact atX rfl) (kS _) (kT _) (lS_of hg) (lT_of hg) ?_) <;> try simp only [*, wpx_of k14_0.eq_1, wpx_of k14_1.eq_1, wpx_of k14_2.eq_1, wpx_of k14_3.eq_1, wpx_of k14_4.eq_1, wpx_of k14_5.eq_1, wpx_of k14_6.eq_1, wpx_of k14_7.eq_1, wpx_of k14_8.eq_1, wpx_of k14_9.eq_1, stV, slotsO, thingsO, Nat.add_assoc, Res.reply, e1, hss, go_sem])
end
end Go.Proofs.YtipigjckoejfpaaGreat.Ax

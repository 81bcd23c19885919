/- Texts put behind one another: LTake, LTakeK. Conditions: none. -/
import Derived.Test.YtipigjckoejfpaaGreatSLawB17Z
import Derived.Test.YtipigjckoejfpaaGreatZTk
import Derived.Test.YtipigjckoejfpaaGreatZGv
import Derived.Test.YtipigjckoejfpaaGreatSArgZ
import Derived.Test.YtipigjckoejfpaaGreatZLf
set_option linter.unusedSimpArgs false
set_option linter.unusedVariables false
/- The laws of what is taken away, walked.  Conditions: none. -/
namespace Go.Ax.M
open Go Go.Ax
def KT1 : State := ((giveM S0 0 ⟨2, [1], [2], 7, 0, 0⟩).st).getD S0
def KT2 : State := ((giveM KT1 0 ⟨2, [2], [3], 7, 0, 0⟩).st).getD S0
def KT3 : State := (empties KT2 0 [3]).1
end Go.Ax.M
namespace Go.Proofs.YtipigjckoejfpaaGreat.Ax
open Go Go.Ax Go.Ax.M
set_option maxRecDepth 100000
section
variable {H : Heap} {K : AVal → Heap → Prop}

theorem mt_1 : giveM S0 0 ⟨2, [1], [2], 7, 0, 0⟩ = ⟨0, 0, 0, some KT1⟩ := by kernel_rfl
theorem mt_2 : giveM KT1 0 ⟨2, [2], [3], 7, 0, 0⟩ = ⟨0, 0, 0, some KT2⟩ := by kernel_rfl
theorem mt_f : (fCap KT2 0 [2]).2.2 = 0 := by kernel_rfl
theorem mt_n : ((KT3.slots.length : Int) = 32) = True ∧ (3 < (KT3.slots.length : Int)) = True ∧ (2 < (KT3.slots.length : Int)) = True := by
  have a : KT3.slots.length = 32 := by kernel_rfl
  rw [a]; simp
theorem mt_u : (KT3.slots.map Slot.cells)[3]? = some [.int .i64 0, .int .i64 0, .int .i64 0, .int .i64 0, .int .i64 (-1)] := by kernel_rfl
theorem mt_v : (KT3.slots.map Slot.cells)[2]? = some [.int .i64 3, .int .i64 1, .int .i64 7, .int .i64 0, .int .i64 1] := by kernel_rfl
theorem mt_w : cNone ⟨0, 0, 0, 0⟩ = true ∧ cNone ⟨3, 1, 7, 0⟩ = false := ⟨by kernel_rfl, by kernel_rfl⟩
attribute [irreducible] KT1 KT2 KT3

end
end Go.Proofs.YtipigjckoejfpaaGreat.Ax

/- The examples of chapter 17, walked. Conditions: none. -/
namespace Go.Ax.M
open Go Go.Ax
theorem sortedI_eq {l r : List Int} (hp : l.isPerm r = true) (hs : r.Pairwise (· ≤ ·)) : sortedI l = r := by
  have h1 : (sortedI l).Perm r := (List.mergeSort_perm l _).trans (List.isPerm_iff.1 hp)
  have h2 : (sortedI l).Pairwise (fun a b => decide (a ≤ b) = true) := List.pairwise_mergeSort (fun a b c h1 h2 => by simp at *; omega) (fun a b => by simp; omega) l
  refine List.Perm.eq_of_pairwise (le := fun a b => decide (a ≤ b) = true) (fun a b _ _ h1 h2 => by simp at h1 h2; omega) h2 (hs.imp fun h => by simpa using h) h1
def KN1 : State := ((carveM S0 0 ⟨1, [0], [2], 2, 2, 0⟩).st).getD S0
def KN2 : State := ((carveM KN1 0 ⟨1, [0], [2, 1], 4, 0, 0⟩).st).getD S0
def KN3 : State := ((giveM KN2 0 ⟨2, [2, 1], [2, 2], 1, 0, 0⟩).st).getD S0
def KN4 : State := ((giveM KN3 0 ⟨2, [2, 2], [4], 7, 0, 0⟩).st).getD S0
def KNA : State := (takeE KN4 [2]).1
def KNC : State := (takeE KN4 [2, 4, 17, 18]).1
def KNE : State := (takeE KN4 [17]).1
def KNB : State := boxed KN4 1 ⟨3, 0, 0, 0, 0, 18, 0, true, 5, 0, 0, 0, 0⟩
def KNH : State := (takeE KNB [17, 17, -1, 99, 20]).1
end Go.Ax.M
namespace Go.Proofs.YtipigjckoejfpaaGreat.Ax
open Go Go.Ax Go.Ax.M
set_option maxRecDepth 100000
section
variable {H : Heap} {K : AVal → Heap → Prop}
theorem mn_y : fBelowS (sForest KT2) 2 = [3] := by
  have h1 : fMay (sForest KT2) 2 = true := by kernel_rfl
  have h2 : bh (sForest KT2) ((sForest KT2).length + 2) (fOf (sForest KT2) 2) = [3] := by kernel_rfl
  simp only [fBelowS, h1, cond_true, h2]
  exact sortedI_eq (by decide) (by decide)
theorem mn_z : takeN KT2 0 ⟨6, [2], [], 0, 0, 0⟩ = ⟨0, 0, 1, some KT3⟩ := by
  have h1 : callGood ⟨6, [2], [], 0, 0, 0⟩ = true := by kernel_rfl
  have h2 : (fCap KT2 0 [2]).1 = 2 := by kernel_rfl
  have h3 : takeE KT2 [3] = (KT3, 1) := by kernel_rfl
  simp [takeN, h1, mt_f, h2, mn_y, h3]
theorem awake17b (h : K (.bool true) H) : ACalls Tryz.prog 67 [] H K := by
  refine ACalls.tidy ?_
  refine ACalls.into ok67 (Nat.le_of_ble_eq_true rfl) ?_; (try simp only [c67, wpx_of k67_0.eq_1, wpx_of k67_1.eq_1, wpx_of k67_2.eq_1, wpx_of k67_3.eq_1, stV, slotsO, thingsO, Nat.add_assoc, Int.cast_ofNat_Int, mt_n, mt_u, mt_v, mt_w, go_sem]); repeat' ((first
    | refine And.intro (Or.inr rfl) ?_
    | ((first | refine cB ?_ ?_ | refine gT ?_ ?_ | refine gF ?_ ?_ | refine dT ?_ ?_ | refine dF ?_ ?_) <;> intro hc)
    | refine first17_spec ?_
    | refine way17_spec (by first | exact at0 | exact at1 | exact at2 | exact at3 | exact at4 | exact at5 | exact at6 | exact at7 | exact at8 | exact at9 | exact at10 | exact at11 | exact at12 | exact at13 | exact at14 | exact at15 | exact at16 | exact atX rfl) ?_
    | refine DoSpec.som give_Do_spec (c := ⟨2, [1], [2], 7, 0, 0⟩) mt_1 (by first | exact at0 | exact at1 | exact at2 | exact at3 | exact at4 | exact at5 | exact at6 | exact at7 | exact at8 | exact at9 | exact at10 | exact at11 | exact at12 | exact at13 | exact at14 | exact at15 | exact at16 | exact atX rfl) (by first | exact at0 | exact at1 | exact at2 | exact at3 | exact at4 | exact at5 | exact at6 | exact at7 | exact at8 | exact at9 | exact at10 | exact at11 | exact at12 | exact at13 | exact at14 | exact at15 | exact at16 | exact atX rfl) (by first | exact at0 | exact at1 | exact at2 | exact at3 | exact at4 | exact at5 | exact at6 | exact at7 | exact at8 | exact at9 | exact at10 | exact at11 | exact at12 | exact at13 | exact at14 | exact at15 | exact at16 | exact atX rfl) (by first | exact at0 | exact at1 | exact at2 | exact at3 | exact at4 | exact at5 | exact at6 | exact at7 | exact at8 | exact at9 | exact at10 | exact at11 | exact at12 | exact at13 | exact at14 | exact at15 | exact at16 | exact atX rfl) ?_
    | refine DoSpec.som give_Do_spec (c := ⟨2, [2], [3], 7, 0, 0⟩) mt_2 (by first | exact at0 | exact at1 | exact at2 | exact at3 | exact at4 | exact at5 | exact at6 | exact at7 | exact at8 | exact at9 | exact at10 | exact at11 | exact at12 | exact at13 | exact at14 | exact at15 | exact at16 | exact atX rfl) (by first | exact at0 | exact at1 | exact at2 | exact at3 | exact at4 | exact at5 | exact at6 | exact at7 | exact at8 | exact at9 | exact at10 | exact at11 | exact at12 | exact at13 | exact at14 | exact at15 | exact at16 | exact atX rfl) (by first | exact at0 | exact at1 | exact at2 | exact at3 | exact at4 | exact at5 | exact at6 | exact at7 | exact at8 | exact at9 | exact at10 | exact at11 | exact at12 | exact at13 | exact at14 | exact at15 | exact at16 | exact atX rfl) (by first | exact at0 | exact at1 | exact at2 | exact at3 | exact at4 | exact at5 | exact at6 | exact at7 | exact at8 | exact at9 | exact at10 | exact at11 | exact at12 | exact at13 | exact at14 | exact at15 | exact at16 | exact atX rfl) ?_
    | refine DoSpec.nilSom take_Do_spec (a := [2]) mn_z (by first | exact at0 | exact at1 | exact at2 | exact at3 | exact at4 | exact at5 | exact at6 | exact at7 | exact at8 | exact at9 | exact at10 | exact at11 | exact at12 | exact at13 | exact at14 | exact at15 | exact at16 | exact atX rfl) (by first | exact at0 | exact at1 | exact at2 | exact at3 | exact at4 | exact at5 | exact at6 | exact at7 | exact at8 | exact at9 | exact at10 | exact at11 | exact at12 | exact at13 | exact at14 | exact at15 | exact at16 | exact atX rfl) (by first | exact at0 | exact at1 | exact at2 | exact at3 | exact at4 | exact at5 | exact at6 | exact at7 | exact at8 | exact at9 | exact at10 | exact at11 | exact at12 | exact at13 | exact at14 | exact at15 | exact at16 | exact atX rfl) ?_
    | refine cap_None_x ?_) <;> try simp only [*, wpx_of k67_0.eq_1, wpx_of k67_1.eq_1, wpx_of k67_2.eq_1, wpx_of k67_3.eq_1, stV, slotsO, thingsO, Nat.add_assoc, Int.cast_ofNat_Int, mt_n, mt_u, mt_v, mt_w, go_sem])
  all_goals first | exact ⟨rfl, _, rfl⟩ | exact tb h ⟨_, rfl⟩ rfl
theorem mn_1 : carveM S0 0 ⟨1, [0], [2], 2, 2, 0⟩ = ⟨0, 0, 4, some KN1⟩ := by kernel_rfl
theorem mn_2 : carveM KN1 0 ⟨1, [0], [2, 1], 4, 0, 0⟩ = ⟨0, 0, 5, some KN2⟩ := by kernel_rfl
theorem mn_3 : giveM KN2 0 ⟨2, [2, 1], [2, 2], 1, 0, 0⟩ = ⟨0, 0, 0, some KN3⟩ := by kernel_rfl
theorem mn_4 : giveM KN3 0 ⟨2, [2, 2], [4], 7, 0, 0⟩ = ⟨0, 0, 0, some KN4⟩ := by kernel_rfl
theorem mn_g : sGood KN4 = true := by kernel_rfl
theorem mn_gb : sGood KNB = true := by kernel_rfl
theorem mn_a : takeN KN4 0 ⟨5, [2], [], 0, 0, 0⟩ = ⟨0, 0, 3, some KNA⟩ := by kernel_rfl
theorem mn_e : takeN KN4 0 ⟨5, [2, 1], [], 0, 0, 0⟩ = ⟨0, 0, 1, some KNE⟩ := by kernel_rfl
theorem mn_o : takeN KN4 0 ⟨5, [6], [], 0, 0, 0⟩ = ⟨4, 0, 0, none⟩ := by kernel_rfl
theorem mn_b : fBelowS (sForest KN4) 0 = [2, 4, 17, 18] := by
  have h1 : fMay (sForest KN4) 0 = true := by kernel_rfl
  have h2 : bh (sForest KN4) ((sForest KN4).length + 2) (fOf (sForest KN4) 0) = [2, 17, 18, 4] := by kernel_rfl
  simp only [fBelowS, h1, cond_true, h2]
  exact sortedI_eq (by decide) (by decide)
theorem mn_c : takeN KN4 0 ⟨6, [0], [], 0, 0, 0⟩ = ⟨0, 0, 4, some KNC⟩ := by
  have h1 : callGood ⟨6, [0], [], 0, 0, 0⟩ = true := by kernel_rfl
  have h2 : fCap KN4 0 [0] = (0, ⟨1, 0, 7, 0⟩, 0) := by kernel_rfl
  have h3 : takeE KN4 [2, 4, 17, 18] = (KNC, 4) := by kernel_rfl
  simp [takeN, h1, h2, mn_b, h3]
theorem mn_h : takeE KNB [17, 17, -1, 99, 20] = (KNH, 1) := by kernel_rfl
theorem mn_j : takeE KN4 [] = (KN4, 0) := by kernel_rfl
theorem mn_s : sSame KN4 KN4 = true := sSame_iff.2 rfl
theorem mn_w : cNone ⟨0, 0, 0, 0⟩ = true := by kernel_rfl
theorem mn_la : ((KNA.slots.length : Int) = 32) = True ∧ ((KNA.things.length : Int) = 16) = True ∧ (4 < (KNA.things.length : Int)) = True ∧ (5 < (KNA.things.length : Int)) = True ∧ (4 < (KNA.slots.length : Int)) = True ∧ (17 < (KNA.slots.length : Int)) = True := by
  have a : KNA.slots.length = 32 := by kernel_rfl
  have b : KNA.things.length = 16 := by kernel_rfl
  rw [a, b]; simp
theorem mn_lc : ((KNC.slots.length : Int) = 32) = True ∧ ((KNC.things.length : Int) = 16) = True ∧ (4 < (KNC.things.length : Int)) = True ∧ (5 < (KNC.things.length : Int)) = True := by
  have a : KNC.slots.length = 32 := by kernel_rfl
  have b : KNC.things.length = 16 := by kernel_rfl
  rw [a, b]; simp
theorem mn_le : ((KNE.slots.length : Int) = 32) = True ∧ (4 < (KNE.slots.length : Int)) = True ∧ (18 < (KNE.slots.length : Int)) = True := by
  have a : KNE.slots.length = 32 := by kernel_rfl
  rw [a]; simp
theorem mn_lb : ((KN4.slots.length : Int) = 32) = True ∧ ((KN4.things.length : Int) = 16) = True ∧ (1 < (KN4.things.length : Int)) = True := by
  have a : KN4.slots.length = 32 := by kernel_rfl
  have b : KN4.things.length = 16 := by kernel_rfl
  rw [a, b]; simp
theorem mn_lh : ((KNH.things.length : Int) = 16) = True ∧ (1 < (KNH.things.length : Int)) = True := by
  have b : KNH.things.length = 16 := by kernel_rfl
  rw [b]; simp
def zt : List AVal := [.int .i64 0, .int .i64 0, .int .i64 0, .int .i64 0, .int .i64 0, .int .i64 0, .int .i64 0, .bool false, .int .u64 0, .int .u64 0, .int .u64 0, .int .u64 0, .int .u64 0]
theorem mn_a4 : (KNA.things.map Thing.cells)[4]? = some zt := by kernel_rfl
theorem mn_a5 : (KNA.things.map Thing.cells)[5]? = some [.int .i64 4, .int .i64 0, .int .i64 0, .int .i64 0, .int .i64 0, .int .i64 0, .int .i64 0, .bool false, .int .u64 0, .int .u64 0, .int .u64 0, .int .u64 0, .int .u64 0] := by kernel_rfl
theorem mn_as : (KNA.slots.map Slot.cells)[4]? = some [.int .i64 4, .int .i64 5, .int .i64 1, .int .i64 0, .int .i64 0] := by kernel_rfl
theorem mn_at : (KNA.slots.map Slot.cells)[17]? = some [.int .i64 0, .int .i64 0, .int .i64 0, .int .i64 0, .int .i64 (-1)] := by kernel_rfl
theorem mn_c4 : (KNC.things.map Thing.cells)[4]? = some zt := by kernel_rfl
theorem mn_c5 : (KNC.things.map Thing.cells)[5]? = some zt := by kernel_rfl
theorem mn_e18 : (KNE.slots.map Slot.cells)[18]? = some [.int .i64 4, .int .i64 5, .int .i64 1, .int .i64 0, .int .i64 0] := by kernel_rfl
theorem mn_e4 : (KNE.slots.map Slot.cells)[4]? = some [.int .i64 4, .int .i64 5, .int .i64 1, .int .i64 0, .int .i64 18] := by kernel_rfl
theorem mn_b1 : (KN4.things.map Thing.cells)[1]? = some [.int .i64 3, .int .i64 0, .int .i64 0, .int .i64 0, .int .i64 0, .int .i64 0, .int .i64 0, .bool false, .int .u64 0, .int .u64 0, .int .u64 0, .int .u64 0, .int .u64 0] := by kernel_rfl
theorem mn_h1 : (KNH.things.map Thing.cells)[1]? = some [.int .i64 3, .int .i64 0, .int .i64 0, .int .i64 0, .int .i64 0, .int .i64 0, .int .i64 0, .bool true, .int .u64 5, .int .u64 0, .int .u64 0, .int .u64 0, .int .u64 0] := by kernel_rfl
theorem mn_n : KN4.slots.length ≤ 1000 ∧ KN4.things.length ≤ 1000 := ⟨Nat.le_of_ble_eq_true (by kernel_rfl), Nat.le_of_ble_eq_true (by kernel_rfl)⟩
theorem mn_n0 : 0 < KN4.slots.length ∧ 0 < KN4.things.length := ⟨Nat.le_of_ble_eq_true (by kernel_rfl), Nat.le_of_ble_eq_true (by kernel_rfl)⟩
theorem mn_box : (KN4.things.map Thing.cells).set 1 [.int .i64 3, .int .i64 0, .int .i64 0, .int .i64 0, .int .i64 0, .int .i64 18, .int .i64 0, .bool true, .int .u64 5, .int .u64 0, .int .u64 0, .int .u64 0, .int .u64 0] = KNB.things.map Thing.cells := by kernel_rfl
theorem mn_bl : KN4.slots.length = KNB.slots.length ∧ KN4.things.length = KNB.things.length := ⟨by kernel_rfl, by kernel_rfl⟩
theorem mn_bs : KN4.slots = KNB.slots ∧ KN4.geo = KNB.geo := ⟨by kernel_rfl, by kernel_rfl⟩
attribute [irreducible] KN1 KN2 KN3 KN4 KNA KNC KNE KNB KNH

theorem nested_spec (h : K (stV KN4 H.length (H.length + 1) false false) (H ++ [slotsO KN4, thingsO KN4])) : ACalls Tryz.prog 75 [] H K := by
  refine ACalls.gc ?_
  refine ACalls.into ok75 (Nat.le_of_ble_eq_true rfl) ?_; (try simp only [c75, wpx_of k75_0.eq_1, wpx_of k75_1.eq_1, wpx_of k75_2.eq_1, wpx_of k75_3.eq_1, stV, slotsO, thingsO, Nat.add_assoc, Int.cast_ofNat_Int, go_sem]); repeat' ((first
    | refine And.intro (Or.inr rfl) ?_
    | ((first | refine cB ?_ ?_ | refine gT ?_ ?_ | refine gF ?_ ?_ | refine dT ?_ ?_ | refine dF ?_ ?_) <;> intro hc)
    | refine first17_spec ?_
    | refine way17_spec (by first | exact at0 | exact at1 | exact at2 | exact at3 | exact at4 | exact at5 | exact at6 | exact at7 | exact at8 | exact at9 | exact at10 | exact at11 | exact at12 | exact at13 | exact at14 | exact at15 | exact at16 | exact atX rfl) ?_
    | refine DoSpec.som carve_Do_spec (c := ⟨1, [0], [2], 2, 2, 0⟩) mn_1 (by first | exact at0 | exact at1 | exact at2 | exact at3 | exact at4 | exact at5 | exact at6 | exact at7 | exact at8 | exact at9 | exact at10 | exact at11 | exact at12 | exact at13 | exact at14 | exact at15 | exact at16 | exact atX rfl) (by first | exact at0 | exact at1 | exact at2 | exact at3 | exact at4 | exact at5 | exact at6 | exact at7 | exact at8 | exact at9 | exact at10 | exact at11 | exact at12 | exact at13 | exact at14 | exact at15 | exact at16 | exact atX rfl) (by first | exact at0 | exact at1 | exact at2 | exact at3 | exact at4 | exact at5 | exact at6 | exact at7 | exact at8 | exact at9 | exact at10 | exact at11 | exact at12 | exact at13 | exact at14 | exact at15 | exact at16 | exact atX rfl) (by first | exact at0 | exact at1 | exact at2 | exact at3 | exact at4 | exact at5 | exact at6 | exact at7 | exact at8 | exact at9 | exact at10 | exact at11 | exact at12 | exact at13 | exact at14 | exact at15 | exact at16 | exact atX rfl) ?_
    | refine DoSpec.som carve_Do_spec (c := ⟨1, [0], [2, 1], 4, 0, 0⟩) mn_2 (by first | exact at0 | exact at1 | exact at2 | exact at3 | exact at4 | exact at5 | exact at6 | exact at7 | exact at8 | exact at9 | exact at10 | exact at11 | exact at12 | exact at13 | exact at14 | exact at15 | exact at16 | exact atX rfl) (by first | exact at0 | exact at1 | exact at2 | exact at3 | exact at4 | exact at5 | exact at6 | exact at7 | exact at8 | exact at9 | exact at10 | exact at11 | exact at12 | exact at13 | exact at14 | exact at15 | exact at16 | exact atX rfl) (by first | exact at0 | exact at1 | exact at2 | exact at3 | exact at4 | exact at5 | exact at6 | exact at7 | exact at8 | exact at9 | exact at10 | exact at11 | exact at12 | exact at13 | exact at14 | exact at15 | exact at16 | exact atX rfl) (by first | exact at0 | exact at1 | exact at2 | exact at3 | exact at4 | exact at5 | exact at6 | exact at7 | exact at8 | exact at9 | exact at10 | exact at11 | exact at12 | exact at13 | exact at14 | exact at15 | exact at16 | exact atX rfl) ?_
    | refine DoSpec.som give_Do_spec (c := ⟨2, [2, 1], [2, 2], 1, 0, 0⟩) mn_3 (by first | exact at0 | exact at1 | exact at2 | exact at3 | exact at4 | exact at5 | exact at6 | exact at7 | exact at8 | exact at9 | exact at10 | exact at11 | exact at12 | exact at13 | exact at14 | exact at15 | exact at16 | exact atX rfl) (by first | exact at0 | exact at1 | exact at2 | exact at3 | exact at4 | exact at5 | exact at6 | exact at7 | exact at8 | exact at9 | exact at10 | exact at11 | exact at12 | exact at13 | exact at14 | exact at15 | exact at16 | exact atX rfl) (by first | exact at0 | exact at1 | exact at2 | exact at3 | exact at4 | exact at5 | exact at6 | exact at7 | exact at8 | exact at9 | exact at10 | exact at11 | exact at12 | exact at13 | exact at14 | exact at15 | exact at16 | exact atX rfl) (by first | exact at0 | exact at1 | exact at2 | exact at3 | exact at4 | exact at5 | exact at6 | exact at7 | exact at8 | exact at9 | exact at10 | exact at11 | exact at12 | exact at13 | exact at14 | exact at15 | exact at16 | exact atX rfl) ?_
    | refine DoSpec.som give_Do_spec (c := ⟨2, [2, 2], [4], 7, 0, 0⟩) mn_4 (by first | exact at0 | exact at1 | exact at2 | exact at3 | exact at4 | exact at5 | exact at6 | exact at7 | exact at8 | exact at9 | exact at10 | exact at11 | exact at12 | exact at13 | exact at14 | exact at15 | exact at16 | exact atX rfl) (by first | exact at0 | exact at1 | exact at2 | exact at3 | exact at4 | exact at5 | exact at6 | exact at7 | exact at8 | exact at9 | exact at10 | exact at11 | exact at12 | exact at13 | exact at14 | exact at15 | exact at16 | exact atX rfl) (by first | exact at0 | exact at1 | exact at2 | exact at3 | exact at4 | exact at5 | exact at6 | exact at7 | exact at8 | exact at9 | exact at10 | exact at11 | exact at12 | exact at13 | exact at14 | exact at15 | exact at16 | exact atX rfl) (by first | exact at0 | exact at1 | exact at2 | exact at3 | exact at4 | exact at5 | exact at6 | exact at7 | exact at8 | exact at9 | exact at10 | exact at11 | exact at12 | exact at13 | exact at14 | exact at15 | exact at16 | exact atX rfl) ?_) <;> try simp only [*, wpx_of k75_0.eq_1, wpx_of k75_1.eq_1, wpx_of k75_2.eq_1, wpx_of k75_3.eq_1, stV, slotsO, thingsO, Nat.add_assoc, Int.cast_ofNat_Int, go_sem])
  exact Gc.state rfl rfl (by decide) h

theorem box_Empty {oS oT oL : Nat} {fS fT fL rS rT rL : Bool} (hS : H[oS]? = some (.arr 5 (KN4.slots.map Slot.cells) rS)) (hT : H[oT]? = some (.arr 13 (KNB.things.map Thing.cells) rT)) (hL : H[oL]? = some (.arr 1 (ints [17, 17, -1, 99, 20]) rL))
    (h : K (.tup [stV KNH H.length (H.length + 1) false false, .int .i64 1]) (H ++ [slotsO KNH, thingsO KNH])) :
    ACalls Tryz.prog 69 [.agg [.int .i64 KN4.geo.threads, .int .i64 KN4.geo.slots, .int .i64 KN4.geo.things, .slice oS KN4.slots.length 0 KN4.slots.length fS, .slice oT KN4.things.length 0 KN4.things.length fT], .slice oL 5 0 5 fL] H K := by
  rw [mn_bs.1] at hS ⊢
  rw [mn_bl.2, mn_bs.2]
  refine take_Empty_spec (s := KNB) (l := [17, 17, -1, 99, 20]) hL hS hT mn_gb (by decide) ?_
  rw [mn_h]; exact h

set_option maxHeartbeats 4000000 in
theorem takeKnown_law : ACalls Tryz.prog 16 [] H fun v _ => v = .bool true := by
  refine ACalls.into ok16 (Nat.le_of_ble_eq_true rfl) ?_; (try simp only [c16, wpx_of k16_0.eq_1, wpx_of k16_1.eq_1, wpx_of k16_2.eq_1, wpx_of k16_3.eq_1, wpx_of k16_4.eq_1, wpx_of k16_5.eq_1, wpx_of k16_6.eq_1, wpx_of k16_7.eq_1, wpx_of k16_8.eq_1, wpx_of k16_9.eq_1, wpx_of k16_10.eq_1, wpx_of k16_11.eq_1, wpx_of k16_12.eq_1, wpx_of k16_13.eq_1, wpx_of k16_14.eq_1, wpx_of k16_15.eq_1, stV, slotsO, thingsO, Nat.add_assoc, Int.cast_ofNat_Int, mn_la, mn_lc, mn_le, mn_lb, mn_lh, mn_a4, mn_a5, mn_as, mn_at, mn_c4, mn_c5, mn_e18, mn_e4, mn_b1, mn_h1, mn_g, mn_s, mn_w, mn_j, mn_box, zt, go_sem]); repeat' ((first
    | refine And.intro (Or.inr rfl) ?_
    | ((first | refine cB ?_ ?_ | refine gT ?_ ?_ | refine gF ?_ ?_ | refine dT ?_ ?_ | refine dF ?_ ?_) <;> intro hc)
    | refine awake17b ?_
    | refine nested_spec ?_
    | refine way17_spec (by first | exact at0 | exact at1 | exact at2 | exact at3 | exact at4 | exact at5 | exact at6 | exact at7 | exact at8 | exact at9 | exact at10 | exact at11 | exact at12 | exact at13 | exact at14 | exact at15 | exact at16 | exact atX rfl) ?_
    | refine DoSpec.nilSom take_Do_spec (a := [2]) mn_a (by first | exact at0 | exact at1 | exact at2 | exact at3 | exact at4 | exact at5 | exact at6 | exact at7 | exact at8 | exact at9 | exact at10 | exact at11 | exact at12 | exact at13 | exact at14 | exact at15 | exact at16 | exact atX rfl) (by first | exact at0 | exact at1 | exact at2 | exact at3 | exact at4 | exact at5 | exact at6 | exact at7 | exact at8 | exact at9 | exact at10 | exact at11 | exact at12 | exact at13 | exact at14 | exact at15 | exact at16 | exact atX rfl) (by first | exact at0 | exact at1 | exact at2 | exact at3 | exact at4 | exact at5 | exact at6 | exact at7 | exact at8 | exact at9 | exact at10 | exact at11 | exact at12 | exact at13 | exact at14 | exact at15 | exact at16 | exact atX rfl) ?_
    | refine DoSpec.nilSom take_Do_spec (a := [0]) mn_c (by first | exact at0 | exact at1 | exact at2 | exact at3 | exact at4 | exact at5 | exact at6 | exact at7 | exact at8 | exact at9 | exact at10 | exact at11 | exact at12 | exact at13 | exact at14 | exact at15 | exact at16 | exact atX rfl) (by first | exact at0 | exact at1 | exact at2 | exact at3 | exact at4 | exact at5 | exact at6 | exact at7 | exact at8 | exact at9 | exact at10 | exact at11 | exact at12 | exact at13 | exact at14 | exact at15 | exact at16 | exact atX rfl) (by first | exact at0 | exact at1 | exact at2 | exact at3 | exact at4 | exact at5 | exact at6 | exact at7 | exact at8 | exact at9 | exact at10 | exact at11 | exact at12 | exact at13 | exact at14 | exact at15 | exact at16 | exact atX rfl) ?_
    | refine DoSpec.nilSom take_Do_spec (a := [2, 1]) mn_e (by first | exact at0 | exact at1 | exact at2 | exact at3 | exact at4 | exact at5 | exact at6 | exact at7 | exact at8 | exact at9 | exact at10 | exact at11 | exact at12 | exact at13 | exact at14 | exact at15 | exact at16 | exact atX rfl) (by first | exact at0 | exact at1 | exact at2 | exact at3 | exact at4 | exact at5 | exact at6 | exact at7 | exact at8 | exact at9 | exact at10 | exact at11 | exact at12 | exact at13 | exact at14 | exact at15 | exact at16 | exact atX rfl) (by first | exact at0 | exact at1 | exact at2 | exact at3 | exact at4 | exact at5 | exact at6 | exact at7 | exact at8 | exact at9 | exact at10 | exact at11 | exact at12 | exact at13 | exact at14 | exact at15 | exact at16 | exact atX rfl) ?_
    | refine DoSpec.nilNon take_Do_spec (a := [6]) mn_o (by first | exact at0 | exact at1 | exact at2 | exact at3 | exact at4 | exact at5 | exact at6 | exact at7 | exact at8 | exact at9 | exact at10 | exact at11 | exact at12 | exact at13 | exact at14 | exact at15 | exact at16 | exact atX rfl) (by first | exact at0 | exact at1 | exact at2 | exact at3 | exact at4 | exact at5 | exact at6 | exact at7 | exact at8 | exact at9 | exact at10 | exact at11 | exact at12 | exact at13 | exact at14 | exact at15 | exact at16 | exact atX rfl) (by first | exact at0 | exact at1 | exact at2 | exact at3 | exact at4 | exact at5 | exact at6 | exact at7 | exact at8 | exact at9 | exact at10 | exact at11 | exact at12 | exact at13 | exact at14 | exact at15 | exact at16 | exact atX rfl) ?_
    | refine state_Clone_spec (s := KN4) (by first | exact at0 | exact at1 | exact at2 | exact at3 | exact at4 | exact at5 | exact at6 | exact at7 | exact at8 | exact at9 | exact at10 | exact at11 | exact at12 | exact at13 | exact at14 | exact at15 | exact at16 | exact atX rfl) (by first | exact at0 | exact at1 | exact at2 | exact at3 | exact at4 | exact at5 | exact at6 | exact at7 | exact at8 | exact at9 | exact at10 | exact at11 | exact at12 | exact at13 | exact at14 | exact at15 | exact at16 | exact atX rfl) mn_n.1 mn_n.2 mn_n0.1 mn_n0.2 ?_
    | refine box_Empty (by first | exact at0 | exact at1 | exact at2 | exact at3 | exact at4 | exact at5 | exact at6 | exact at7 | exact at8 | exact at9 | exact at10 | exact at11 | exact at12 | exact at13 | exact at14 | exact at15 | exact at16 | exact atX rfl) (by first | exact at0 | exact at1 | exact at2 | exact at3 | exact at4 | exact at5 | exact at6 | exact at7 | exact at8 | exact at9 | exact at10 | exact at11 | exact at12 | exact at13 | exact at14 | exact at15 | exact at16 | exact atX rfl) (by first | exact at0 | exact at1 | exact at2 | exact at3 | exact at4 | exact at5 | exact at6 | exact at7 | exact at8 | exact at9 | exact at10 | exact at11 | exact at12 | exact at13 | exact at14 | exact at15 | exact at16 | exact atX rfl) ?_
    | refine take_Empty_nil (s := KN4) (by first | exact at0 | exact at1 | exact at2 | exact at3 | exact at4 | exact at5 | exact at6 | exact at7 | exact at8 | exact at9 | exact at10 | exact at11 | exact at12 | exact at13 | exact at14 | exact at15 | exact at16 | exact atX rfl) (by first | exact at0 | exact at1 | exact at2 | exact at3 | exact at4 | exact at5 | exact at6 | exact at7 | exact at8 | exact at9 | exact at10 | exact at11 | exact at12 | exact at13 | exact at14 | exact at15 | exact at16 | exact atX rfl) mn_g ?_
    | refine state_Same_spec (s := KN4) (u := KN4) (by first | exact at0 | exact at1 | exact at2 | exact at3 | exact at4 | exact at5 | exact at6 | exact at7 | exact at8 | exact at9 | exact at10 | exact at11 | exact at12 | exact at13 | exact at14 | exact at15 | exact at16 | exact atX rfl) (by first | exact at0 | exact at1 | exact at2 | exact at3 | exact at4 | exact at5 | exact at6 | exact at7 | exact at8 | exact at9 | exact at10 | exact at11 | exact at12 | exact at13 | exact at14 | exact at15 | exact at16 | exact atX rfl) (by first | exact at0 | exact at1 | exact at2 | exact at3 | exact at4 | exact at5 | exact at6 | exact at7 | exact at8 | exact at9 | exact at10 | exact at11 | exact at12 | exact at13 | exact at14 | exact at15 | exact at16 | exact atX rfl) (by first | exact at0 | exact at1 | exact at2 | exact at3 | exact at4 | exact at5 | exact at6 | exact at7 | exact at8 | exact at9 | exact at10 | exact at11 | exact at12 | exact at13 | exact at14 | exact at15 | exact at16 | exact atX rfl) mn_n.1 mn_n.2 ?_
    | refine state_Good_spec (by first | exact at0 | exact at1 | exact at2 | exact at3 | exact at4 | exact at5 | exact at6 | exact at7 | exact at8 | exact at9 | exact at10 | exact at11 | exact at12 | exact at13 | exact at14 | exact at15 | exact at16 | exact atX rfl) (by first | exact at0 | exact at1 | exact at2 | exact at3 | exact at4 | exact at5 | exact at6 | exact at7 | exact at8 | exact at9 | exact at10 | exact at11 | exact at12 | exact at13 | exact at14 | exact at15 | exact at16 | exact atX rfl) ?_
    | refine cap_None_x ?_) <;> try simp only [*, wpx_of k16_0.eq_1, wpx_of k16_1.eq_1, wpx_of k16_2.eq_1, wpx_of k16_3.eq_1, wpx_of k16_4.eq_1, wpx_of k16_5.eq_1, wpx_of k16_6.eq_1, wpx_of k16_7.eq_1, wpx_of k16_8.eq_1, wpx_of k16_9.eq_1, wpx_of k16_10.eq_1, wpx_of k16_11.eq_1, wpx_of k16_12.eq_1, wpx_of k16_13.eq_1, wpx_of k16_14.eq_1, wpx_of k16_15.eq_1, stV, slotsO, thingsO, Nat.add_assoc, Int.cast_ofNat_Int, mn_la, mn_lc, mn_le, mn_lb, mn_lh, mn_a4, mn_a5, mn_as, mn_at, mn_c4, mn_c5, mn_e18, mn_e4, mn_b1, mn_h1, mn_g, mn_s, mn_w, mn_j, mn_box, zt, go_sem])
  all_goals first | rfl | trace_state
end
end Go.Proofs.YtipigjckoejfpaaGreat.Ax

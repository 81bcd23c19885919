/- Texts put behind one another: SRuleD, SRuleW, SWordsI, SRule. Conditions: none. -/
import Derived.Test.YtlaipllgmddkiaaGreatZLf
import Derived.Test.YtlaipllgmddkiaaGreatZGv
import Derived.Test.YtlaipllgmddkiaaGreatZTk
import Derived.Test.YtlaipllgmddkiaaGreatZSw
import Derived.Test.YtlaipllgmddkiaaGreatZPu
import Derived.Test.YtlaipllgmddkiaaGreatSLawB21Z
set_option linter.all false
namespace Go.Ax.M
open Go Go.Ax
theorem ruleM_1 {s : State} {th x y w : Int} {a b : List Int} (hg : (sGood s && (callGood ⟨1, a, b, x, y, w⟩ && inB th 0 (s.geo.threads - 1))) = true) : ruleM s th ⟨1, a, b, x, y, w⟩ = carveM s th ⟨1, a, b, x, y, w⟩ := by
 simp only [ruleM, hg, Bool.not_true, cond_false]; rfl
theorem ruleM_2 {s : State} {th x y w : Int} {a b : List Int} (hg : (sGood s && (callGood ⟨2, a, b, x, y, w⟩ && inB th 0 (s.geo.threads - 1))) = true) : ruleM s th ⟨2, a, b, x, y, w⟩ = giveM s th ⟨2, a, b, x, y, w⟩ := by
 simp only [ruleM, hg, Bool.not_true, cond_false]; rfl
theorem ruleM_3 {s : State} {th x y w : Int} {a b : List Int} (hg : (sGood s && (callGood ⟨3, a, b, x, y, w⟩ && inB th 0 (s.geo.threads - 1))) = true) : ruleM s th ⟨3, a, b, x, y, w⟩ = giveM s th ⟨3, a, b, x, y, w⟩ := by
 simp only [ruleM, hg, Bool.not_true, cond_false]; rfl
theorem ruleM_4 {s : State} {th x y w : Int} {a b : List Int} (hg : (sGood s && (callGood ⟨4, a, b, x, y, w⟩ && inB th 0 (s.geo.threads - 1))) = true) : ruleM s th ⟨4, a, b, x, y, w⟩ = giveM s th ⟨4, a, b, x, y, w⟩ := by
 simp only [ruleM, hg, Bool.not_true, cond_false]; rfl
theorem ruleM_5 {s : State} {th x y w : Int} {a b : List Int} (hg : (sGood s && (callGood ⟨5, a, b, x, y, w⟩ && inB th 0 (s.geo.threads - 1))) = true) : ruleM s th ⟨5, a, b, x, y, w⟩ = takeN s th ⟨5, a, b, x, y, w⟩ := by
 simp only [ruleM, hg, Bool.not_true, cond_false]; rfl
theorem ruleM_6 {s : State} {th x y w : Int} {a b : List Int} (hg : (sGood s && (callGood ⟨6, a, b, x, y, w⟩ && inB th 0 (s.geo.threads - 1))) = true) : ruleM s th ⟨6, a, b, x, y, w⟩ = takeN s th ⟨6, a, b, x, y, w⟩ := by
 simp only [ruleM, hg, Bool.not_true, cond_false]; rfl
theorem ruleM_7 {s : State} {th x y w : Int} {a b : List Int} (hg : (sGood s && (callGood ⟨7, a, b, x, y, w⟩ && inB th 0 (s.geo.threads - 1))) = true) : ruleM s th ⟨7, a, b, x, y, w⟩ = mailM s th ⟨7, a, b, x, y, w⟩ := by
 simp only [ruleM, hg, Bool.not_true, cond_false]; rfl
theorem ruleM_8 {s : State} {th x y w : Int} {a b : List Int} (hg : (sGood s && (callGood ⟨8, a, b, x, y, w⟩ && inB th 0 (s.geo.threads - 1))) = true) : ruleM s th ⟨8, a, b, x, y, w⟩ = mailM s th ⟨8, a, b, x, y, w⟩ := by
 simp only [ruleM, hg, Bool.not_true, cond_false]; rfl
theorem ruleM_9 {s : State} {th x y w : Int} {a b : List Int} (hg : (sGood s && (callGood ⟨9, a, b, x, y, w⟩ && inB th 0 (s.geo.threads - 1))) = true) : ruleM s th ⟨9, a, b, x, y, w⟩ = bellM s th ⟨9, a, b, x, y, w⟩ := by
 simp only [ruleM, hg, Bool.not_true, cond_false]; rfl
theorem ruleM_10 {s : State} {th x y w : Int} {a b : List Int} (hg : (sGood s && (callGood ⟨10, a, b, x, y, w⟩ && inB th 0 (s.geo.threads - 1))) = true) : ruleM s th ⟨10, a, b, x, y, w⟩ = bellM s th ⟨10, a, b, x, y, w⟩ := by
 simp only [ruleM, hg, Bool.not_true, cond_false]; rfl
theorem ruleM_11 {s : State} {th x y w : Int} {a b : List Int} (hg : (sGood s && (callGood ⟨11, a, b, x, y, w⟩ && inB th 0 (s.geo.threads - 1))) = true) : ruleM s th ⟨11, a, b, x, y, w⟩ = leafM s th ⟨11, a, b, x, y, w⟩ := by
 simp only [ruleM, hg, Bool.not_true, cond_false]; rfl
theorem ruleM_12 {s : State} {th x y w : Int} {a b : List Int} (hg : (sGood s && (callGood ⟨12, a, b, x, y, w⟩ && inB th 0 (s.geo.threads - 1))) = true) : ruleM s th ⟨12, a, b, x, y, w⟩ = leafM s th ⟨12, a, b, x, y, w⟩ := by
 simp only [ruleM, hg, Bool.not_true, cond_false]; rfl
theorem ruleM_13 {s : State} {th x y w : Int} {a b : List Int} (hg : (sGood s && (callGood ⟨13, a, b, x, y, w⟩ && inB th 0 (s.geo.threads - 1))) = true) : ruleM s th ⟨13, a, b, x, y, w⟩ = leafM s th ⟨13, a, b, x, y, w⟩ := by
 simp only [ruleM, hg, Bool.not_true, cond_false]; rfl
end Go.Ax.M
namespace Go.Proofs.YtlaipllgmddkiaaGreat.Ax
open Go Go.Ax Go.Ax.M
set_option maxRecDepth 100000
section
variable {H : Heap} {K : AVal → Heap → Prop} {s : State} {th x y w : Int} {a b : List Int} {oS oT oA oB oL : Nat} {fS fT rS rT fA fB rA rB fL rL : Bool}
theorem leaf_Do_all : DoSpec 44 leafM := by
 intro H K s th c oS oT oA oB fS fT rS rT fA fB rA rB hS hT hA hB h h'
 obtain ⟨op, a, b, x, y, w⟩ := c
 by_cases h11 : op = 11
 ·exact leaf_Do_spec (.inl h11) hS hT hA hB h h'
 by_cases h12 : op = 12
 ·exact leaf_Do_spec (.inr h12) hS hT hA hB h h'
 by_cases h13 : op = 13
 ·subst h13
  refine leaf_Do_tell hS hT hA hB (h ?_)
  cases hcg : callGood ⟨13, a, b, x, y, w⟩ with
  | false => simp only [leafM, hcg, Bool.not_false, Bool.true_or, cond_true, Res.bad]
  | true =>
   rw [leaf13 hcg]
   cases decide ((fCap s th a).2.2 = 0) <;> rfl
 ·have e : leafM s th ⟨op, a, b, x, y, w⟩ = .bad 1 := by simp [leafM, h11, h12, h13]
  rw [e] at h
  have h := h rfl
  have kT := Keeps.of hT
  have kS := Keeps.of hS
  have kA := Keeps.of hA
  have kB := Keeps.of hB
  have hv := fun (e v n : Int) => show (AVal.tup [stA s oS oT fS fT, .agg [.int .i64 e, .int .u64 v, .int .i64 n]]).refs (fun o => o < H.length) by simp [AVal.refs, refsL]; exact ⟨get_lt hS, get_lt hT⟩
  refine ACalls.gc ?_
  cases hcg : callGood ⟨op, a, b, x, y, w⟩ with
  | false =>
   refine into ok44 ?_; (try simp only [c44, w44, stV, slotsO, thingsO, Nat.add_assoc, hcg, h11, h12, h13, go_sem]); repeat' ((first | refine orR ?_ | (refine sp ?_ ?_ <;> intro hc) | refine call_Good_spec (c := ⟨op, a, b, x, y, w⟩) (kA _) (kB _) ?_) <;> try simp only [*, w44, stV, slotsO, thingsO, Nat.add_assoc, hcg, h11, h12, h13, go_sem])
   exact Gc.old (hv _ _ _) h
  | true =>
   refine into ok44 ?_; (try simp only [c44, w44, stV, slotsO, thingsO, Nat.add_assoc, hcg, h11, h12, h13, go_sem]); repeat' ((first | refine orR ?_ | (refine sp ?_ ?_ <;> intro hc) | refine call_Good_spec (c := ⟨op, a, b, x, y, w⟩) (kA _) (kB _) ?_) <;> try simp only [*, w44, stV, slotsO, thingsO, Nat.add_assoc, hcg, h11, h12, h13, go_sem])
   exact Gc.old (hv _ _ _) h
theorem rule_there_s (h : K (.bool (inB th 0 (s.geo.threads - 1))) H) : ACalls Tryz.prog 119 [stA s oS oT fS fT, .int .i64 th] H K := by
 refine ACalls.tidy ?_
 refine into ok119 ?_; (try simp only [c119, wpx_of k119_0.eq_1, go_sem]); repeat' ((first | refine orR ?_ | (refine sp ?_ ?_ <;> intro hc) | fail) <;> try simp only [*, wpx_of k119_0.eq_1, go_sem])
 all_goals exact tb h ⟨_, rfl⟩ (by by_cases h1 : 0 ≤ th <;> by_cases h2 : th < s.geo.threads <;> simp [inB, h1, h2] <;> omega)
theorem ruleD_1 (hg : sGood s = true) (hc : callGood ⟨1, a, b, x, y, w⟩ = true) (ht : inB th 0 (s.geo.threads - 1) = true) (hS : H[oS]? = some (.arr 5 (s.slots.map Slot.cells) rS)) (hT : H[oT]? = some (.arr 13 (s.things.map Thing.cells) rT)) (hA : H[oA]? = some (.arr 1 (ints a) rA)) (hB : H[oB]? = some (.arr 1 (ints b) rB))
 (h : (carveM s th ⟨1, a, b, x, y, w⟩).st = none → K (.tup [stA s oS oT fS fT, (carveM s th ⟨1, a, b, x, y, w⟩).reply]) H) (h' : ∀ s', (carveM s th ⟨1, a, b, x, y, w⟩).st = some s' → K (.tup [stV s' H.length (H.length + 1) false false, (carveM s th ⟨1, a, b, x, y, w⟩).reply]) (H ++ [slotsO s', thingsO s'])) :
 ACalls Tryz.prog 51 [stA s oS oT fS fT, .int .i64 th, .agg [.int .i64 1, .slice oA a.length 0 a.length fA, .slice oB b.length 0 b.length fB, .int .i64 x, .int .i64 y, .int .u64 w]] H K := by
 have kT := Keeps.of hT
 have kS := Keeps.of hS
 have kA := Keeps.of hA
 have kB := Keeps.of hB
 have hv := fun (e v n : Int) => show (AVal.tup [stA s oS oT fS fT, .agg [.int .i64 e, .int .u64 v, .int .i64 n]]).refs (fun o => o < H.length) by simp [AVal.refs, refsL]; exact ⟨get_lt hS, get_lt hT⟩
 refine ACalls.gc ?_
 refine into ok51 ?_; (try simp only [c51, w51, stV, slotsO, thingsO, Nat.add_assoc, Res.reply, hg, ht, hc, go_sem]); repeat' ((first | refine orR ?_ | (refine sp ?_ ?_ <;> intro hc) | refine state_Good_spec (kS _) (kT _) ?_ | refine call_Good_spec (c := ⟨1, a, b, x, y, w⟩) (kA _) (kB _) ?_ | refine rule_there_s (s := s) ?_ | refine carve_Do_spec (c := ⟨1, a, b, x, y, w⟩) (kS _) (kT _) (kA _) (kB _) (fun hc => ?_) (fun s' hc => ?_)) <;> try simp only [*, w51, stV, slotsO, thingsO, Nat.add_assoc, Res.reply, hg, ht, hc, go_sem])
 ·exact Gc.old (hv _ _ _) (h (by assumption))
 ·exact Gc.stN (i := 4) (j := 5) rfl rfl (r := (carveM s th ⟨1, a, b, x, y, w⟩).st) (fun s' e => h' s' e) (hn := rfl) (hm := rfl) (e := by assumption)
theorem ruleD_2 (hg : sGood s = true) (hc : callGood ⟨2, a, b, x, y, w⟩ = true) (ht : inB th 0 (s.geo.threads - 1) = true) (hS : H[oS]? = some (.arr 5 (s.slots.map Slot.cells) rS)) (hT : H[oT]? = some (.arr 13 (s.things.map Thing.cells) rT)) (hA : H[oA]? = some (.arr 1 (ints a) rA)) (hB : H[oB]? = some (.arr 1 (ints b) rB))
 (h : (giveM s th ⟨2, a, b, x, y, w⟩).st = none → K (.tup [stA s oS oT fS fT, (giveM s th ⟨2, a, b, x, y, w⟩).reply]) H) (h' : ∀ s', (giveM s th ⟨2, a, b, x, y, w⟩).st = some s' → K (.tup [stV s' H.length (H.length + 1) false false, (giveM s th ⟨2, a, b, x, y, w⟩).reply]) (H ++ [slotsO s', thingsO s'])) :
 ACalls Tryz.prog 51 [stA s oS oT fS fT, .int .i64 th, .agg [.int .i64 2, .slice oA a.length 0 a.length fA, .slice oB b.length 0 b.length fB, .int .i64 x, .int .i64 y, .int .u64 w]] H K := by
 have kT := Keeps.of hT
 have kS := Keeps.of hS
 have kA := Keeps.of hA
 have kB := Keeps.of hB
 have hv := fun (e v n : Int) => show (AVal.tup [stA s oS oT fS fT, .agg [.int .i64 e, .int .u64 v, .int .i64 n]]).refs (fun o => o < H.length) by simp [AVal.refs, refsL]; exact ⟨get_lt hS, get_lt hT⟩
 refine ACalls.gc ?_
 refine into ok51 ?_; (try simp only [c51, w51, stV, slotsO, thingsO, Nat.add_assoc, Res.reply, hg, ht, hc, go_sem]); repeat' ((first | refine orR ?_ | (refine sp ?_ ?_ <;> intro hc) | refine state_Good_spec (kS _) (kT _) ?_ | refine call_Good_spec (c := ⟨2, a, b, x, y, w⟩) (kA _) (kB _) ?_ | refine rule_there_s (s := s) ?_ | refine give_Do_spec (c := ⟨2, a, b, x, y, w⟩) (kS _) (kT _) (kA _) (kB _) (fun hc => ?_) (fun s' hc => ?_)) <;> try simp only [*, w51, stV, slotsO, thingsO, Nat.add_assoc, Res.reply, hg, ht, hc, go_sem])
 ·exact Gc.old (hv _ _ _) (h (by assumption))
 ·exact Gc.stN (i := 4) (j := 5) rfl rfl (r := (giveM s th ⟨2, a, b, x, y, w⟩).st) (fun s' e => h' s' e) (hn := rfl) (hm := rfl) (e := by assumption)
theorem ruleD_3 (hg : sGood s = true) (hc : callGood ⟨3, a, b, x, y, w⟩ = true) (ht : inB th 0 (s.geo.threads - 1) = true) (hS : H[oS]? = some (.arr 5 (s.slots.map Slot.cells) rS)) (hT : H[oT]? = some (.arr 13 (s.things.map Thing.cells) rT)) (hA : H[oA]? = some (.arr 1 (ints a) rA)) (hB : H[oB]? = some (.arr 1 (ints b) rB))
 (h : (giveM s th ⟨3, a, b, x, y, w⟩).st = none → K (.tup [stA s oS oT fS fT, (giveM s th ⟨3, a, b, x, y, w⟩).reply]) H) (h' : ∀ s', (giveM s th ⟨3, a, b, x, y, w⟩).st = some s' → K (.tup [stV s' H.length (H.length + 1) false false, (giveM s th ⟨3, a, b, x, y, w⟩).reply]) (H ++ [slotsO s', thingsO s'])) :
 ACalls Tryz.prog 51 [stA s oS oT fS fT, .int .i64 th, .agg [.int .i64 3, .slice oA a.length 0 a.length fA, .slice oB b.length 0 b.length fB, .int .i64 x, .int .i64 y, .int .u64 w]] H K := by
 have kT := Keeps.of hT
 have kS := Keeps.of hS
 have kA := Keeps.of hA
 have kB := Keeps.of hB
 have hv := fun (e v n : Int) => show (AVal.tup [stA s oS oT fS fT, .agg [.int .i64 e, .int .u64 v, .int .i64 n]]).refs (fun o => o < H.length) by simp [AVal.refs, refsL]; exact ⟨get_lt hS, get_lt hT⟩
 refine ACalls.gc ?_
 refine into ok51 ?_; (try simp only [c51, w51, stV, slotsO, thingsO, Nat.add_assoc, Res.reply, hg, ht, hc, go_sem]); repeat' ((first | refine orR ?_ | (refine sp ?_ ?_ <;> intro hc) | refine state_Good_spec (kS _) (kT _) ?_ | refine call_Good_spec (c := ⟨3, a, b, x, y, w⟩) (kA _) (kB _) ?_ | refine rule_there_s (s := s) ?_ | refine give_Do_spec (c := ⟨3, a, b, x, y, w⟩) (kS _) (kT _) (kA _) (kB _) (fun hc => ?_) (fun s' hc => ?_)) <;> try simp only [*, w51, stV, slotsO, thingsO, Nat.add_assoc, Res.reply, hg, ht, hc, go_sem])
 ·exact Gc.old (hv _ _ _) (h (by assumption))
 ·exact Gc.stN (i := 4) (j := 5) rfl rfl (r := (giveM s th ⟨3, a, b, x, y, w⟩).st) (fun s' e => h' s' e) (hn := rfl) (hm := rfl) (e := by assumption)
theorem ruleD_4 (hg : sGood s = true) (hc : callGood ⟨4, a, b, x, y, w⟩ = true) (ht : inB th 0 (s.geo.threads - 1) = true) (hS : H[oS]? = some (.arr 5 (s.slots.map Slot.cells) rS)) (hT : H[oT]? = some (.arr 13 (s.things.map Thing.cells) rT)) (hA : H[oA]? = some (.arr 1 (ints a) rA)) (hB : H[oB]? = some (.arr 1 (ints b) rB))
 (h : (giveM s th ⟨4, a, b, x, y, w⟩).st = none → K (.tup [stA s oS oT fS fT, (giveM s th ⟨4, a, b, x, y, w⟩).reply]) H) (h' : ∀ s', (giveM s th ⟨4, a, b, x, y, w⟩).st = some s' → K (.tup [stV s' H.length (H.length + 1) false false, (giveM s th ⟨4, a, b, x, y, w⟩).reply]) (H ++ [slotsO s', thingsO s'])) :
 ACalls Tryz.prog 51 [stA s oS oT fS fT, .int .i64 th, .agg [.int .i64 4, .slice oA a.length 0 a.length fA, .slice oB b.length 0 b.length fB, .int .i64 x, .int .i64 y, .int .u64 w]] H K := by
 have kT := Keeps.of hT
 have kS := Keeps.of hS
 have kA := Keeps.of hA
 have kB := Keeps.of hB
 have hv := fun (e v n : Int) => show (AVal.tup [stA s oS oT fS fT, .agg [.int .i64 e, .int .u64 v, .int .i64 n]]).refs (fun o => o < H.length) by simp [AVal.refs, refsL]; exact ⟨get_lt hS, get_lt hT⟩
 refine ACalls.gc ?_
 refine into ok51 ?_; (try simp only [c51, w51, stV, slotsO, thingsO, Nat.add_assoc, Res.reply, hg, ht, hc, go_sem]); repeat' ((first | refine orR ?_ | (refine sp ?_ ?_ <;> intro hc) | refine state_Good_spec (kS _) (kT _) ?_ | refine call_Good_spec (c := ⟨4, a, b, x, y, w⟩) (kA _) (kB _) ?_ | refine rule_there_s (s := s) ?_ | refine give_Do_spec (c := ⟨4, a, b, x, y, w⟩) (kS _) (kT _) (kA _) (kB _) (fun hc => ?_) (fun s' hc => ?_)) <;> try simp only [*, w51, stV, slotsO, thingsO, Nat.add_assoc, Res.reply, hg, ht, hc, go_sem])
 ·exact Gc.old (hv _ _ _) (h (by assumption))
 ·exact Gc.stN (i := 4) (j := 5) rfl rfl (r := (giveM s th ⟨4, a, b, x, y, w⟩).st) (fun s' e => h' s' e) (hn := rfl) (hm := rfl) (e := by assumption)
theorem ruleD_5 (hg : sGood s = true) (hc : callGood ⟨5, a, b, x, y, w⟩ = true) (ht : inB th 0 (s.geo.threads - 1) = true) (hS : H[oS]? = some (.arr 5 (s.slots.map Slot.cells) rS)) (hT : H[oT]? = some (.arr 13 (s.things.map Thing.cells) rT)) (hA : H[oA]? = some (.arr 1 (ints a) rA)) (hB : H[oB]? = some (.arr 1 (ints b) rB))
 (h : (takeN s th ⟨5, a, b, x, y, w⟩).st = none → K (.tup [stA s oS oT fS fT, (takeN s th ⟨5, a, b, x, y, w⟩).reply]) H) (h' : ∀ s', (takeN s th ⟨5, a, b, x, y, w⟩).st = some s' → K (.tup [stV s' H.length (H.length + 1) false false, (takeN s th ⟨5, a, b, x, y, w⟩).reply]) (H ++ [slotsO s', thingsO s'])) :
 ACalls Tryz.prog 51 [stA s oS oT fS fT, .int .i64 th, .agg [.int .i64 5, .slice oA a.length 0 a.length fA, .slice oB b.length 0 b.length fB, .int .i64 x, .int .i64 y, .int .u64 w]] H K := by
 have kT := Keeps.of hT
 have kS := Keeps.of hS
 have kA := Keeps.of hA
 have kB := Keeps.of hB
 have hv := fun (e v n : Int) => show (AVal.tup [stA s oS oT fS fT, .agg [.int .i64 e, .int .u64 v, .int .i64 n]]).refs (fun o => o < H.length) by simp [AVal.refs, refsL]; exact ⟨get_lt hS, get_lt hT⟩
 refine ACalls.gc ?_
 refine into ok51 ?_; (try simp only [c51, w51, stV, slotsO, thingsO, Nat.add_assoc, Res.reply, hg, ht, hc, go_sem]); repeat' ((first | refine orR ?_ | (refine sp ?_ ?_ <;> intro hc) | refine state_Good_spec (kS _) (kT _) ?_ | refine call_Good_spec (c := ⟨5, a, b, x, y, w⟩) (kA _) (kB _) ?_ | refine rule_there_s (s := s) ?_ | refine take_Do_spec (c := ⟨5, a, b, x, y, w⟩) (kS _) (kT _) (kA _) (kB _) (fun hc => ?_) (fun s' hc => ?_)) <;> try simp only [*, w51, stV, slotsO, thingsO, Nat.add_assoc, Res.reply, hg, ht, hc, go_sem])
 ·exact Gc.old (hv _ _ _) (h (by assumption))
 ·exact Gc.stN (i := 4) (j := 5) rfl rfl (r := (takeN s th ⟨5, a, b, x, y, w⟩).st) (fun s' e => h' s' e) (hn := rfl) (hm := rfl) (e := by assumption)
theorem ruleD_6 (hg : sGood s = true) (hc : callGood ⟨6, a, b, x, y, w⟩ = true) (ht : inB th 0 (s.geo.threads - 1) = true) (hS : H[oS]? = some (.arr 5 (s.slots.map Slot.cells) rS)) (hT : H[oT]? = some (.arr 13 (s.things.map Thing.cells) rT)) (hA : H[oA]? = some (.arr 1 (ints a) rA)) (hB : H[oB]? = some (.arr 1 (ints b) rB))
 (h : (takeN s th ⟨6, a, b, x, y, w⟩).st = none → K (.tup [stA s oS oT fS fT, (takeN s th ⟨6, a, b, x, y, w⟩).reply]) H) (h' : ∀ s', (takeN s th ⟨6, a, b, x, y, w⟩).st = some s' → K (.tup [stV s' H.length (H.length + 1) false false, (takeN s th ⟨6, a, b, x, y, w⟩).reply]) (H ++ [slotsO s', thingsO s'])) :
 ACalls Tryz.prog 51 [stA s oS oT fS fT, .int .i64 th, .agg [.int .i64 6, .slice oA a.length 0 a.length fA, .slice oB b.length 0 b.length fB, .int .i64 x, .int .i64 y, .int .u64 w]] H K := by
 have kT := Keeps.of hT
 have kS := Keeps.of hS
 have kA := Keeps.of hA
 have kB := Keeps.of hB
 have hv := fun (e v n : Int) => show (AVal.tup [stA s oS oT fS fT, .agg [.int .i64 e, .int .u64 v, .int .i64 n]]).refs (fun o => o < H.length) by simp [AVal.refs, refsL]; exact ⟨get_lt hS, get_lt hT⟩
 refine ACalls.gc ?_
 refine into ok51 ?_; (try simp only [c51, w51, stV, slotsO, thingsO, Nat.add_assoc, Res.reply, hg, ht, hc, go_sem]); repeat' ((first | refine orR ?_ | (refine sp ?_ ?_ <;> intro hc) | refine state_Good_spec (kS _) (kT _) ?_ | refine call_Good_spec (c := ⟨6, a, b, x, y, w⟩) (kA _) (kB _) ?_ | refine rule_there_s (s := s) ?_ | refine take_Do_spec (c := ⟨6, a, b, x, y, w⟩) (kS _) (kT _) (kA _) (kB _) (fun hc => ?_) (fun s' hc => ?_)) <;> try simp only [*, w51, stV, slotsO, thingsO, Nat.add_assoc, Res.reply, hg, ht, hc, go_sem])
 ·exact Gc.old (hv _ _ _) (h (by assumption))
 ·exact Gc.stN (i := 4) (j := 5) rfl rfl (r := (takeN s th ⟨6, a, b, x, y, w⟩).st) (fun s' e => h' s' e) (hn := rfl) (hm := rfl) (e := by assumption)
theorem ruleD_7 (hg : sGood s = true) (hc : callGood ⟨7, a, b, x, y, w⟩ = true) (ht : inB th 0 (s.geo.threads - 1) = true) (hS : H[oS]? = some (.arr 5 (s.slots.map Slot.cells) rS)) (hT : H[oT]? = some (.arr 13 (s.things.map Thing.cells) rT)) (hA : H[oA]? = some (.arr 1 (ints a) rA)) (hB : H[oB]? = some (.arr 1 (ints b) rB))
 (h : (mailM s th ⟨7, a, b, x, y, w⟩).st = none → K (.tup [stA s oS oT fS fT, (mailM s th ⟨7, a, b, x, y, w⟩).reply]) H) (h' : ∀ s', (mailM s th ⟨7, a, b, x, y, w⟩).st = some s' → K (.tup [stV s' H.length (H.length + 1) false false, (mailM s th ⟨7, a, b, x, y, w⟩).reply]) (H ++ [slotsO s', thingsO s'])) :
 ACalls Tryz.prog 51 [stA s oS oT fS fT, .int .i64 th, .agg [.int .i64 7, .slice oA a.length 0 a.length fA, .slice oB b.length 0 b.length fB, .int .i64 x, .int .i64 y, .int .u64 w]] H K := by
 have kT := Keeps.of hT
 have kS := Keeps.of hS
 have kA := Keeps.of hA
 have kB := Keeps.of hB
 have hv := fun (e v n : Int) => show (AVal.tup [stA s oS oT fS fT, .agg [.int .i64 e, .int .u64 v, .int .i64 n]]).refs (fun o => o < H.length) by simp [AVal.refs, refsL]; exact ⟨get_lt hS, get_lt hT⟩
 refine ACalls.gc ?_
 refine into ok51 ?_; (try simp only [c51, w51, stV, slotsO, thingsO, Nat.add_assoc, Res.reply, hg, ht, hc, go_sem]); repeat' ((first | refine orR ?_ | (refine sp ?_ ?_ <;> intro hc) | refine state_Good_spec (kS _) (kT _) ?_ | refine call_Good_spec (c := ⟨7, a, b, x, y, w⟩) (kA _) (kB _) ?_ | refine rule_there_s (s := s) ?_ | refine mail_Do_spec (c := ⟨7, a, b, x, y, w⟩) (kS _) (kT _) (kA _) (kB _) (fun hc => ?_) (fun s' hc => ?_)) <;> try simp only [*, w51, stV, slotsO, thingsO, Nat.add_assoc, Res.reply, hg, ht, hc, go_sem])
 ·exact Gc.old (hv _ _ _) (h (by assumption))
 ·exact Gc.stN (i := 4) (j := 5) rfl rfl (r := (mailM s th ⟨7, a, b, x, y, w⟩).st) (fun s' e => h' s' e) (hn := rfl) (hm := rfl) (e := by assumption)
theorem ruleD_8 (hg : sGood s = true) (hc : callGood ⟨8, a, b, x, y, w⟩ = true) (ht : inB th 0 (s.geo.threads - 1) = true) (hS : H[oS]? = some (.arr 5 (s.slots.map Slot.cells) rS)) (hT : H[oT]? = some (.arr 13 (s.things.map Thing.cells) rT)) (hA : H[oA]? = some (.arr 1 (ints a) rA)) (hB : H[oB]? = some (.arr 1 (ints b) rB))
 (h : (mailM s th ⟨8, a, b, x, y, w⟩).st = none → K (.tup [stA s oS oT fS fT, (mailM s th ⟨8, a, b, x, y, w⟩).reply]) H) (h' : ∀ s', (mailM s th ⟨8, a, b, x, y, w⟩).st = some s' → K (.tup [stV s' H.length (H.length + 1) false false, (mailM s th ⟨8, a, b, x, y, w⟩).reply]) (H ++ [slotsO s', thingsO s'])) :
 ACalls Tryz.prog 51 [stA s oS oT fS fT, .int .i64 th, .agg [.int .i64 8, .slice oA a.length 0 a.length fA, .slice oB b.length 0 b.length fB, .int .i64 x, .int .i64 y, .int .u64 w]] H K := by
 have kT := Keeps.of hT
 have kS := Keeps.of hS
 have kA := Keeps.of hA
 have kB := Keeps.of hB
 have hv := fun (e v n : Int) => show (AVal.tup [stA s oS oT fS fT, .agg [.int .i64 e, .int .u64 v, .int .i64 n]]).refs (fun o => o < H.length) by simp [AVal.refs, refsL]; exact ⟨get_lt hS, get_lt hT⟩
 refine ACalls.gc ?_
 refine into ok51 ?_; (try simp only [c51, w51, stV, slotsO, thingsO, Nat.add_assoc, Res.reply, hg, ht, hc, go_sem]); repeat' ((first | refine orR ?_ | (refine sp ?_ ?_ <;> intro hc) | refine state_Good_spec (kS _) (kT _) ?_ | refine call_Good_spec (c := ⟨8, a, b, x, y, w⟩) (kA _) (kB _) ?_ | refine rule_there_s (s := s) ?_ | refine mail_Do_spec (c := ⟨8, a, b, x, y, w⟩) (kS _) (kT _) (kA _) (kB _) (fun hc => ?_) (fun s' hc => ?_)) <;> try simp only [*, w51, stV, slotsO, thingsO, Nat.add_assoc, Res.reply, hg, ht, hc, go_sem])
 ·exact Gc.old (hv _ _ _) (h (by assumption))
 ·exact Gc.stN (i := 4) (j := 5) rfl rfl (r := (mailM s th ⟨8, a, b, x, y, w⟩).st) (fun s' e => h' s' e) (hn := rfl) (hm := rfl) (e := by assumption)
theorem ruleD_9 (hg : sGood s = true) (hc : callGood ⟨9, a, b, x, y, w⟩ = true) (ht : inB th 0 (s.geo.threads - 1) = true) (hS : H[oS]? = some (.arr 5 (s.slots.map Slot.cells) rS)) (hT : H[oT]? = some (.arr 13 (s.things.map Thing.cells) rT)) (hA : H[oA]? = some (.arr 1 (ints a) rA)) (hB : H[oB]? = some (.arr 1 (ints b) rB))
 (h : (bellM s th ⟨9, a, b, x, y, w⟩).st = none → K (.tup [stA s oS oT fS fT, (bellM s th ⟨9, a, b, x, y, w⟩).reply]) H) (h' : ∀ s', (bellM s th ⟨9, a, b, x, y, w⟩).st = some s' → K (.tup [stV s' H.length (H.length + 1) false false, (bellM s th ⟨9, a, b, x, y, w⟩).reply]) (H ++ [slotsO s', thingsO s'])) :
 ACalls Tryz.prog 51 [stA s oS oT fS fT, .int .i64 th, .agg [.int .i64 9, .slice oA a.length 0 a.length fA, .slice oB b.length 0 b.length fB, .int .i64 x, .int .i64 y, .int .u64 w]] H K := by
 have kT := Keeps.of hT
 have kS := Keeps.of hS
 have kA := Keeps.of hA
 have kB := Keeps.of hB
 have hv := fun (e v n : Int) => show (AVal.tup [stA s oS oT fS fT, .agg [.int .i64 e, .int .u64 v, .int .i64 n]]).refs (fun o => o < H.length) by simp [AVal.refs, refsL]; exact ⟨get_lt hS, get_lt hT⟩
 refine ACalls.gc ?_
 refine into ok51 ?_; (try simp only [c51, w51, stV, slotsO, thingsO, Nat.add_assoc, Res.reply, hg, ht, hc, go_sem]); repeat' ((first | refine orR ?_ | (refine sp ?_ ?_ <;> intro hc) | refine state_Good_spec (kS _) (kT _) ?_ | refine call_Good_spec (c := ⟨9, a, b, x, y, w⟩) (kA _) (kB _) ?_ | refine rule_there_s (s := s) ?_ | refine bell_Do_spec (c := ⟨9, a, b, x, y, w⟩) (kS _) (kT _) (kA _) (kB _) (fun hc => ?_) (fun s' hc => ?_)) <;> try simp only [*, w51, stV, slotsO, thingsO, Nat.add_assoc, Res.reply, hg, ht, hc, go_sem])
 ·exact Gc.old (hv _ _ _) (h (by assumption))
 ·exact Gc.stN (i := 4) (j := 5) rfl rfl (r := (bellM s th ⟨9, a, b, x, y, w⟩).st) (fun s' e => h' s' e) (hn := rfl) (hm := rfl) (e := by assumption)
theorem ruleD_10 (hg : sGood s = true) (hc : callGood ⟨10, a, b, x, y, w⟩ = true) (ht : inB th 0 (s.geo.threads - 1) = true) (hS : H[oS]? = some (.arr 5 (s.slots.map Slot.cells) rS)) (hT : H[oT]? = some (.arr 13 (s.things.map Thing.cells) rT)) (hA : H[oA]? = some (.arr 1 (ints a) rA)) (hB : H[oB]? = some (.arr 1 (ints b) rB))
 (h : (bellM s th ⟨10, a, b, x, y, w⟩).st = none → K (.tup [stA s oS oT fS fT, (bellM s th ⟨10, a, b, x, y, w⟩).reply]) H) (h' : ∀ s', (bellM s th ⟨10, a, b, x, y, w⟩).st = some s' → K (.tup [stV s' H.length (H.length + 1) false false, (bellM s th ⟨10, a, b, x, y, w⟩).reply]) (H ++ [slotsO s', thingsO s'])) :
 ACalls Tryz.prog 51 [stA s oS oT fS fT, .int .i64 th, .agg [.int .i64 10, .slice oA a.length 0 a.length fA, .slice oB b.length 0 b.length fB, .int .i64 x, .int .i64 y, .int .u64 w]] H K := by
 have kT := Keeps.of hT
 have kS := Keeps.of hS
 have kA := Keeps.of hA
 have kB := Keeps.of hB
 have hv := fun (e v n : Int) => show (AVal.tup [stA s oS oT fS fT, .agg [.int .i64 e, .int .u64 v, .int .i64 n]]).refs (fun o => o < H.length) by simp [AVal.refs, refsL]; exact ⟨get_lt hS, get_lt hT⟩
 refine ACalls.gc ?_
 refine into ok51 ?_; (try simp only [c51, w51, stV, slotsO, thingsO, Nat.add_assoc, Res.reply, hg, ht, hc, go_sem]); repeat' ((first | refine orR ?_ | (refine sp ?_ ?_ <;> intro hc) | refine state_Good_spec (kS _) (kT _) ?_ | refine call_Good_spec (c := ⟨10, a, b, x, y, w⟩) (kA _) (kB _) ?_ | refine rule_there_s (s := s) ?_ | refine bell_Do_spec (c := ⟨10, a, b, x, y, w⟩) (kS _) (kT _) (kA _) (kB _) (fun hc => ?_) (fun s' hc => ?_)) <;> try simp only [*, w51, stV, slotsO, thingsO, Nat.add_assoc, Res.reply, hg, ht, hc, go_sem])
 ·exact Gc.old (hv _ _ _) (h (by assumption))
 ·exact Gc.stN (i := 4) (j := 5) rfl rfl (r := (bellM s th ⟨10, a, b, x, y, w⟩).st) (fun s' e => h' s' e) (hn := rfl) (hm := rfl) (e := by assumption)
theorem ruleD_11 (hg : sGood s = true) (hc : callGood ⟨11, a, b, x, y, w⟩ = true) (ht : inB th 0 (s.geo.threads - 1) = true) (hS : H[oS]? = some (.arr 5 (s.slots.map Slot.cells) rS)) (hT : H[oT]? = some (.arr 13 (s.things.map Thing.cells) rT)) (hA : H[oA]? = some (.arr 1 (ints a) rA)) (hB : H[oB]? = some (.arr 1 (ints b) rB))
 (h : (leafM s th ⟨11, a, b, x, y, w⟩).st = none → K (.tup [stA s oS oT fS fT, (leafM s th ⟨11, a, b, x, y, w⟩).reply]) H) (h' : ∀ s', (leafM s th ⟨11, a, b, x, y, w⟩).st = some s' → K (.tup [stV s' H.length (H.length + 1) false false, (leafM s th ⟨11, a, b, x, y, w⟩).reply]) (H ++ [slotsO s', thingsO s'])) :
 ACalls Tryz.prog 51 [stA s oS oT fS fT, .int .i64 th, .agg [.int .i64 11, .slice oA a.length 0 a.length fA, .slice oB b.length 0 b.length fB, .int .i64 x, .int .i64 y, .int .u64 w]] H K := by
 have kT := Keeps.of hT
 have kS := Keeps.of hS
 have kA := Keeps.of hA
 have kB := Keeps.of hB
 have hv := fun (e v n : Int) => show (AVal.tup [stA s oS oT fS fT, .agg [.int .i64 e, .int .u64 v, .int .i64 n]]).refs (fun o => o < H.length) by simp [AVal.refs, refsL]; exact ⟨get_lt hS, get_lt hT⟩
 refine ACalls.gc ?_
 refine into ok51 ?_; (try simp only [c51, w51, stV, slotsO, thingsO, Nat.add_assoc, Res.reply, hg, ht, hc, go_sem]); repeat' ((first | refine orR ?_ | (refine sp ?_ ?_ <;> intro hc) | refine state_Good_spec (kS _) (kT _) ?_ | refine call_Good_spec (c := ⟨11, a, b, x, y, w⟩) (kA _) (kB _) ?_ | refine rule_there_s (s := s) ?_ | refine leaf_Do_all (c := ⟨11, a, b, x, y, w⟩) (kS _) (kT _) (kA _) (kB _) (fun hc => ?_) (fun s' hc => ?_)) <;> try simp only [*, w51, stV, slotsO, thingsO, Nat.add_assoc, Res.reply, hg, ht, hc, go_sem])
 ·exact Gc.old (hv _ _ _) (h (by assumption))
 ·exact Gc.stN (i := 4) (j := 5) rfl rfl (r := (leafM s th ⟨11, a, b, x, y, w⟩).st) (fun s' e => h' s' e) (hn := rfl) (hm := rfl) (e := by assumption)
theorem ruleD_12 (hg : sGood s = true) (hc : callGood ⟨12, a, b, x, y, w⟩ = true) (ht : inB th 0 (s.geo.threads - 1) = true) (hS : H[oS]? = some (.arr 5 (s.slots.map Slot.cells) rS)) (hT : H[oT]? = some (.arr 13 (s.things.map Thing.cells) rT)) (hA : H[oA]? = some (.arr 1 (ints a) rA)) (hB : H[oB]? = some (.arr 1 (ints b) rB))
 (h : (leafM s th ⟨12, a, b, x, y, w⟩).st = none → K (.tup [stA s oS oT fS fT, (leafM s th ⟨12, a, b, x, y, w⟩).reply]) H) (h' : ∀ s', (leafM s th ⟨12, a, b, x, y, w⟩).st = some s' → K (.tup [stV s' H.length (H.length + 1) false false, (leafM s th ⟨12, a, b, x, y, w⟩).reply]) (H ++ [slotsO s', thingsO s'])) :
 ACalls Tryz.prog 51 [stA s oS oT fS fT, .int .i64 th, .agg [.int .i64 12, .slice oA a.length 0 a.length fA, .slice oB b.length 0 b.length fB, .int .i64 x, .int .i64 y, .int .u64 w]] H K := by
 have kT := Keeps.of hT
 have kS := Keeps.of hS
 have kA := Keeps.of hA
 have kB := Keeps.of hB
 have hv := fun (e v n : Int) => show (AVal.tup [stA s oS oT fS fT, .agg [.int .i64 e, .int .u64 v, .int .i64 n]]).refs (fun o => o < H.length) by simp [AVal.refs, refsL]; exact ⟨get_lt hS, get_lt hT⟩
 refine ACalls.gc ?_
 refine into ok51 ?_; (try simp only [c51, w51, stV, slotsO, thingsO, Nat.add_assoc, Res.reply, hg, ht, hc, go_sem]); repeat' ((first | refine orR ?_ | (refine sp ?_ ?_ <;> intro hc) | refine state_Good_spec (kS _) (kT _) ?_ | refine call_Good_spec (c := ⟨12, a, b, x, y, w⟩) (kA _) (kB _) ?_ | refine rule_there_s (s := s) ?_ | refine leaf_Do_all (c := ⟨12, a, b, x, y, w⟩) (kS _) (kT _) (kA _) (kB _) (fun hc => ?_) (fun s' hc => ?_)) <;> try simp only [*, w51, stV, slotsO, thingsO, Nat.add_assoc, Res.reply, hg, ht, hc, go_sem])
 ·exact Gc.old (hv _ _ _) (h (by assumption))
 ·exact Gc.stN (i := 4) (j := 5) rfl rfl (r := (leafM s th ⟨12, a, b, x, y, w⟩).st) (fun s' e => h' s' e) (hn := rfl) (hm := rfl) (e := by assumption)
theorem ruleD_13 (hg : sGood s = true) (hc : callGood ⟨13, a, b, x, y, w⟩ = true) (ht : inB th 0 (s.geo.threads - 1) = true) (hS : H[oS]? = some (.arr 5 (s.slots.map Slot.cells) rS)) (hT : H[oT]? = some (.arr 13 (s.things.map Thing.cells) rT)) (hA : H[oA]? = some (.arr 1 (ints a) rA)) (hB : H[oB]? = some (.arr 1 (ints b) rB))
 (h : (leafM s th ⟨13, a, b, x, y, w⟩).st = none → K (.tup [stA s oS oT fS fT, (leafM s th ⟨13, a, b, x, y, w⟩).reply]) H) (h' : ∀ s', (leafM s th ⟨13, a, b, x, y, w⟩).st = some s' → K (.tup [stV s' H.length (H.length + 1) false false, (leafM s th ⟨13, a, b, x, y, w⟩).reply]) (H ++ [slotsO s', thingsO s'])) :
 ACalls Tryz.prog 51 [stA s oS oT fS fT, .int .i64 th, .agg [.int .i64 13, .slice oA a.length 0 a.length fA, .slice oB b.length 0 b.length fB, .int .i64 x, .int .i64 y, .int .u64 w]] H K := by
 have kT := Keeps.of hT
 have kS := Keeps.of hS
 have kA := Keeps.of hA
 have kB := Keeps.of hB
 have hv := fun (e v n : Int) => show (AVal.tup [stA s oS oT fS fT, .agg [.int .i64 e, .int .u64 v, .int .i64 n]]).refs (fun o => o < H.length) by simp [AVal.refs, refsL]; exact ⟨get_lt hS, get_lt hT⟩
 refine ACalls.gc ?_
 refine into ok51 ?_; (try simp only [c51, w51, stV, slotsO, thingsO, Nat.add_assoc, Res.reply, hg, ht, hc, go_sem]); repeat' ((first | refine orR ?_ | (refine sp ?_ ?_ <;> intro hc) | refine state_Good_spec (kS _) (kT _) ?_ | refine call_Good_spec (c := ⟨13, a, b, x, y, w⟩) (kA _) (kB _) ?_ | refine rule_there_s (s := s) ?_ | refine leaf_Do_all (c := ⟨13, a, b, x, y, w⟩) (kS _) (kT _) (kA _) (kB _) (fun hc => ?_) (fun s' hc => ?_)) <;> try simp only [*, w51, stV, slotsO, thingsO, Nat.add_assoc, Res.reply, hg, ht, hc, go_sem])
 ·exact Gc.old (hv _ _ _) (h (by assumption))
 ·exact Gc.stN (i := 4) (j := 5) rfl rfl (r := (leafM s th ⟨13, a, b, x, y, w⟩).st) (fun s' e => h' s' e) (hn := rfl) (hm := rfl) (e := by assumption)
theorem rule_Do_spec : DoSpec 51 ruleM := by
 intro H K s th c oS oT oA oB fS fT rS rT fA fB rA rB hS hT hA hB h h'
 obtain ⟨op, a, b, x, y, w⟩ := c
 cases hg : (sGood s && (callGood ⟨op, a, b, x, y, w⟩ && inB th 0 (s.geo.threads - 1))) with
 | false =>
  have e : ruleM s th ⟨op, a, b, x, y, w⟩ = .bad 1 := by simp only [ruleM, hg, Bool.not_false, cond_true]
  rw [e] at h
  have h := h rfl
  clear h' e
  have kT := Keeps.of hT
  have kS := Keeps.of hS
  have kA := Keeps.of hA
  have kB := Keeps.of hB
  have hv := fun (e v n : Int) => show (AVal.tup [stA s oS oT fS fT, .agg [.int .i64 e, .int .u64 v, .int .i64 n]]).refs (fun o => o < H.length) by simp [AVal.refs, refsL]; exact ⟨get_lt hS, get_lt hT⟩
  refine ACalls.gc ?_
  cases h1 : sGood s with
  | false =>
   refine into ok51 ?_; (try simp only [c51, w51, stV, Nat.add_assoc, h1, go_sem]); repeat' ((first | refine orR ?_ | (refine sp ?_ ?_ <;> intro hc) | refine state_Good_spec (kS _) (kT _) ?_) <;> try simp only [*, w51, stV, Nat.add_assoc, h1, go_sem])
   exact Gc.old (hv _ _ _) h
  | true =>
   cases h2 : callGood ⟨op, a, b, x, y, w⟩ with
   | false =>
    refine into ok51 ?_; (try simp only [c51, w51, stV, Nat.add_assoc, h1, h2, go_sem]); repeat' ((first | refine orR ?_ | (refine sp ?_ ?_ <;> intro hc) | refine state_Good_spec (kS _) (kT _) ?_ | refine call_Good_spec (c := ⟨op, a, b, x, y, w⟩) (kA _) (kB _) ?_) <;> try simp only [*, w51, stV, Nat.add_assoc, h1, h2, go_sem])
    exact Gc.old (hv _ _ _) h
   | true =>
    have h3 : inB th 0 (s.geo.threads - 1) = false := by rw [h1, h2] at hg; simpa using hg
    refine into ok51 ?_; (try simp only [c51, w51, stV, Nat.add_assoc, h1, h2, h3, go_sem]); repeat' ((first | refine orR ?_ | (refine sp ?_ ?_ <;> intro hc) | refine state_Good_spec (kS _) (kT _) ?_ | refine call_Good_spec (c := ⟨op, a, b, x, y, w⟩) (kA _) (kB _) ?_ | refine rule_there_s (s := s) ?_) <;> try simp only [*, w51, stV, Nat.add_assoc, h1, h2, h3, go_sem])
    exact Gc.old (hv _ _ _) h
 | true =>
  have hg' := hg
  simp only [Bool.and_eq_true] at hg'
  obtain ⟨g1, g2, g3⟩ := hg'
  have hop := callGood_in g2
  simp only at hop
  have : op = 1 ∨ op = 2 ∨ op = 3 ∨ op = 4 ∨ op = 5 ∨ op = 6 ∨ op = 7 ∨ op = 8 ∨ op = 9 ∨ op = 10 ∨ op = 11 ∨ op = 12 ∨ op = 13 := by omega
  rcases this with rfl | rfl | rfl | rfl | rfl | rfl | rfl | rfl | rfl | rfl | rfl | rfl | rfl
  ·rw [ruleM_1 hg] at h h'
   exact ruleD_1 g1 g2 g3 hS hT hA hB h h'
  ·rw [ruleM_2 hg] at h h'
   exact ruleD_2 g1 g2 g3 hS hT hA hB h h'
  ·rw [ruleM_3 hg] at h h'
   exact ruleD_3 g1 g2 g3 hS hT hA hB h h'
  ·rw [ruleM_4 hg] at h h'
   exact ruleD_4 g1 g2 g3 hS hT hA hB h h'
  ·rw [ruleM_5 hg] at h h'
   exact ruleD_5 g1 g2 g3 hS hT hA hB h h'
  ·rw [ruleM_6 hg] at h h'
   exact ruleD_6 g1 g2 g3 hS hT hA hB h h'
  ·rw [ruleM_7 hg] at h h'
   exact ruleD_7 g1 g2 g3 hS hT hA hB h h'
  ·rw [ruleM_8 hg] at h h'
   exact ruleD_8 g1 g2 g3 hS hT hA hB h h'
  ·rw [ruleM_9 hg] at h h'
   exact ruleD_9 g1 g2 g3 hS hT hA hB h h'
  ·rw [ruleM_10 hg] at h h'
   exact ruleD_10 g1 g2 g3 hS hT hA hB h h'
  ·rw [ruleM_11 hg] at h h'
   exact ruleD_11 g1 g2 g3 hS hT hA hB h h'
  ·rw [ruleM_12 hg] at h h'
   exact ruleD_12 g1 g2 g3 hS hT hA hB h h'
  ·rw [ruleM_13 hg] at h h'
   exact ruleD_13 g1 g2 g3 hS hT hA hB h h'
end
end Go.Proofs.YtlaipllgmddkiaaGreat.Ax
namespace Go.Proofs.YtlaipllgmddkiaaGreat.Ax
open Go Go.Ax Go.Ax.M
set_option maxRecDepth 100000
section
variable {H : Heap} {K : AVal → Heap → Prop} {s : State} {th l0 l1 l2 l3 : Int} {oS oT oL : Nat} {fS fT rS rT fL rL : Bool}
end
end Go.Proofs.YtlaipllgmddkiaaGreat.Ax
namespace Go.Proofs.YtlaipllgmddkiaaGreat.Ax
open Go Go.Ax Go.Ax.M
set_option maxRecDepth 100000
section
variable {H : Heap} {K : AVal → Heap → Prop} {s : State} {th l0 l1 l2 l3 : Int} {oS oT oL sL nL iL jL : Nat} {fS fT rS rT fL rL : Bool} {xsL : List (List AVal)} {csL : List AVal}
theorem words_Equal_isl {l m : List Int} {o n : Nat} {f r : Bool} (hn : l.length = n) (hm : m.length = 4) (h1 : H[o]? = some (.arr 1 (wordsC l) r)) (hL : H[oL]? = some (.arr sL xsL rL)) (hnL : xsL.length = nL) (hcL : xsL[iL]? = some csL) (heL : ∀ k, k < 4 → csL[jL + k]? = some (.int .u64 (m.getD k 0))) (hl : n ≤ 100000)
 (h : K (.bool (decide (l = m))) H) : ACalls Tryz.prog 127 [.slice o n 0 n f, .isl oL nL iL jL 4] H K := by
 have he : listEq (fun x y : Int => decide (x = y)) 0 l m = decide (l = m) := by
  rw [Bool.eq_iff_iff, listEq_iff (by simp)]; simp
 by_cases h4 : n = 4
 ·subst h4
  have e : decide (l = m) = (List.range 4).all fun k => decide (l.getD k 0 = m.getD k 0) := by rw [← he]; simp only [listEq, hn, hm, decide_true, Bool.true_and]
  have hg1 : ∀ k, k < 4 → (wordsC l)[k]? = some [.int .u64 (l.getD k 0)] := fun k h => wordsC_get (l := l) (k := k) (by omega)
  have hwl : (wordsC l).length = 4 := by rw [wordsC_length, hn]
  generalize wordsC l = A at *
  clear he hn hm
  refine into ok127 ?_; (try simp only [c127, w127, nlt_iff, go_sem]); repeat' ((first | refine orR ?_ | (refine sp ?_ ?_ <;> intro hc) | fail) <;> try simp only [*, w127, nlt_iff, go_sem])
  refine ALoop.keep [13, 0, 1, 12] ?_; simp only [mpC, go_sem]
  refine ALoop.cnt (fun k => ((List.range k).all fun k => decide (l.getD k 0 = m.getD k 0)) = true) 4 (by simp) fun k hk hI next => ?_
  refine ALoop.unfold ?_
  have hw := wrap_succ (k := k) (by omega)
  by_cases hk4 : k < 4
  ·have g1 := hg1 k hk4
   have g2 := heL k hk4
   have g3 : ((k : Int) < 4) = True := eq_true (by omega)
   clear hg1 heL
   (try simp only [w127, g1, h1, hwl, hL, hnL, hcL, g2, g3, hw, wpx_of b127_4.eq_1, nlt_iff, n0_le, go_sem]); repeat' ((first | refine orR ?_ | (refine sp ?_ ?_ <;> intro hc) | fail) <;> try simp only [*, w127, g1, h1, hwl, hL, hnL, hcL, g2, g3, hw, wpx_of b127_4.eq_1, nlt_iff, n0_le, go_sem])
   ·refine kb h ?_
    rw [e]; exact (all_range_false (k := k) hk4 (by simp only [decide_eq_false_iff_not]; assumption)).symm
   ·(refine ALoop.keep [13, 0, 1, 12] ?_; simp only [mpC, go_sem]; refine next hk4 ?_)
    rw [all_range (N := 0), hI]; simp only [Bool.true_and, decide_eq_true_eq]; omega
  ·have hk : k = 4 := by omega
   subst hk
   (try simp only [w127, hw, wpx_of b127_4.eq_1, nlt_iff, n0_le, go_sem]); repeat' ((first | refine orR ?_ | (refine sp ?_ ?_ <;> intro hc) | fail) <;> try simp only [*, w127, hw, wpx_of b127_4.eq_1, nlt_iff, n0_le, go_sem])
   exact kb h (by rw [e, hI])
 ·have h4' : ((n : Int) = 4) = False := eq_false (by omega)
  have : ¬ l = m := by intro e; subst e; omega
  rw [decide_eq_false this] at h
  refine into ok127 ?_; (try simp only [c127, w127, nlt_iff, Int.natCast_inj, h4', go_sem]); repeat' ((first | refine orR ?_ | (refine sp ?_ ?_ <;> intro hc) | fail) <;> try simp only [*, w127, nlt_iff, Int.natCast_inj, h4', go_sem])
  exact h
theorem words_Equal_nilI (h : K (.bool false) H) : ACalls Tryz.prog 127 [.lit (.slice none 0 0), .isl oL nL iL jL 4] H K := by
 refine into ok127 ?_; (try simp only [c127, w127, Int.natCast_inj, go_sem]); repeat' ((first | refine orR ?_ | (refine sp ?_ ?_ <;> intro hc) | fail) <;> try simp only [*, w127, Int.natCast_inj, go_sem])
 exact h
set_option maxHeartbeats 2000000 in
theorem call_Get_isl {l0 l1 l2 l3 : Int} (hL : H[oL]? = some (.arr sL xsL rL)) (hnL : xsL.length = nL) (hcL : xsL[iL]? = some csL) (heL : ∀ k, k < 4 → csL[jL + k]? = some (.int .u64 ([l0, l1, l2, l3].getD k 0))) (u0 : 0 ≤ l0 ∧ l0 < 2 ^ 64) (u1 : 0 ≤ l1 ∧ l1 < 2 ^ 64) (u2 : 0 ≤ l2 ∧ l2 < 2 ^ 64) (h : gOk l0 l1 l2 l3 = false → K (.tup [zeroCall, .bool false]) H)
 (hn : gOk l0 l1 l2 l3 = true → (gCall l0 l1 l2 l3).b = [] → K (.tup [.agg [.int .i64 (gCall l0 l1 l2 l3).op, .slice H.length (gCall l0 l1 l2 l3).a.length 0 (gCall l0 l1 l2 l3).a.length false, .lit (.slice none 0 0), .int .i64 (gCall l0 l1 l2 l3).x, .int .i64 (gCall l0 l1 l2 l3).y, .int .u64 (gCall l0 l1 l2 l3).w], .bool true])
  (H ++ [.arr 1 (ints (gCall l0 l1 l2 l3).a) false]))
 (h' : gOk l0 l1 l2 l3 = true → (gCall l0 l1 l2 l3).b ≠ [] → K (.tup [.agg [.int .i64 (gCall l0 l1 l2 l3).op, .slice H.length (gCall l0 l1 l2 l3).a.length 0 (gCall l0 l1 l2 l3).a.length false, .slice (H.length + 1) (gCall l0 l1 l2 l3).b.length 0 (gCall l0 l1 l2 l3).b.length false, .int .i64 (gCall l0 l1 l2 l3).x, .int .i64 (gCall l0 l1 l2 l3).y, .int .u64 (gCall l0 l1 l2 l3).w], .bool true])
  (H ++ [.arr 1 (ints (gCall l0 l1 l2 l3).a) false, .arr 1 (ints (gCall l0 l1 l2 l3).b) false])) :
 ACalls Tryz.prog 55 [.isl oL nL iL jL 4] H K := by
 have kL := Keeps.of hL
 have e0 : csL[jL]? = some (.int .u64 l0) := heL 0 (by decide)
 have e1 : csL[jL + 1]? = some (.int .u64 l1) := heL 1 (by decide)
 have e2 : csL[jL + 2]? = some (.int .u64 l2) := heL 2 (by decide)
 have e3 : csL[jL + 3]? = some (.int .u64 l3) := heL 3 (by decide)
 have m1 := mark_get (w := l0)
 have m2 : markF.length = 3 := rfl
 have w1 : IntKind.wrap .i64 (l0 % 256) = l0 % 256 := w64 (by omega) (by omega)
 have w2 : IntKind.wrap .i64 (l0 / 256 % 65536) = l0 / 256 % 65536 := w64 (by omega) (by omega)
 have w3 : IntKind.wrap .i64 (l0 / 16777216 % 65536) = l0 / 16777216 % 65536 := w64 (by omega) (by omega)
 refine ACalls.gc ?_
 simp only [gOk, gCall] at h h' hn
 have h4 : ((0 : Int) = ((4 : Nat) : Int)) = False := by decide
 have hlen : (cWords ⟨l0 % 256, pGet l1, pGet l2, l0 / 256 % 65536, l0 / 16777216 % 65536, l3⟩).length = 4 := rfl
 cases hg : callGood ⟨l0 % 256, pGet l1, pGet l2, l0 / 256 % 65536, l0 / 16777216 % 65536, l3⟩ with
 | false =>
  have h := h (by rw [hg]; rfl)
  clear h' hn
  by_cases ha : pGet l1 = []
  ·by_cases hb : pGet l2 = []
   ·rw [ha, hb] at hg
    refine into ok55 ?_; (try simp only [c55, w55, kL, hnL, hcL, e0, e1, e2, e3, m1, m2, w1, w2, w3, wordsC, mpC, go_sem]); repeat' ((first | refine orR ?_ | (refine sp ?_ ?_ <;> intro hc) | refine call_marks_spec ?_ | refine tag_Get_spec (F := markF) markF_ok (by decide) u0.1 u0.2 (by first | exact at0 | exact atX rfl) ?_ | refine path_Get_spec u1.1 u1.2 (fun e => ?_) (fun _ => absurd ha (by assumption)) | refine path_Get_spec u2.1 u2.2 (fun e => ?_) (fun _ => absurd hb (by assumption)) | refine call_Words_badAN ?_ | refine words_Equal_nilI ?_) <;> try simp only [*, w55, kL, hnL, hcL, e0, e1, e2, e3, m1, m2, w1, w2, w3, wordsC, mpC, go_sem])
    exact Gc.old (by simp [zeroCall, AVal.refs, refsL]) h
   ·rw [ha] at hg
    refine into ok55 ?_; (try simp only [c55, w55, kL, hnL, hcL, e0, e1, e2, e3, m1, m2, w1, w2, w3, wordsC, mpC, go_sem]); repeat' ((first | refine orR ?_ | (refine sp ?_ ?_ <;> intro hc) | refine call_marks_spec ?_ | refine tag_Get_spec (F := markF) markF_ok (by decide) u0.1 u0.2 (by first | exact at0 | exact atX rfl) ?_ | refine path_Get_spec u1.1 u1.2 (fun e => ?_) (fun _ => absurd ha (by assumption)) | refine path_Get_spec u2.1 u2.2 (fun e => absurd e hb) (fun _ => ?_) | refine call_Words_badA (b := pGet l2) (by first | exact at0 | exact atX rfl) ?_ | refine words_Equal_nilI ?_) <;> try simp only [*, w55, kL, hnL, hcL, e0, e1, e2, e3, m1, m2, w1, w2, w3, wordsC, mpC, go_sem])
    exact Gc.old (by simp [zeroCall, AVal.refs, refsL]) h
  ·by_cases hb : pGet l2 = []
   ·rw [hb] at hg
    refine into ok55 ?_; (try simp only [c55, w55, kL, hnL, hcL, e0, e1, e2, e3, m1, m2, w1, w2, w3, wordsC, mpC, go_sem]); repeat' ((first | refine orR ?_ | (refine sp ?_ ?_ <;> intro hc) | refine call_marks_spec ?_ | refine tag_Get_spec (F := markF) markF_ok (by decide) u0.1 u0.2 (by first | exact at0 | exact atX rfl) ?_ | refine path_Get_spec u1.1 u1.2 (fun e => absurd e ha) (fun _ => ?_) | refine path_Get_spec u2.1 u2.2 (fun e => ?_) (fun _ => absurd hb (by assumption)) | refine call_Words_badN (a := pGet l1) (by first | exact at0 | exact atX rfl) hg ?_ | refine words_Equal_nilI ?_) <;> try simp only [*, w55, kL, hnL, hcL, e0, e1, e2, e3, m1, m2, w1, w2, w3, wordsC, mpC, go_sem])
    exact Gc.old (by simp [zeroCall, AVal.refs, refsL]) h
   ·skip
    refine into ok55 ?_; (try simp only [c55, w55, kL, hnL, hcL, e0, e1, e2, e3, m1, m2, w1, w2, w3, wordsC, mpC, go_sem]); repeat' ((first | refine orR ?_ | (refine sp ?_ ?_ <;> intro hc) | refine call_marks_spec ?_ | refine tag_Get_spec (F := markF) markF_ok (by decide) u0.1 u0.2 (by first | exact at0 | exact atX rfl) ?_ | refine path_Get_spec u1.1 u1.2 (fun e => absurd e ha) (fun _ => ?_) | refine path_Get_spec u2.1 u2.2 (fun e => absurd e hb) (fun _ => ?_) | refine call_Words_bad (c := gCall l0 l1 l2 l3) (by first | exact at0 | exact atX rfl) (by first | exact at0 | exact atX rfl) hg ?_ | refine words_Equal_nilI ?_) <;> try simp only [*, w55, kL, hnL, hcL, e0, e1, e2, e3, m1, m2, w1, w2, w3, wordsC, mpC, go_sem])
    exact Gc.old (by simp [zeroCall, AVal.refs, refsL]) h
 | true =>
  have ha : ¬ pGet l1 = [] := fun e => by rw [e, noWay] at hg; cases hg
  simp only [hg, Bool.true_and] at h h' hn
  by_cases hb : pGet l2 = []
  ·clear h'
   simp only [hb] at hg h hn hlen
   refine into ok55 ?_; (try simp only [c55, w55, kL, hnL, hcL, e0, e1, e2, e3, m1, m2, w1, w2, w3, wordsC, mpC, go_sem]); repeat' ((first | refine orR ?_ | (refine sp ?_ ?_ <;> intro hc) | refine call_marks_spec ?_ | refine tag_Get_spec (F := markF) markF_ok (by decide) u0.1 u0.2 (by first | exact at0 | exact atX rfl) ?_ | refine path_Get_spec u1.1 u1.2 (fun e => absurd e ha) (fun _ => ?_) | refine path_Get_spec u2.1 u2.2 (fun e => ?_) (fun _ => absurd hb (by assumption)) | refine call_Words_nil (a := pGet l1) (by first | exact at0 | exact atX rfl) hg ?_ | refine words_Equal_isl (l := _) (m := [l0, l1, l2, l3]) hlen rfl (by first | exact at0 | exact atX rfl) (kL _) hnL hcL heL (by decide) ?_) <;> try simp only [*, w55, kL, hnL, hcL, e0, e1, e2, e3, m1, m2, w1, w2, w3, wordsC, mpC, go_sem])
   ·exact Gc.old (by simp [AVal.refs, refsL]) (h (decide_eq_false (by assumption)))
   ·exact Gc.call1 (i := 4) rfl (hn (decide_eq_true (by assumption)) trivial)
  ·clear hn
   refine into ok55 ?_; (try simp only [c55, w55, kL, hnL, hcL, e0, e1, e2, e3, m1, m2, w1, w2, w3, wordsC, mpC, go_sem]); repeat' ((first | refine orR ?_ | (refine sp ?_ ?_ <;> intro hc) | refine call_marks_spec ?_ | refine tag_Get_spec (F := markF) markF_ok (by decide) u0.1 u0.2 (by first | exact at0 | exact atX rfl) ?_ | refine path_Get_spec u1.1 u1.2 (fun e => absurd e ha) (fun _ => ?_) | refine path_Get_spec u2.1 u2.2 (fun e => absurd e hb) (fun _ => ?_) | refine call_Words_spec (c := gCall l0 l1 l2 l3) (by first | exact at0 | exact atX rfl) (by first | exact at0 | exact atX rfl) hg ?_ | refine words_Equal_isl (l := cWords (gCall l0 l1 l2 l3)) (m := [l0, l1, l2, l3]) hlen rfl (by first | exact at0 | exact atX rfl) (kL _) hnL hcL heL (by decide) ?_) <;> try simp only [*, w55, kL, hnL, hcL, e0, e1, e2, e3, m1, m2, w1, w2, w3, wordsC, mpC, go_sem])
   ·exact Gc.old (by simp [AVal.refs, refsL]) (h (decide_eq_false (by assumption)))
   ·exact Gc.call2 (i := 4) (j := 5) rfl rfl (by decide) (h' (decide_eq_true (by assumption)) hb)
set_option maxHeartbeats 1000000 in
theorem rule_Words_isl (hS : H[oS]? = some (.arr 5 (s.slots.map Slot.cells) rS)) (hT : H[oT]? = some (.arr 13 (s.things.map Thing.cells) rT)) (hL : H[oL]? = some (.arr sL xsL rL)) (hnL : xsL.length = nL) (hcL : xsL[iL]? = some csL) (heL : ∀ k, k < 4 → csL[jL + k]? = some (.int .u64 ([l0, l1, l2, l3].getD k 0))) (u0 : 0 ≤ l0 ∧ l0 < 2 ^ 64) (u1 : 0 ≤ l1 ∧ l1 < 2 ^ 64) (u2 : 0 ≤ l2 ∧ l2 < 2 ^ 64)
 (h : (ruleW s th l0 l1 l2 l3).st = none → K (.tup [stA s oS oT fS fT, (ruleW s th l0 l1 l2 l3).reply]) H) (h' : ∀ s', (ruleW s th l0 l1 l2 l3).st = some s' → K (.tup [stV s' H.length (H.length + 1) false false, (ruleW s th l0 l1 l2 l3).reply]) (H ++ [slotsO s', thingsO s'])) :
 ACalls Tryz.prog 52 [stA s oS oT fS fT, .int .i64 th, .isl oL nL iL jL 4] H K := by
 have kT := Keeps.of hT
 have kS := Keeps.of hS
 have kL := Keeps.of hL
 have hv := fun (e v n : Int) => show (AVal.tup [stA s oS oT fS fT, .agg [.int .i64 e, .int .u64 v, .int .i64 n]]).refs (fun o => o < H.length) by simp [AVal.refs, refsL]; exact ⟨get_lt hS, get_lt hT⟩
 refine ACalls.gc ?_
 cases hok : gOk l0 l1 l2 l3 with
 | false =>
  cases hg : sGood s with
  | false =>
   have e : ruleW s th l0 l1 l2 l3 = .bad 1 := by simp only [ruleW, hg, Bool.not_false, cond_true]
   rw [e] at h
   have h := h rfl
   clear h' e
   refine into ok52 ?_; (try simp only [c52, w52, stV, Nat.add_assoc, zeroCall, hg, go_sem]); repeat' ((first | refine orR ?_ | (refine sp ?_ ?_ <;> intro hc) | refine call_Get_isl (kL _) hnL hcL heL u0 u1 u2 (fun _ => ?_) (fun e => absurd (hok.symm.trans e) (by decide)) (fun e => absurd (hok.symm.trans e) (by decide)) | refine state_Good_spec (kS _) (kT _) ?_) <;> try simp only [*, w52, stV, Nat.add_assoc, zeroCall, hg, go_sem])
   exact Gc.old (hv _ _ _) h
  | true =>
   have e : ruleW s th l0 l1 l2 l3 = .bad 2 := by simp only [ruleW, hg, hok, Bool.not_false, Bool.not_true, cond_true, cond_false]
   rw [e] at h
   have h := h rfl
   clear h' e
   refine into ok52 ?_; (try simp only [c52, w52, stV, Nat.add_assoc, zeroCall, hg, go_sem]); repeat' ((first | refine orR ?_ | (refine sp ?_ ?_ <;> intro hc) | refine call_Get_isl (kL _) hnL hcL heL u0 u1 u2 (fun _ => ?_) (fun e => absurd (hok.symm.trans e) (by decide)) (fun e => absurd (hok.symm.trans e) (by decide)) | refine state_Good_spec (kS _) (kT _) ?_) <;> try simp only [*, w52, stV, Nat.add_assoc, zeroCall, hg, go_sem])
   exact Gc.old (hv _ _ _) h
 | true =>
  cases hg : sGood s with
  | false =>
   have e : ruleW s th l0 l1 l2 l3 = .bad 1 := by simp only [ruleW, hg, Bool.not_false, cond_true]
   rw [e] at h
   have h := h rfl
   clear h' e
   refine into ok52 ?_; (try simp only [c52, w52, stV, Nat.add_assoc, hg, go_sem]); repeat' ((first | refine orR ?_ | (refine sp ?_ ?_ <;> intro hc) | refine call_Get_isl (kL _) hnL hcL heL u0 u1 u2 (fun e => absurd (hok.symm.trans e) (by decide)) (fun _ hb => ?_) (fun _ hb => ?_) | refine state_Good_spec (kS _) (kT _) ?_) <;> try simp only [*, w52, stV, Nat.add_assoc, hg, go_sem])
   all_goals exact Gc.old (hv _ _ _) h
  | true =>
   have e : ruleW s th l0 l1 l2 l3 = ruleM s th (gCall l0 l1 l2 l3) := by simp only [ruleW, hg, hok, Bool.not_true, cond_false]
   rw [e] at h h'
   clear e
   by_cases hb : (gCall l0 l1 l2 l3).b = []
   ·generalize hc : gCall l0 l1 l2 l3 = c at *
    obtain ⟨op, a, b, x, y, w⟩ := c
    simp only at hb
    subst hb
    have call := fun (K : AVal → Heap → Prop) (h1) (h2) => call_Get_isl (oL := oL) (K := K) (kL [.arr 5 [[.int .i64 s.geo.threads, .int .i64 s.geo.slots, .int .i64 s.geo.things, .slice oS s.slots.length 0 s.slots.length fS, .slice oT s.things.length 0 s.things.length fT]] false, .arr 5 [[.int .i64 0, .int .i64 0, .int .i64 0, .lit (.slice none 0 0), .lit (.slice none 0 0)]] false, .arr 3 [[.int .i64 0, .int .u64 0, .int .i64 0]] false]) hnL hcL heL u0 u1 u2 (fun e => absurd (hok.symm.trans e) (by decide)) h1 h2
    rw [hc] at call
    have call := fun (K : AVal → Heap → Prop) (h1) => call K (fun _ _ => h1) (fun _ e => absurd rfl e)
    refine into ok52 ?_; (try simp only [c52, w52, stV, Nat.add_assoc, slotsO, thingsO, Res.reply, hg, go_sem]); repeat' ((first | refine orR ?_ | (refine sp ?_ ?_ <;> intro hc) | refine call _ ?_ | refine state_Good_spec (kS _) (kT _) ?_ | refine rule_Do_spec.nil (kS _) (kT _) (by first | exact at0 | exact atX rfl) (fun hc => ?_) (fun s' hc => ?_)) <;> try simp only [*, w52, stV, Nat.add_assoc, slotsO, thingsO, Res.reply, hg, go_sem])
    ·exact Gc.old (hv _ _ _) (h (by assumption))
    ·exact Gc.stN (i := 5) (j := 6) rfl rfl (r := (ruleM s th ⟨op, a, [], x, y, w⟩).st) (fun s' e => h' s' e) (hn := rfl) (hm := rfl) (e := by assumption)
   ·generalize hc : gCall l0 l1 l2 l3 = c at *
    obtain ⟨op, a, b, x, y, w⟩ := c
    simp only at hb
    have call := fun (K : AVal → Heap → Prop) (h1) (h2) => call_Get_isl (oL := oL) (K := K) (kL [.arr 5 [[.int .i64 s.geo.threads, .int .i64 s.geo.slots, .int .i64 s.geo.things, .slice oS s.slots.length 0 s.slots.length fS, .slice oT s.things.length 0 s.things.length fT]] false, .arr 5 [[.int .i64 0, .int .i64 0, .int .i64 0, .lit (.slice none 0 0), .lit (.slice none 0 0)]] false, .arr 3 [[.int .i64 0, .int .u64 0, .int .i64 0]] false]) hnL hcL heL u0 u1 u2 (fun e => absurd (hok.symm.trans e) (by decide)) h1 h2
    rw [hc] at call
    have call := fun (K : AVal → Heap → Prop) (h1) => call K (fun _ e => absurd e hb) (fun _ _ => h1)
    refine into ok52 ?_; (try simp only [c52, w52, stV, Nat.add_assoc, slotsO, thingsO, Res.reply, hg, go_sem]); repeat' ((first | refine orR ?_ | (refine sp ?_ ?_ <;> intro hc) | refine call _ ?_ | refine state_Good_spec (kS _) (kT _) ?_ | refine rule_Do_spec (c := ⟨op, a, b, x, y, w⟩) (kS _) (kT _) (by first | exact at0 | exact atX rfl) (by first | exact at0 | exact atX rfl) (fun hc => ?_) (fun s' hc => ?_)) <;> try simp only [*, w52, stV, Nat.add_assoc, slotsO, thingsO, Res.reply, hg, go_sem])
    ·exact Gc.old (hv _ _ _) (h (by assumption))
    ·exact Gc.stN (i := 6) (j := 7) rfl rfl (r := (ruleM s th ⟨op, a, b, x, y, w⟩).st) (fun s' e => h' s' e) (hn := rfl) (hm := rfl) (e := by assumption)
theorem rule_Words_islSom {e v m : Int} {u : State} (hr : ruleW s th l0 l1 l2 l3 = ⟨e, v, m, some u⟩) (hS : H[oS]? = some (.arr 5 (s.slots.map Slot.cells) rS)) (hT : H[oT]? = some (.arr 13 (s.things.map Thing.cells) rT)) (hL : H[oL]? = some (.arr sL xsL rL)) (hnL : xsL.length = nL) (hcL : xsL[iL]? = some csL) (heL : ∀ k, k < 4 → csL[jL + k]? = some (.int .u64 ([l0, l1, l2, l3].getD k 0))) (u0 : 0 ≤ l0 ∧ l0 < 2 ^ 64) (u1 : 0 ≤ l1 ∧ l1 < 2 ^ 64) (u2 : 0 ≤ l2 ∧ l2 < 2 ^ 64)
 (h : K (.tup [stV u H.length (H.length + 1) false false, .agg [.int .i64 e, .int .u64 v, .int .i64 m]]) (H ++ [slotsO u, thingsO u])) :
 ACalls Tryz.prog 52 [stA s oS oT fS fT, .int .i64 th, .isl oL nL iL jL 4] H K :=
 rule_Words_isl hS hT hL hnL hcL heL u0 u1 u2 (by rw [hr]; intro h; cases h) (by rw [hr]; intro s2 h2; injection h2 with h2; subst h2; exact h)
theorem rule_Words_islNon {e v m : Int} (hr : ruleW s th l0 l1 l2 l3 = ⟨e, v, m, none⟩) (hS : H[oS]? = some (.arr 5 (s.slots.map Slot.cells) rS)) (hT : H[oT]? = some (.arr 13 (s.things.map Thing.cells) rT)) (hL : H[oL]? = some (.arr sL xsL rL)) (hnL : xsL.length = nL) (hcL : xsL[iL]? = some csL) (heL : ∀ k, k < 4 → csL[jL + k]? = some (.int .u64 ([l0, l1, l2, l3].getD k 0))) (u0 : 0 ≤ l0 ∧ l0 < 2 ^ 64) (u1 : 0 ≤ l1 ∧ l1 < 2 ^ 64) (u2 : 0 ≤ l2 ∧ l2 < 2 ^ 64)
 (h : K (.tup [stA s oS oT fS fT, .agg [.int .i64 e, .int .u64 v, .int .i64 m]]) H) :
 ACalls Tryz.prog 52 [stA s oS oT fS fT, .int .i64 th, .isl oL nL iL jL 4] H K :=
 rule_Words_isl hS hT hL hnL hcL heL u0 u1 u2 (by rw [hr]; intro _; exact h) (by rw [hr]; intro s2 h2; cases h2)
end
end Go.Proofs.YtlaipllgmddkiaaGreat.Ax
namespace Go.Proofs.YtlaipllgmddkiaaGreat.Ax
open Go Go.Ax Go.Ax.M
set_option maxRecDepth 100000
section
variable {H : Heap} {K : AVal → Heap → Prop} {s : State} {th x y w : Int} {a b : List Int} {oS oT oA oB oL : Nat} {fS fT rS rT fA fB rA rB fL : Bool}
theorem rule_there_spec (h : K (.bool (inB th 0 (s.geo.threads - 1))) H) : ACalls Tryz.prog 119 [stA s oS oT fS fT, .int .i64 th] H K := by
 refine ACalls.tidy ?_
 refine into ok119 ?_; (try simp only [c119, wpx_of k119_0.eq_1, go_sem]); repeat' ((first | refine orR ?_ | (refine sp ?_ ?_ <;> intro hc) | fail) <;> try simp only [*, wpx_of k119_0.eq_1, go_sem])
 all_goals exact tb h ⟨_, rfl⟩ (by by_cases h1 : 0 ≤ th <;> by_cases h2 : th < s.geo.threads <;> simp [inB, h1, h2] <;> omega)
theorem call_Get_short {n : Nat} (hn : ((n : Int) = 4) = False) (h : K (.tup [.agg [.int .i64 0, .lit (.slice none 0 0), .lit (.slice none 0 0), .int .i64 0, .int .i64 0, .int .u64 0], .bool false]) H) :
 ACalls Tryz.prog 55 [.slice oL n 0 n fL] H K := by
 refine ACalls.gc ?_
 refine into ok55 ?_; (try simp only [c55, w55, hn, go_sem]); repeat' ((first | refine orR ?_ | (refine sp ?_ ?_ <;> intro hc) | fail) <;> try simp only [*, w55, hn, go_sem])
 exact Gc.old (by simp [AVal.refs, refsL]) h
theorem rule_Words_short {n : Nat} (hn : ((n : Int) = 4) = False) (good : sGood s = true) (hS : H[oS]? = some (.arr 5 (s.slots.map Slot.cells) rS)) (hT : H[oT]? = some (.arr 13 (s.things.map Thing.cells) rT))
 (h : K (.tup [stA s oS oT fS fT, .agg [.int .i64 2, .int .u64 0, .int .i64 0]]) H) : ACalls Tryz.prog 52 [stA s oS oT fS fT, .int .i64 th, .slice oL n 0 n fL] H K := by
 have kT := Keeps.of hT
 have kS := Keeps.of hS
 have hv := fun (e v n : Int) => show (AVal.tup [stA s oS oT fS fT, .agg [.int .i64 e, .int .u64 v, .int .i64 n]]).refs (fun o => o < H.length) by simp [AVal.refs, refsL]; exact ⟨get_lt hS, get_lt hT⟩
 refine ACalls.gc ?_
 refine into ok52 ?_; (try simp only [c52, w52, stV, good, hn, Nat.add_assoc, go_sem]); repeat' ((first | refine orR ?_ | (refine sp ?_ ?_ <;> intro hc) | refine call_Get_short hn ?_ | refine state_Good_spec (kS _) (kT _) ?_) <;> try simp only [*, w52, stV, good, hn, Nat.add_assoc, go_sem])
 exact Gc.old (hv _ _ _) h
theorem rule_tell (hg : sGood s = true) (ht : inB th 0 (s.geo.threads - 1) = true) (hc : callGood ⟨13, a, b, x, y, w⟩ = true) (hS : H[oS]? = some (.arr 5 (s.slots.map Slot.cells) rS)) (hT : H[oT]? = some (.arr 13 (s.things.map Thing.cells) rT)) (hA : H[oA]? = some (.arr 1 (ints a) rA)) (hB : H[oB]? = some (.arr 1 (ints b) rB))
 (h : K (.tup [stA s oS oT fS fT, (leafM s th ⟨13, a, b, x, y, w⟩).reply]) H) :
 ACalls Tryz.prog 51 [stA s oS oT fS fT, .int .i64 th, .agg [.int .i64 13, .slice oA a.length 0 a.length fA, .slice oB b.length 0 b.length fB, .int .i64 x, .int .i64 y, .int .u64 w]] H K := by
 have kT := Keeps.of hT
 have kS := Keeps.of hS
 have kA := Keeps.of hA
 have kB := Keeps.of hB
 have hv := fun (e v n : Int) => show (AVal.tup [stA s oS oT fS fT, .agg [.int .i64 e, .int .u64 v, .int .i64 n]]).refs (fun o => o < H.length) by simp [AVal.refs, refsL]; exact ⟨get_lt hS, get_lt hT⟩
 refine ACalls.gc ?_
 refine into ok51 ?_; (try simp only [c51, w51, stV, slotsO, thingsO, Nat.add_assoc, Res.reply, hg, ht, hc, go_sem]); repeat' ((first | refine orR ?_ | (refine sp ?_ ?_ <;> intro hc) | refine state_Good_spec (kS _) (kT _) ?_ | refine call_Good_spec (c := ⟨13, a, b, x, y, w⟩) (kA _) (kB _) ?_ | refine rule_there_spec (s := s) ?_ | refine leaf_Do_tell (kS _) (kT _) (kA _) (kB _) ?_) <;> try simp only [*, w51, stV, slotsO, thingsO, Nat.add_assoc, Res.reply, hg, ht, hc, go_sem])
 exact Gc.old (hv _ _ _) h
theorem rule_tell_nil {e w' n : Int} (hg : sGood s = true) (ht : inB th 0 (s.geo.threads - 1) = true) (hc : callGood ⟨13, a, [], x, y, w⟩ = true) (hr : leafM s th ⟨13, a, [], x, y, w⟩ = ⟨e, w', n, none⟩) (hS : H[oS]? = some (.arr 5 (s.slots.map Slot.cells) rS)) (hT : H[oT]? = some (.arr 13 (s.things.map Thing.cells) rT)) (hA : H[oA]? = some (.arr 1 (ints a) rA))
 (h : K (.tup [stA s oS oT fS fT, .agg [.int .i64 e, .int .u64 w', .int .i64 n]]) H) :
 ACalls Tryz.prog 51 [stA s oS oT fS fT, .int .i64 th, .agg [.int .i64 13, .slice oA a.length 0 a.length fA, .lit (.slice none 0 0), .int .i64 x, .int .i64 y, .int .u64 w]] H K := by
 refine ACalls.gc (ACalls.lay 1 ?_)
 simp only [Go.Ax.fillN, Go.Ax.fill1, go_sem]
 have kS := Keeps.of hS
 have kT := Keeps.of hT
 have kA := Keeps.of hA
 refine rule_tell (b := []) (oB := H.length) (rB := false) hg ht hc (kS _) (kT _) (kA _) at0 ?_
 rw [hr]
 refine Gc.old ?_ h
 simp only [AVal.refs, refsL]
 exact ⟨⟨trivial, trivial, trivial, get_lt hS, get_lt hT, trivial⟩, ⟨trivial, trivial, trivial, trivial⟩, trivial⟩
theorem reads_13 (h : K (.bool true) H) : ACalls Tryz.prog 58 [.int .i64 13] H K := run_known (v := .bool true) tab21Ok (loops := 5) (k := 5) (by kernel_rfl) rfl rfl h
theorem reads_11 (h : K (.bool false) H) : ACalls Tryz.prog 58 [.int .i64 11] H K := run_known (v := .bool false) tab21Ok (loops := 5) (k := 5) (by kernel_rfl) rfl rfl h
theorem mr_g : sGood S0 = true := by kernel_rfl
theorem mr_t : inB 0 0 (S0.geo.threads - 1) = true := by kernel_rfl
theorem mr_c : callGood ⟨13, [0], [], 0, 0, 0⟩ = true := by kernel_rfl
theorem mr_l : leafM S0 0 ⟨13, [0], [], 0, 0, 0⟩ = ⟨0, cWord ⟨1, 0, 7, 0⟩, 0, none⟩ := by kernel_rfl
theorem awake21_spec (h : K (.bool true) H) : ACalls Tryz.prog 48 [] H K := by
 have hss : sSame S0 S0 = true := sSame_iff.2 rfl
 refine ACalls.tidy ?_
 refine into ok48 ?_; (try simp only [c48, w48, stV, slotsO, thingsO, Nat.add_assoc, Int.cast_ofNat_Int, hss, go_sem]); repeat' ((first | refine orR ?_ | (refine sp ?_ ?_ <;> intro hc) | refine first21_spec ?_ | refine way21_spec (by first | exact at0 | exact atX rfl) ?_ | refine rule_Words_short (s := S0) (n := 2) (by decide) mr_g (by first | exact at0 | exact atX rfl) (by first | exact at0 | exact atX rfl) ?_ | refine rule_tell_nil (s := S0) (a := [0]) mr_g mr_t mr_c mr_l (by first | exact at0 | exact atX rfl) (by first | exact at0 | exact atX rfl) (by first | exact at0 | exact atX rfl) ?_ | refine state_Same_spec (s := S0) (u := S0) (by first | exact at0 | exact atX rfl) (by first | exact at0 | exact atX rfl) (by first | exact at0 | exact atX rfl) (by first | exact at0 | exact atX rfl) (by decide) (by decide) ?_ | refine reads_13 ?_ | refine reads_11 ?_) <;> try simp only [*, w48, stV, slotsO, thingsO, Nat.add_assoc, Int.cast_ofNat_Int, hss, go_sem])
 all_goals first | exact ⟨rfl, _, rfl⟩ | exact tb h ⟨_, rfl⟩ rfl | trace_state
end
end Go.Proofs.YtlaipllgmddkiaaGreat.Ax

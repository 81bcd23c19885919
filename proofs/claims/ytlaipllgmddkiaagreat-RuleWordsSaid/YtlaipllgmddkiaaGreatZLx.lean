/- Texts put behind one another: LRuleW. Conditions: none. -/
import Derived.Test.YtlaipllgmddkiaaGreatZRu
import Derived.Test.YtlaipllgmddkiaaGreatSArgZ
set_option linter.unusedSimpArgs false
set_option linter.unusedVariables false
set_option linter.defProp false
namespace Go.Ax.M
open Go Go.Ax
theorem ruleW_words {s : State} {th : Int} {c : Call} (hg : callGood c = true) : ruleW s th ((cWords c).getD 0 0) ((cWords c).getD 1 0) ((cWords c).getD 2 0) ((cWords c).getD 3 0) = ruleM s th c := by
 have e : ruleW s th ((cWords c).getD 0 0) ((cWords c).getD 1 0) ((cWords c).getD 2 0) ((cWords c).getD 3 0) = ruleW s th (c.op + c.x * 256 + c.y * 16777216) (pathW c.a) (pathW c.b) c.w := rfl
 rw [e]
 simp only [ruleW, gOk_words hg, gCall_words hg, Bool.not_true, cond_false]
 cases h : sGood s with
 | true => rfl
 | false => simp [ruleM, h]
theorem cWords_u {c : Call} (hg : callGood c = true) : ∀ k, k < 3 → 0 ≤ (cWords c).getD k 0 ∧ (cWords c).getD k 0 < 2 ^ 64 := by
 obtain ⟨h1, h2, h3, h4, h5, h6, h7, h8⟩ := callGood_in hg
 have ha := pathW_in h7
 have hb : 0 ≤ pathW c.b ∧ pathW c.b < 65536 := by
  rcases h8 with h | h
  ·rw [h, pathW_nil]; omega
  ·have := pathW_in h; omega
 intro k hk
 rcases (by omega : k = 0 ∨ k = 1 ∨ k = 2) with rfl | rfl | rfl
 ·show 0 ≤ c.op + c.x * 256 + c.y * 16777216 ∧ c.op + c.x * 256 + c.y * 16777216 < 2 ^ 64
  omega
 ·show 0 ≤ pathW c.a ∧ pathW c.a < 2 ^ 64
  omega
 ·show 0 ≤ pathW c.b ∧ pathW c.b < 2 ^ 64
  omega
end Go.Ax.M
namespace Go.Proofs.YtlaipllgmddkiaaGreat.Ax
open Go Go.Ax Go.Ax.M
set_option maxRecDepth 100000
theorem ruleWords_law (H : Heap) (bs : List AVal) (h : ArgShapes Tryz.prog H 8 [27, 3, 33] bs) : ACalls Tryz.prog 8 bs H fun v _ => v = .bool true := by
 obtain ⟨a1, l, rfl, h1, h⟩ := argShapes_cons h
 obtain ⟨a2, l, rfl, h2, h⟩ := argShapes_cons h
 obtain ⟨a3, l, rfl, h3, h⟩ := argShapes_cons h
 obtain rfl := argShapes_nil h
 obtain ⟨s, oS, oT, rfl, hS, hT⟩ := arg_state h1
 obtain ⟨th, rfl, -⟩ := h2.int Tryz.underlying3
 obtain ⟨c, oA, oB, rfl, hA, hB⟩ := arg_call h3
 clear h1 h2 h3 h
 have kS := Keeps.of hS
 have kT := Keeps.of hT
 have kA := Keeps.of hA
 have kB := Keeps.of hB
 have hss : ∀ s, sSame s s = true := fun s => sSame_iff.2 rfl
 have hl : (cWords c).length = 4 := rfl
 cases hcg : callGood c with
 | false =>
  refine into ok8 ?_; (try simp only [c8, w8, kS, kT, stV, slotsO, thingsO, Nat.add_assoc, Res.reply, hss, hcg, go_sem]); repeat' ((first | refine And.intro (.inr rfl) ?_ | (refine sp ?_ ?_ <;> intro hc) | refine awake21_spec ?_ | refine heavy21_spec (c := c) ?_ | refine call_Good_spec (c := c) (kA _) (kB _) ?_) <;> try simp only [*, w8, kS, kT, stV, slotsO, thingsO, Nat.add_assoc, Res.reply, hss, hcg, go_sem])
 | true =>
  cases hh : heavyM s c with
  | true =>
   refine into ok8 ?_; (try simp only [c8, w8, kS, kT, stV, slotsO, thingsO, Nat.add_assoc, Res.reply, hss, hcg, hh, go_sem]); repeat' ((first | refine And.intro (.inr rfl) ?_ | (refine sp ?_ ?_ <;> intro hc) | refine awake21_spec ?_ | refine heavy21_spec (c := c) ?_) <;> try simp only [*, w8, kS, kT, stV, slotsO, thingsO, Nat.add_assoc, Res.reply, hss, hcg, hh, go_sem])
  | false =>
   have hlS : s.slots.length ≤ 1000 := by simp [heavyM] at hh; omega
   have hlT : s.things.length ≤ 1000 := by simp [heavyM] at hh; omega
   have hw := ruleW_words (s := s) (th := th) hcg
   obtain ⟨e, v, n, st, hr⟩ : ∃ e v n st, ruleM s th c = ⟨e, v, n, st⟩ := ⟨_, _, _, _, rfl⟩
   rw [hr] at hw
   cases st with
   | none =>
    refine into ok8 ?_; (try simp only [c8, w8, kS, kT, stV, slotsO, thingsO, Nat.add_assoc, hss, hcg, hh, go_sem]); repeat' ((first | refine And.intro (.inr rfl) ?_ | (refine sp ?_ ?_ <;> intro hc) | refine awake21_spec ?_ | refine heavy21_spec (c := c) ?_ | refine call_Good_spec (c := c) (kA _) (kB _) ?_ | refine rule_Do_spec.non (c := c) hr (kS _) (kT _) (kA _) (kB _) ?_ | refine call_Words_spec (c := c) (kA _) (kB _) hcg ?_ | refine rule_Words_non (l := cWords c) hl rfl hw (cWords_u hcg) (kS _) (kT _) (by first | exact at0 | exact at1 | exact at2 | exact at3 | exact at4 | exact at5 | exact at6 | exact at7 | exact at8 | exact at9 | exact at10 | exact at11 | exact at12 | exact at13 | exact at14 | exact at15 | exact at16 | exact atX rfl) ?_ | refine state_Same_spec (s := s) (u := s) (kS _) (kT _) (kS _) (kT _) hlS hlT ?_) <;> try simp only [*, w8, kS, kT, stV, slotsO, thingsO, Nat.add_assoc, hss, hcg, hh, go_sem])
   | some u =>
    have hln := ruleM_lens (show (ruleM s th c).st = some u by rw [hr])
    have hlS : u.slots.length ≤ 1000 := by omega
    have hlT : u.things.length ≤ 1000 := by omega
    clear hln
    refine into ok8 ?_; (try simp only [c8, w8, kS, kT, stV, slotsO, thingsO, Nat.add_assoc, hss, hcg, hh, go_sem]); repeat' ((first | refine And.intro (.inr rfl) ?_ | (refine sp ?_ ?_ <;> intro hc) | refine awake21_spec ?_ | refine heavy21_spec (c := c) ?_ | refine call_Good_spec (c := c) (kA _) (kB _) ?_ | refine rule_Do_spec.som (c := c) hr (kS _) (kT _) (kA _) (kB _) ?_ | refine call_Words_spec (c := c) (kA _) (kB _) hcg ?_ | refine rule_Words_som (l := cWords c) hl rfl hw (cWords_u hcg) (kS _) (kT _) (by first | exact at0 | exact at1 | exact at2 | exact at3 | exact at4 | exact at5 | exact at6 | exact at7 | exact at8 | exact at9 | exact at10 | exact at11 | exact at12 | exact at13 | exact at14 | exact at15 | exact at16 | exact atX rfl) ?_ | refine state_Same_spec (s := u) (u := u) (by first | exact at0 | exact at1 | exact at2 | exact at3 | exact at4 | exact at5 | exact at6 | exact at7 | exact at8 | exact at9 | exact at10 | exact at11 | exact at12 | exact at13 | exact at14 | exact at15 | exact at16 | exact atX rfl) (by first | exact at0 | exact at1 | exact at2 | exact at3 | exact at4 | exact at5 | exact at6 | exact at7 | exact at8 | exact at9 | exact at10 | exact at11 | exact at12 | exact at13 | exact at14 | exact at15 | exact at16 | exact atX rfl) (by first | exact at0 | exact at1 | exact at2 | exact at3 | exact at4 | exact at5 | exact at6 | exact at7 | exact at8 | exact at9 | exact at10 | exact at11 | exact at12 | exact at13 | exact at14 | exact at15 | exact at16 | exact atX rfl) (by first | exact at0 | exact at1 | exact at2 | exact at3 | exact at4 | exact at5 | exact at6 | exact at7 | exact at8 | exact at9 | exact at10 | exact at11 | exact at12 | exact at13 | exact at14 | exact at15 | exact at16 | exact atX rfl) hlS hlT ?_) <;> try simp only [*, w8, kS, kT, stV, slotsO, thingsO, Nat.add_assoc, hss, hcg, hh, go_sem])
end Go.Proofs.YtlaipllgmddkiaaGreat.Ax

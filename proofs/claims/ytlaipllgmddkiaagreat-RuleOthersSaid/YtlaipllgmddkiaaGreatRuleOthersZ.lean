/- 'RuleOthers' is proved: the law returns true, whatever the arguments; these read behind the call as they did. Conditions: none. -/
import Derived.Test.YtlaipllgmddkiaaGreatRows
import Derived.Test.YtlaipllgmddkiaaGreatZLx
import Derived.Test.YtlaipllgmddkiaaGreatZRw
set_option linter.all false
namespace Go.Proofs.YtlaipllgmddkiaaGreat.ruleOthers
open Go Go.ChangeShapes Go.WideShapes Go.ChangeAt Go.RowKit Go.Ax
set_option maxRecDepth 1000000
theorem own : ownKnob Tryz.prog.godebug = none := by kernel_rfl
theorem lifted (os : Os) (started : os.Started) (H : Type) (enc : TypeId × Value → H) :
 ReturnsInHanded {} Tryz.checked os 9 .any (Rows.ruleOthersSpec.pre6 enc Tryz.prog Tryz.f9 Rows.ruleOthersRow.domain false) (Rows.ruleOthersSpec.post enc Tryz.prog Tryz.f9 false true false false) := by
 refine returnsInHanded_of_change (C := Tryz.checked) own started (by kernel_rfl) Tryz.func9
  (ChangeSpec.witness6 (enc := enc) (C := Tryz.checked) false ⟨#[], #[.slice none 0 0], []⟩ 12 (by kernel_rfl) (by kernel_rfl) (by kernel_rfl) (by kernel_rfl)) ?_
 intro W base args ds gs before hval0 hW hcnd _
 have hval : ∀ (j : Nat) t v, Tryz.f9.params[j]? = some t → args[j]? = some v → Value.okWide Tryz.prog W .any base t v := hval0
 have hW' := hW
 have hts : Tryz.f9.params.toList = [63] := by rw [Tryz.params9]
 refine (law_calls (k := 8) (ts := [63]) Ax.ruleOthers_law (by kernel_rfl) (fun j t v h1 h2 => hval j t v (by rw [Tryz.params9, ← Array.getElem?_toList]; exact h1) h2) (by rw [← hts]; exact hW)).mono fun e W' ⟨he, hb⟩ => ?_
 subst he
 obtain ⟨p, q, hA0, hV, rfl, hfz, hnd⟩ := hW
 have hA : DataW.TrodAll enc Tryz.prog W 0 (fun _ => true) true Tryz.f9.params.toList args.toList ds p := hA0
 rw [Tryz.params9] at hA
 obtain ⟨v0, vs0, d0, ds0, p0, q0, hargs, rfl, rfl, h0, r0⟩ := trodAll_cons hA
 obtain ⟨rfl, rfl, rfl⟩ := trodAll_nil r0
 exact ⟨_, rfl, law_post (by kernel_rfl) (by kernel_rfl) rfl Tryz.underlying4 rfl hW' (fun _ => rfl) hb⟩
set_option maxHeartbeats 400000000 in
theorem facts : joinedFacts Tryz.pinned.checked.prog 9 Tryz.f9 Rows.ruleOthersSpec Rows.ruleOthersRow = true := by
 unfold joinedFacts
 repeat' (with_reducible refine Bool.and_eq_true_iff.2 ⟨?_, ?_⟩)
 all_goals as_aux_lemma => kernel_rfl
theorem over : Rows.ruleOthersRow.holds Tryz.pinned (OpenSpec.ofChange Rows.ruleOthersSpec) :=
 OpenClaim.holds_of_wide 9 Tryz.f9 rfl rfl rfl rfl rfl rfl rfl ⟨rfl, rfl, rfl, rfl, rfl⟩ rfl rfl rfl rfl rfl (by kernel_rfl) Tryz.func9 facts
  (of_decide_eq_true (by kernel_rfl)) (by unfold Func.isWrapper; first | (rw [if_pos (by decide +kernel)]; kernel_rfl) | (rw [if_neg (by decide +kernel)]; exact ⟨rfl, rfl⟩))
  (fun os started H enc _ => lifted os started H enc)
theorem proved : Rows.RuleOthersSaid :=
 over
end Go.Proofs.YtlaipllgmddkiaaGreat.ruleOthers

/- 'NvmSure' is proved: the law returns true, whatever the arguments; these read behind the call as they did. Conditions: none. -/
import Derived.Test.YtfahkkefcdeohaaRows
import Derived.Test.YtfahkkefcdeohaaZLx
import Derived.Test.YtfahkkefcdeohaaZRw
set_option linter.unusedSimpArgs false
set_option linter.unusedVariables false
namespace Go.Proofs.Ytfahkkefcdeohaa.nvmSure
open Go Go.ChangeShapes Go.WideShapes Go.ChangeAt Go.RowKit Go.Ax
set_option maxRecDepth 1000000

theorem own : ownKnob Try.prog.godebug = none := by kernel_rfl

theorem lifted (os : Os) (started : os.Started) (H : Type) (enc : TypeId × Value → H) :
    ReturnsInHanded {} Try.checked os 5 .any (Rows.nvmSureSpec.pre6 enc Try.prog Try.f5 Rows.nvmSureRow.domain false) (Rows.nvmSureSpec.post enc Try.prog Try.f5 false true false false) := by
  refine returnsInHanded_of_change (C := Try.checked) own started (by kernel_rfl) Try.func5
    (ChangeSpec.witness6 (enc := enc) (C := Try.checked) false ⟨#[], #[.slice none 0 0, .slice none 0 0, .slice none 0 0], []⟩ 12 (by kernel_rfl) (by kernel_rfl) (by kernel_rfl) (by kernel_rfl)) ?_
  intro W base args ds gs before hval0 hW hcnd _
  have hval : ∀ (j : Nat) t v, Try.f5.params[j]? = some t → args[j]? = some v → Value.okWide Try.prog W .any base t v := hval0
  have hW' := hW
  have hts : Try.f5.params.toList = [35, 35, 40] := by rw [Try.params5]
  refine (law_calls (k := 8) (ts := [35, 35, 40]) Ax.nvmSure_law (by kernel_rfl) (fun j t v h1 h2 => hval j t v (by rw [Try.params5, ← Array.getElem?_toList]; exact h1) h2) (by rw [← hts]; exact hW)).mono fun e W' ⟨he, hb⟩ => ?_
  subst he
  obtain ⟨p, q, hA0, hV, rfl, hfz, hnd⟩ := hW
  have hA : DataW.TrodAll enc Try.prog W 0 (fun _ => true) true Try.f5.params.toList args.toList ds p := hA0
  rw [Try.params5] at hA
  obtain ⟨v0, vs0, d0, ds0, p0, q0, hargs, rfl, rfl, h0, r0⟩ := trodAll_cons hA
  obtain ⟨v1, vs1, d1, ds1, p1, q1, rfl, rfl, rfl, h1, r1⟩ := trodAll_cons r0
  obtain ⟨v2, vs2, d2, ds2, p2, q2, rfl, rfl, rfl, h2, r2⟩ := trodAll_cons r1
  obtain ⟨rfl, rfl, rfl⟩ := trodAll_nil r2
  exact ⟨_, rfl, law_post (by kernel_rfl) (by kernel_rfl) rfl Try.underlying4 rfl hW' (fun _ => rfl) hb⟩

set_option maxHeartbeats 400000000 in
theorem facts : joinedFacts Try.pinned.checked.prog 5 Try.f5 Rows.nvmSureSpec Rows.nvmSureRow = true := by
  unfold joinedFacts
  repeat' (with_reducible refine Bool.and_eq_true_iff.2 ⟨?_, ?_⟩)
  all_goals as_aux_lemma => kernel_rfl

theorem over : Rows.nvmSureRow.holds Try.pinned (OpenSpec.ofChange Rows.nvmSureSpec) :=
  OpenClaim.holds_of_wide 5 Try.f5 rfl rfl rfl rfl rfl rfl rfl ⟨rfl, rfl, rfl, rfl, rfl⟩ rfl rfl rfl rfl rfl (by kernel_rfl) Try.func5 facts
    (of_decide_eq_true (by kernel_rfl)) (by unfold Func.isWrapper; first | (rw [if_pos (by decide +kernel)]; kernel_rfl) | (rw [if_neg (by decide +kernel)]; exact ⟨rfl, rfl⟩))
    (fun os started H enc _ => lifted os started H enc)

theorem proved : Rows.NvmSureSaid :=
  over
end Go.Proofs.Ytfahkkefcdeohaa.nvmSure

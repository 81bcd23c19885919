/- 'NvmPlays' is proved: the law returns true, whatever the arguments; these read behind the call as they did. Conditions: none. -/
import Derived.Test.YtfahkkefcdeohaaRows
import Derived.Test.YtfahkkefcdeohaaZLx
import Derived.Test.YtfahkkefcdeohaaZRw
set_option linter.unusedSimpArgs false
set_option linter.unusedVariables false
namespace Go.Proofs.Ytfahkkefcdeohaa.nvmPlays
open Go Go.ChangeShapes Go.WideShapes Go.ChangeAt Go.RowKit Go.Ax
set_option maxRecDepth 1000000

theorem own : ownKnob Try.prog.godebug = none := by kernel_rfl

theorem lifted (os : Os) (started : os.Started) (H : Type) (enc : TypeId × Value → H) :
    ReturnsInHanded {} Try.checked os 7 .any (Rows.nvmPlaysSpec.pre6 enc Try.prog Try.f7 Rows.nvmPlaysRow.domain false) (Rows.nvmPlaysSpec.post enc Try.prog Try.f7 false true false false) := by
  refine returnsInHanded_of_change (C := Try.checked) own started (by kernel_rfl) Try.func7
    (ChangeSpec.witness6 (enc := enc) (C := Try.checked) false ⟨#[], #[.int .i64 0, .slice none 0 0], []⟩ 12 (by kernel_rfl) (by kernel_rfl) (by kernel_rfl) (by kernel_rfl)) ?_
  intro W base args ds gs before hval0 hW hcnd _
  have hval : ∀ (j : Nat) t v, Try.f7.params[j]? = some t → args[j]? = some v → Value.okWide Try.prog W .any base t v := hval0
  have hW' := hW
  have hts : Try.f7.params.toList = [3, 35] := by rw [Try.params7]
  refine (law_calls (k := 8) (ts := [3, 35]) Ax.nvmPlays_law (by kernel_rfl) (fun j t v h1 h2 => hval j t v (by rw [Try.params7, ← Array.getElem?_toList]; exact h1) h2) (by rw [← hts]; exact hW)).mono fun e W' ⟨he, hb⟩ => ?_
  subst he
  obtain ⟨p, q, hA0, hV, rfl, hfz, hnd⟩ := hW
  have hA : DataW.TrodAll enc Try.prog W 0 (fun _ => true) true Try.f7.params.toList args.toList ds p := hA0
  rw [Try.params7] at hA
  obtain ⟨v0, vs0, d0, ds0, p0, q0, hargs, rfl, rfl, h0, r0⟩ := trodAll_cons hA
  obtain ⟨v1, vs1, d1, ds1, p1, q1, rfl, rfl, rfl, h1, r1⟩ := trodAll_cons r0
  obtain ⟨rfl, rfl, rfl⟩ := trodAll_nil r1
  exact ⟨_, rfl, law_post (by kernel_rfl) (by kernel_rfl) rfl Try.underlying4 rfl hW' (fun _ => rfl) hb⟩

set_option maxHeartbeats 400000000 in
theorem facts : joinedFacts Try.pinned.checked.prog 7 Try.f7 Rows.nvmPlaysSpec Rows.nvmPlaysRow = true := by
  unfold joinedFacts
  repeat' (with_reducible refine Bool.and_eq_true_iff.2 ⟨?_, ?_⟩)
  all_goals as_aux_lemma => kernel_rfl

theorem over : Rows.nvmPlaysRow.holds Try.pinned (OpenSpec.ofChange Rows.nvmPlaysSpec) :=
  OpenClaim.holds_of_wide 7 Try.f7 rfl rfl rfl rfl rfl rfl rfl ⟨rfl, rfl, rfl, rfl, rfl⟩ rfl rfl rfl rfl rfl (by kernel_rfl) Try.func7 facts
    (of_decide_eq_true (by kernel_rfl)) (by unfold Func.isWrapper; first | (rw [if_pos (by decide +kernel)]; kernel_rfl) | (rw [if_neg (by decide +kernel)]; exact ⟨rfl, rfl⟩))
    (fun os started H enc _ => lifted os started H enc)

theorem proved : Rows.NvmPlaysSaid :=
  over
end Go.Proofs.Ytfahkkefcdeohaa.nvmPlays

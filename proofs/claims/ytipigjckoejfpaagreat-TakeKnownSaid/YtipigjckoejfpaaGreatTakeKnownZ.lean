/- 'TakeKnown' is proved: the law returns true, whatever the arguments; these read behind the call as they did. Conditions: none. -/
import Derived.Test.YtipigjckoejfpaaGreatRows
import Derived.Test.YtipigjckoejfpaaGreatZLx
import Derived.Test.YtipigjckoejfpaaGreatZRw
set_option linter.unusedSimpArgs false
set_option linter.unusedVariables false
namespace Go.Proofs.YtipigjckoejfpaaGreat.takeKnown
open Go Go.ChangeShapes Go.WideShapes Go.ChangeAt Go.RowKit Go.Ax
set_option maxRecDepth 1000000

theorem own : ownKnob Tryz.prog.godebug = none := by kernel_rfl

theorem lifted (os : Os) (started : os.Started) (H : Type) (enc : TypeId × Value → H) :
    ReturnsInHanded {} Tryz.checked os 16 .any (Rows.takeKnownSpec.pre6 enc Tryz.prog Tryz.f16 Rows.takeKnownRow.domain false) (Rows.takeKnownSpec.post enc Tryz.prog Tryz.f16 false true false false) := by
  refine returnsInHanded_of_change (C := Tryz.checked) own started (by kernel_rfl) Tryz.func16
    (ChangeSpec.witness6 (enc := enc) (C := Tryz.checked) false ⟨#[], #[], []⟩ 12 (by kernel_rfl) (by kernel_rfl) (by kernel_rfl) (by kernel_rfl)) ?_
  intro W base args ds gs before hval0 hW hcnd _
  have hval : ∀ (j : Nat) t v, Tryz.f16.params[j]? = some t → args[j]? = some v → Value.okWide Tryz.prog W .any base t v := hval0
  have hW' := hW
  have hts : Tryz.f16.params.toList = [] := by rw [Tryz.params16]
  refine (law_calls (k := 8) (ts := []) (fun H bs h => by obtain rfl := Ax.argShapes_nil h; exact Ax.takeKnown_law) (by kernel_rfl) (fun j t v h1 h2 => hval j t v (by rw [Tryz.params16, ← Array.getElem?_toList]; exact h1) h2) (by rw [← hts]; exact hW)).mono fun e W' ⟨he, hb⟩ => ?_
  subst he
  obtain ⟨p, q, hA0, hV, rfl, hfz, hnd⟩ := hW
  have hA : DataW.TrodAll enc Tryz.prog W 0 (fun _ => true) true Tryz.f16.params.toList args.toList ds p := hA0
  rw [Tryz.params16] at hA
  obtain ⟨hargs, rfl, rfl⟩ := trodAll_nil hA
  exact ⟨_, rfl, law_post (by kernel_rfl) (by kernel_rfl) rfl Tryz.underlying4 rfl hW' (fun _ => rfl) hb⟩

set_option maxHeartbeats 400000000 in
theorem facts : joinedFacts Tryz.pinned.checked.prog 16 Tryz.f16 Rows.takeKnownSpec Rows.takeKnownRow = true := by
  unfold joinedFacts
  repeat' (with_reducible refine Bool.and_eq_true_iff.2 ⟨?_, ?_⟩)
  all_goals as_aux_lemma => kernel_rfl

theorem over : Rows.takeKnownRow.holds Tryz.pinned (OpenSpec.ofChange Rows.takeKnownSpec) :=
  OpenClaim.holds_of_wide 16 Tryz.f16 rfl rfl rfl rfl rfl rfl rfl ⟨rfl, rfl, rfl, rfl, rfl⟩ rfl rfl rfl rfl rfl (by kernel_rfl) Tryz.func16 facts
    (of_decide_eq_true (by kernel_rfl)) (by unfold Func.isWrapper; first | (rw [if_pos (by decide +kernel)]; kernel_rfl) | (rw [if_neg (by decide +kernel)]; exact ⟨rfl, rfl⟩))
    (fun os started H enc _ => lifted os started H enc)

theorem proved : Rows.TakeKnownSaid :=
  over
end Go.Proofs.YtipigjckoejfpaaGreat.takeKnown

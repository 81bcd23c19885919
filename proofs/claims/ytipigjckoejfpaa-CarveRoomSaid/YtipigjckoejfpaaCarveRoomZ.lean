/- 'CarveRoom' is proved: the law returns true, whatever the arguments; these read behind the call as they did. Conditions: none. -/
import Derived.Test.YtipigjckoejfpaaRows
import Derived.Test.YtipigjckoejfpaaLCarveZ
import Derived.Test.YtipigjckoejfpaaAxLawZ
set_option linter.unusedSimpArgs false
set_option linter.unusedVariables false
namespace Go.Proofs.Ytipigjckoejfpaa.carveRoom
open Go Go.ChangeShapes Go.WideShapes Go.ChangeAt Go.RowKit Go.Ax
set_option linter.unusedVariables false
set_option maxRecDepth 1000000

theorem own : ownKnob Try.prog.godebug = none := by kernel_rfl

theorem lifted (os : Os) (started : os.Started) (H : Type) (enc : TypeId × Value → H) :
    ReturnsInHanded {} Try.checked os 6 .any (Rows.carveRoomSpec.pre6 enc Try.prog Try.f6 Rows.carveRoomRow.domain false) (Rows.carveRoomSpec.post enc Try.prog Try.f6 false true false false) := by
  refine returnsInHanded_of_change (C := Try.checked) own started (by kernel_rfl) Try.func6
    (ChangeSpec.witness6 (enc := enc) (C := Try.checked) false ⟨#[], #[.agg #[.int .i64 0, .int .i64 0, .int .i64 0, .slice none 0 0, .slice none 0 0], .int .i64 0, .agg #[.int .i64 0, .slice none 0 0, .slice none 0 0, .int .i64 0, .int .i64 0, .int .u64 0]], []⟩ 12 (by kernel_rfl) (by kernel_rfl) (by kernel_rfl) (by kernel_rfl)) ?_
  intro W base args ds gs before hval0 hW hcnd _
  have hval : ∀ (j : Nat) t v, Try.f6.params[j]? = some t → args[j]? = some v → Value.okWide Try.prog W .any base t v := hval0
  have hW' := hW
  have hts : Try.f6.params.toList = [27, 3, 35] := by rw [Try.params6]
  refine (law_calls (k := 8) (ts := [27, 3, 35]) Ax.carveRoom_law (by kernel_rfl) (fun j t v h1 h2 => hval j t v (by rw [Try.params6, ← Array.getElem?_toList]; exact h1) h2) (by rw [← hts]; exact hW)).mono fun e W' ⟨he, hb⟩ => ?_
  subst he
  obtain ⟨p, q, hA0, hV, rfl, hfz, hnd⟩ := hW
  have hA : DataW.TrodAll enc Try.prog W 0 (fun _ => true) true Try.f6.params.toList args.toList ds p := hA0
  rw [Try.params6] at hA
  obtain ⟨v0, vs0, d0, ds0, p0, q0, hargs, rfl, rfl, h0, r0⟩ := trodAll_cons hA
  obtain ⟨v1, vs1, d1, ds1, p1, q1, rfl, rfl, rfl, h1, r1⟩ := trodAll_cons r0
  obtain ⟨v2, vs2, d2, ds2, p2, q2, rfl, rfl, rfl, h2, r2⟩ := trodAll_cons r1
  obtain ⟨rfl, rfl, rfl⟩ := trodAll_nil r2
  exact ⟨_, rfl, law_post (by kernel_rfl) (by kernel_rfl) rfl Try.underlying4 rfl hW' (fun _ => rfl) hb⟩

theorem over : Rows.carveRoomRow.holds Try.pinned (OpenSpec.ofChange Rows.carveRoomSpec) :=
  OpenClaim.holds_of_wide 6 Try.f6 rfl rfl rfl rfl rfl rfl rfl ⟨rfl, rfl, rfl, rfl, rfl⟩ rfl rfl rfl rfl rfl (by kernel_rfl) Try.func6 (by kernel_rfl)
    (of_decide_eq_true (by kernel_rfl)) (by unfold Func.isWrapper; first | (rw [if_pos (by decide +kernel)]; kernel_rfl) | (rw [if_neg (by decide +kernel)]; exact ⟨rfl, rfl⟩))
    (fun os started H enc _ => lifted os started H enc)

theorem proved : Rows.CarveRoomSaid :=
  over
end Go.Proofs.Ytipigjckoejfpaa.carveRoom

/- 'WsetTwice' is proved: the law returns true, whatever the arguments; these read behind the call as they did. Conditions: none. -/
import Derived.Test.YtohgndhnndeijaaGreatRows
import Derived.Test.YtohgndhnndeijaaGreatZLx
set_option linter.all false
open Go.Proofs.Tryz renaming prog -> Qa
namespace Go.Proofs.YtohgndhnndeijaaGreat.wsetTwice
open Go Go.ChangeShapes Go.WideShapes Go.ChangeAt Go.RowKit Go.Ax
set_option maxRecDepth 1000000
theorem own:ownKnob Qa.godebug=none:=by kernel_rfl
theorem lifted(os:Os)(started:os.Started)(H:Type)(enc:TypeId×Value->H):
 ReturnsInHanded {} Tryz.checked os 5 .any (Rows.wsetTwiceSpec.pre6 enc Qa Tryz.f5 Rows.wsetTwiceRow.domain false) (Rows.wsetTwiceSpec.post enc Qa Tryz.f5 false true false false):=by
 refine returnsInHanded_of_change (C:=Tryz.checked) own started (by kernel_rfl) Tryz.func5
  (ChangeSpec.witness6 (enc:=enc) (C:=Tryz.checked) false ⟨#[],#[.agg #[.int .i64 0,.int .i64 0,.int .i64 0,.slice none 0 0,.slice none 0 0],.agg #[.int .i64 0,.int .i64 0,.int .i64 0,.slice none 0 0,.slice none 0 0],.int .u64 0],[]⟩ 12 (by kernel_rfl) (by kernel_rfl) (by kernel_rfl) (by kernel_rfl)) ?_
 intro W base args ds gs before hval0 hW hcnd _
 have hval:∀(j:Nat) t v,Tryz.f5.params[j]?=some t->args[j]?=some v->Value.okWide Qa W .any base t v:=hval0
 have hW':=hW
 have hts:Tryz.f5.params.toList=[27,27,42]:=by rw[Tryz.params5]
 refine(OA (k:=8) (ts:=[27,27,42]) Ax.iT (by kernel_rfl) (λj t v h1 h2=>hval j t v (by rw[Tryz.params5,<-Array.getElem?_toList];exact h1) h2) (by rw[<-hts];exact hW)).mono λe W' ⟨he,hb⟩=> ?_
 subst he
 obtain⟨p,q,hA0,hV,rfl,hfz,hnd⟩:=hW
 have hA:DataW.TrodAll enc Qa W 0 (λ_=>true) true Tryz.f5.params.toList args.toList ds p:=hA0
 rw[Tryz.params5]at hA
 obtain⟨v0,vs0,d0,ds0,p0,q0,hargs,rfl,rfl,h0,r0⟩:=trodAll_cons hA
 obtain⟨v1,vs1,d1,ds1,p1,q1,rfl,rfl,rfl,h1,r1⟩:=trodAll_cons r0
 obtain⟨v2,vs2,d2,ds2,p2,q2,rfl,rfl,rfl,h2,r2⟩:=trodAll_cons r1
 obtain⟨rfl,rfl,rfl⟩:=trodAll_nil r2
 exact⟨_,rfl,RD (by kernel_rfl) (by kernel_rfl) rfl Tryz.underlying4 rfl hW' (λ_=>rfl) hb⟩
set_option maxHeartbeats 400000000 in
theorem facts:joinedFacts Tryz.pinned.checked.prog 5 Tryz.f5 Rows.wsetTwiceSpec Rows.wsetTwiceRow=true:=by
 unfold joinedFacts
 repeat' (with_reducible refine Bool.and_eq_true_iff.2 ⟨?_,?_⟩)
 all_goals as_aux_lemma=>kernel_rfl
theorem Wg:Rows.wsetTwiceRow.holds Tryz.pinned (OpenSpec.ofChange Rows.wsetTwiceSpec):=
 OpenClaim.holds_of_wide 5 Tryz.f5 rfl rfl rfl rfl rfl rfl rfl ⟨rfl,rfl,rfl,rfl,rfl⟩ rfl rfl rfl rfl rfl (by kernel_rfl) Tryz.func5 facts
  (of_decide_eq_true (by kernel_rfl)) (by unfold Func.isWrapper;first|(rw[if_pos (by decide+kernel)];kernel_rfl)|(rw[if_neg (by decide+kernel)];exact⟨rfl,rfl⟩))
  (λos started H enc _=>lifted os started H enc)
theorem proved:Rows.WsetTwiceSaid:=
 Wg
end Go.Proofs.YtohgndhnndeijaaGreat.wsetTwice

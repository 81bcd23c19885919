/- 'WsetKnown' is proved: the law returns true, whatever the arguments; these read behind the call as they did. Conditions: none. -/
import Derived.Test.YtohgndhnndeijaaGreatRows
import Derived.Test.YtohgndhnndeijaaGreatZLx
set_option linter.all false
open Go.Proofs.Tryz renaming prog -> Qa
namespace Go.Proofs.YtohgndhnndeijaaGreat.wsetKnown
open Go Go.ChangeShapes Go.WideShapes Go.ChangeAt Go.RowKit Go.Ax
set_option maxRecDepth 1000000
theorem own:ownKnob Qa.godebug=none:=by kernel_rfl
theorem lifted(os:Os)(started:os.Started)(H:Type)(enc:TypeId×Value->H):
 ReturnsInHanded {} Tryz.checked os 6 .any (Rows.wsetKnownSpec.pre6 enc Qa Tryz.f6 Rows.wsetKnownRow.domain false) (Rows.wsetKnownSpec.post enc Qa Tryz.f6 false true false false):=by
 refine returnsInHanded_of_change (C:=Tryz.checked) own started (by kernel_rfl) Tryz.func6
  (ChangeSpec.witness6 (enc:=enc) (C:=Tryz.checked) false ⟨#[],#[],[]⟩ 12 (by kernel_rfl) (by kernel_rfl) (by kernel_rfl) (by kernel_rfl)) ?_
 intro W base args ds gs before hval0 hW hcnd _
 have hval:∀(j:Nat) t v,Tryz.f6.params[j]?=some t->args[j]?=some v->Value.okWide Qa W .any base t v:=hval0
 have hW':=hW
 have hts:Tryz.f6.params.toList=[]:=by rw[Tryz.params6]
 refine(OA (k:=8) (ts:=[]) (λH bs h=>by obtain rfl:=Ax.Fu h;exact Ax.wsetKnown_law) (by kernel_rfl) (λj t v h1 h2=>hval j t v (by rw[Tryz.params6,<-Array.getElem?_toList];exact h1) h2) (by rw[<-hts];exact hW)).mono λe W' ⟨he,hb⟩=> ?_
 subst he
 obtain⟨p,q,hA0,hV,rfl,hfz,hnd⟩:=hW
 have hA:DataW.TrodAll enc Qa W 0 (λ_=>true) true Tryz.f6.params.toList args.toList ds p:=hA0
 rw[Tryz.params6]at hA
 obtain⟨hargs,rfl,rfl⟩:=trodAll_nil hA
 exact⟨_,rfl,RD (by kernel_rfl) (by kernel_rfl) rfl Tryz.underlying4 rfl hW' (λ_=>rfl) hb⟩
set_option maxHeartbeats 400000000 in
theorem facts:joinedFacts Tryz.pinned.checked.prog 6 Tryz.f6 Rows.wsetKnownSpec Rows.wsetKnownRow=true:=by
 unfold joinedFacts
 repeat' (with_reducible refine Bool.and_eq_true_iff.2 ⟨?_,?_⟩)
 all_goals as_aux_lemma=>kernel_rfl
theorem Wg:Rows.wsetKnownRow.holds Tryz.pinned (OpenSpec.ofChange Rows.wsetKnownSpec):=
 OpenClaim.holds_of_wide 6 Tryz.f6 rfl rfl rfl rfl rfl rfl rfl ⟨rfl,rfl,rfl,rfl,rfl⟩ rfl rfl rfl rfl rfl (by kernel_rfl) Tryz.func6 facts
  (of_decide_eq_true (by kernel_rfl)) (by unfold Func.isWrapper;first|(rw[if_pos (by decide+kernel)];kernel_rfl)|(rw[if_neg (by decide+kernel)];exact⟨rfl,rfl⟩))
  (λos started H enc _=>lifted os started H enc)
theorem proved:Rows.WsetKnownSaid:=
 Wg
end Go.Proofs.YtohgndhnndeijaaGreat.wsetKnown

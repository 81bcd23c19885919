/- Texts put behind one another: LWKnown. Conditions: none. -/
import Derived.Test.YtohgndhnndeijaaGreatZIm
import Derived.Test.YtohgndhnndeijaaGreatSNewXZ
import Derived.Test.YtohgndhnndeijaaGreatZSa
set_option linter.all false
set_option maxHeartbeats 9999999
open Go.Proofs.Tryz renaming prog -> Qa
namespace Go.Ax.M
open Go Go.Ax
theorem ko_ok:pk ⟨1,8,3⟩ 64=true:=by kernel_rfl
theorem gz:Ee ⟨0,0,0⟩=false:=by kernel_rfl
theorem pg:Ee ⟨2,32,16⟩=true:=by kernel_rfl
theorem rows5:rowsL [(17,0),(3,0),(-4,0),(23,0),(0,0)]=[2,0,2,0]:=by decide
theorem sort4:F6 [2,0,2,0]=[0,0,2,2]:=by simp[F6,List.mergeSort,List.MergeSort.Internal.splitInTwo,List.merge]
theorem comp4:v7 [0,0,2,2]=[0,2]:=by kernel_rfl
end Go.Ax.M
namespace Go.Proofs.YtohgndhnndeijaaGreat.Ax
open Go Go.Ax Go.Ax.M
set_option maxRecDepth 100000
section
variable {H:AP}{K:AH->AP->Prop}{o o' oS oT:Nat}{ro ro' rS rT f f' fS fT:Bool}{x y z:Int}
theorem plain_spec(h:K (.agg [nS 2,nS 32,nS 16]) H):AF Qa 27 [] H K:=by
 refine AF.tidy ?_
 refine Aa ok27 ?_;repeat' first|simp only[*,go_sem]|apply orR|(apply sp<;>intro hc)|fail
 all_goals first|exact⟨rfl,⟨_,rfl⟩,h⟩|exact⟨rfl,⟨_,rfl⟩⟩|exact⟨rfl,[],(List.append_nil _).symm⟩|exact tv h (by first|exact⟨_,rfl⟩|exact⟨[],(List.append_nil _).symm⟩|exact hx|exact hx.app _) ⟨rfl,rfl⟩
theorem good_zero(hK:K (.bool false) H):AF Qa 64 [.agg [nS 0,nS 0,nS 0,.lit (.slice none 0 0),.lit (.slice none 0 0)]] H K:=by
 refine AF.tidy ?_
 refine Aa ok64 ?_;repeat' first|simp only[*,gz,go_sem]|apply orR|(apply sp<;>intro hc)|refine WN ?_
 all_goals first|exact⟨rfl,⟨_,rfl⟩,hK⟩|exact⟨rfl,⟨_,rfl⟩⟩
theorem put_zero(hK:K (.lit (.slice none 0 0)) H):AF Qa 23 [.agg [nS 0,nS 0,nS 0,.lit (.slice none 0 0),.lit (.slice none 0 0)],nT 0] H K:=by
 refine AF.tidy ?_
 refine Aa ok23 ?_;repeat' first|simp only[*,go_sem]|apply orR|(apply sp<;>intro hc)|refine good_zero ?_
 all_goals first|exact⟨rfl,⟨_,rfl⟩,hK⟩|exact⟨rfl,⟨_,rfl⟩⟩
theorem of_zero(hS:jI H oS S0 rS)(hT:jU H oT S0 rT)(hK:K (.Bj [.lit (.slice none 0 0),nS 1]) H):
 AF Qa 21 [stA S0 oS oT fS fT,.agg [nS 0,nS 0,nS 0,.lit (.slice none 0 0),.lit (.slice none 0 0)]] H K:=by
 have kS:=AL.of hS
 have kT:=AL.of hT
 have hI:=D8.1 s0_good
 obtain⟨n,en⟩:∃n,nC S0+8=n:=⟨_,rfl⟩
 have n1:(n=0)=False:=eq_false (by omega)
 have n2:((n:Int)=0)=False:=eq_false (by omega)
 have enH:Hid (nC S0+8=n):=en
 have b1:(0:Int)<2^64:=by decide
 clear en
 refine AF.gc ?_
 refine Aa ok21 ?_;repeat' first|simp only[*,go_sem]|apply orR|(apply sp<;>intro hc)|refine put_zero ?_|refine G2 enH (kS _) (kT _) hI (Int.le_refl _) b1 ?_
 all_goals exact Gc.Cd (by simp[AH.refs,Ay]) hK
theorem of_other{oS2 oT2:Nat}{rS2 rT2 fS2 fT2:Bool}(hS:jI H oS S0 rS)(hT:jU H oT S0 rT)
 (hS2:H[oS2]?=some (.AU 5 ((pI ⟨1,8,3⟩ 64).AE.map Slot.cells) rS2)) (cT:H[oT2]?=some (.AU 13 ((pI ⟨1,8,3⟩ 64).AB.map AN.cells) rT2)) (hK:K (.Bj [.lit (.slice none 0 0),nS 1]) H):
 AF Qa 21 [stA S0 oS oT fS fT,.agg [nS (pI ⟨1,8,3⟩ 64).AS.AI,nS (pI ⟨1,8,3⟩ 64).AS.AE,nS (pI ⟨1,8,3⟩ 64).AS.AB,.slice oS2 (pI ⟨1,8,3⟩ 64).AE.length 0 (pI ⟨1,8,3⟩ 64).AE.length fS2,.slice oT2 (pI ⟨1,8,3⟩ 64).AB.length 0 (pI ⟨1,8,3⟩ 64).AB.length fT2]] H K:=
 u3 hS hT hS2 cT (λ_ _ e=>by have:=congrArg SY.AE e;exact absurd this (by decide)) hK
theorem good1(ho:H[o]?=some (.AU 2 [[nS x,nT 0]] ro))(hK:K (.bool (vw ⟨2,32,16⟩ [(x,0)])) H):
 AF Qa 30 [.agg [nS 2,nS 32,nS 16],.slice o 1 0 1 f] H K:=wset_Good_spec (g:=⟨2,32,16⟩) (w:=[(x,0)]) rfl ho (by decide) hK
theorem good2(ho:H[o]?=some (.AU 2 [[nS x,nT 0],[nS y,nT 0]] ro))(hK:K (.bool (vw ⟨2,32,16⟩ [(x,0),(y,0)])) H):
 AF Qa 30 [.agg [nS 2,nS 32,nS 16],.slice o 2 0 2 f] H K:=wset_Good_spec (g:=⟨2,32,16⟩) (w:=[(x,0),(y,0)]) rfl ho (by decide) hK
theorem good3(ho:H[o]?=some (.AU 2 [[nS x,nT 0],[nS y,nT 0],[nS z,nT 0]] ro))(hK:K (.bool (vw ⟨2,32,16⟩ [(x,0),(y,0),(z,0)])) H):
 AF Qa 30 [.agg [nS 2,nS 32,nS 16],.slice o 3 0 3 f] H K:=wset_Good_spec (g:=⟨2,32,16⟩) (w:=[(x,0),(y,0),(z,0)]) rfl ho (by decide) hK
theorem good0(hK:K (.bool (vw ⟨x,y,z⟩ [])) H):AF Qa 30 [.agg [nS x,nS y,nS z],.lit (.slice none 0 0)] H K:=by
 refine AF.tidy (AF.lay 2 ?_)
 simp only[Go.Ax.D9,Go.Ax.E9,go_sem]
 exact wset_Good_spec (g:=⟨x,y,z⟩) (w:=[]) rfl BH (by decide) ⟨rfl,⟨_,rfl⟩,hK⟩
theorem do3(ho:H[o]?=some (.AU 1 [[nT 0],[nT 1],[nT 2]] ro))(ho':H[o']?=some (.AU 2 [[nS 1,nT 5],[nS (-1),nT 6],[nS 99,nT 7]] ro'))
 (hK:K (.slice H.length 3 0 3 false) (H++[.AU 1 [[nT 0],[nT 5],[nT 2]] false])):AF Qa 22 [.slice o 3 0 3 f,.slice o' 3 0 3 f'] H K:=
 cM (l:=[0,1,2]) (w:=[(1,5),(-1,6),(99,7)]) rfl rfl ho ho' (by decide) (by decide) (by decide) hK
theorem words3(ho:H[o]?=some (.AU 1 [[nT 0],[nT 5],[nT 2]] ro))(ho':H[o']?=some (.AU 1 [[nT 0],[nT 5],[nT 2]] ro'))(hK:K (.bool true) H):
 AF Qa 24 [.slice o 3 0 3 f,.slice o' 3 0 3 f'] H K:=eR (l:=[0,5,2]) rfl ho ho' (by decide) hK
theorem rowsK(ho:H[o]?=some (.AU 2 [[nS 17,nT 0],[nS 3,nT 0],[nS (-4),nT 0],[nS 23,nT 0],[nS 0,nT 0]] ro))
 (hK:K (.slice H.length 4 0 2 false) (H++[.AU 1 [[nS 0],[nS 2],[nS 0],[nS 0]] false])):AF Qa 33 [.slice o 5 0 5 f] H K:=by
 refine wset_Rows_spec (w:=[(17,0),(3,0),(-4,0),(23,0),(0,0)]) rfl ho (by decide) (by decide) (by rw[rows5];decide) (by rw[rows5,sort4,comp4];decide) ?_
 rw[rows5,sort4,comp4];exact hK
theorem ints2(ho:H[o]?=some (.AU 1 [[nS 0],[nS 2],[nS 0],[nS 0]] ro))(ho':H[o']?=some (.AU 1 [[nS 0],[nS 2]] ro'))(hK:K (.bool true) H):
 AF Qa 32 [.slice o 4 0 2 f,.slice o' 2 0 2 f'] H K:=by
 have k:=(AL.of ho).at
 have k':=(AL.of ho').at
 have w1:IntKind.wrap .i64 1=1:=by decide
 have w2:IntKind.wrap .i64 2=2:=by decide
 have l0:((0:Int)<2)=True:=eq_true (by decide)
 have l1:((1:Int)<2)=True:=eq_true (by decide)
 have l2:((2:Int)<2)=False:=eq_false (by decide)
 refine Aa ok32 ?_;repeat' first|simp only[*,go_sem]|apply orR|(apply sp<;>intro hc)|fail
 refine AK.Az [5,0,1] ?_;simp only[mpC,go_sem]
 refine AK.unfold ?_
 repeat' first|simp only[*,AA b32_3.eq_1,go_sem]|apply orR|(apply sp<;>intro hc)|fail
 refine AK.unfold ?_
 repeat' first|simp only[*,AA b32_3.eq_1,go_sem]|apply orR|(apply sp<;>intro hc)|fail
 refine AK.unfold ?_
 repeat' first|simp only[*,AA b32_3.eq_1,go_sem]|apply orR|(apply sp<;>intro hc)|fail
 all_goals exact hK
theorem pSlot(hK:K (nS 2432) H):AF Qa 28 [.agg [nS 2,nS 32,nS 16],nS 0] H K:=slotZ_at (g:=⟨2,32,16⟩) pg hK
theorem pThing(hK:K (nS 2496) H):AF Qa 29 [.agg [nS 2,nS 32,nS 16],nS 0] H K:=m5 (g:=⟨2,32,16⟩) pg (BX.2 ⟨by decide,by decide⟩) hK
theorem pCopy(hK:K (nS 2624) H):AF Qa 31 [.agg [nS 2,nS 32,nS 16]] H K:=kP (g:=⟨2,32,16⟩) pg hK
theorem other_spec(hK:K (.Bj [BT (pI ⟨1,8,3⟩ 64) H.length (H.length+1) true true,nS 0]) (H++[AM (pI ⟨1,8,3⟩ 64),AJ (pI ⟨1,8,3⟩ 64)])):AF Qa 16 [.agg [nS 1,nS 8,nS 3],nS 64] H K:=
 sm (g:=⟨1,8,3⟩) (room:=64) (λe=>absurd (ko_ok.symm.trans e) (by decide)) (λ_=>hK)
theorem s0_get:(S0.AB.map AN.cells)[0]?=some [nS 1,nS 0,nS 0,nS 64,nS 0,nS 0,nS 0,.bool false,nT 0,nT 0,nT 0,nT 0,nT 0]:=by kernel_rfl
theorem s0_len:S0.AB.length=16:=by kernel_rfl
theorem wsetKnown_law:AF Qa 6 [] H λv _=>v= .bool true:=by
 have g1:vw ⟨2,32,16⟩ [(2432,0),(2433,0),(2503,0)]=true:=by kernel_rfl
 have g2:vw ⟨2,32,16⟩ [(2431,0)]=false:=by kernel_rfl
 have g3:vw ⟨2,32,16⟩ [(2624,0)]=false:=by kernel_rfl
 have g4:vw ⟨2,32,16⟩ [(2432,0),(2432,0)]=false:=by kernel_rfl
 have g5:vw ⟨0,0,0⟩ []=false:=by kernel_rfl
 have g6:vw ⟨2,32,16⟩ []=true:=by kernel_rfl
 have v1:IntKind.wrap .i64 2433=2433:=by decide
 have v2:IntKind.wrap .i64 2503=2503:=by decide
 have v3:IntKind.wrap .i64 (2432-1)=2431:=by decide
 have sg:=s0_get
 have p0:((0:Int)<(S0.AB.length:Int))=True:=eq_true (by rw[s0_len];decide)
 have p0':(0<S0.AB.length)=True:=eq_true (by rw[s0_len];decide)
 refine Aa ok6 ?_;repeat' first|simp only[*,BT,AM,AJ,Nat.add_assoc,go_sem]|apply orR|(apply sp<;>intro hc)|refine cG ?_|refine me ?_|refine of_zero (by first|exact BH|exact Bb rfl) (by first|exact BH|exact Bb rfl) ?_|refine other_spec ?_|refine of_other (by first|exact BH|exact Bb rfl) (by first|exact BH|exact Bb rfl) (by first|exact BH|exact Bb rfl) (by first|exact BH|exact Bb rfl) ?_|refine plain_spec ?_|refine pSlot ?_|refine pThing ?_|refine pCopy ?_|refine do3 (by first|exact BH|exact Bb rfl) (by first|exact BH|exact Bb rfl) ?_|refine words3 (by first|exact BH|exact Bb rfl) (by first|exact BH|exact Bb rfl) ?_|refine good3 (by first|exact BH|exact Bb rfl) ?_|refine good1 (by first|exact BH|exact Bb rfl) ?_|refine good2 (by first|exact BH|exact Bb rfl) ?_|refine good0 ?_|refine rowsK (by first|exact BH|exact Bb rfl) ?_|refine ints2 (by first|exact BH|exact Bb rfl) (by first|exact BH|exact Bb rfl) ?_
 all_goals trace_state
end
end Go.Proofs.YtohgndhnndeijaaGreat.Ax

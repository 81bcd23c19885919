/- The laws of chapter 20: states and calls as the document's own, replies alike. Conditions: none. Printed by gen_own.py. -/
import Derived.Test.YtlaipllgmddkiaaGreatSLawB20Z
import Derived.Test.YtlaipllgmddkiaaGreatZSt
set_option linter.all false
open List renaming getElem?_append_right → Qa, set_append_right → Qc, getElem?_eq_none → Qd, length_take → Qe, take_length → Qf, length_map → Qg, map_append → Qh
open Bool renaming or_self → Qb
namespace Go.Proofs.YtlaipllgmddkiaaGreat.Ax
open Go Go.Ax Go.Ax.M
theorem W4{H G0 G2:AP}{a b c d x y:Au}:(H++a::b::c::d::(G0++x::G2)).set (H.length+4+G0.length) y=H++a::b::c::d::(G0++y::G2):=by
 rw[Qc _ _ (by omega),show H.length+4+G0.length-H.length=G0.length+4 by omega]
 simp[Qc]
theorem WU{H G0 G2:AP}{a b c d x:Au}:(H++a::b::c::d::(G0++x::G2))[H.length+4+G0.length]?=some x:=by
 rw[Qa (by omega),show H.length+4+G0.length-H.length=G0.length+4 by omega]
 simp[Qa]
theorem UX{s:State}{k:Nat}(h:k<s.AB.length):s.AB.take (k+1)=s.AB.take k++[s.AG k]:=by
 rw[List.take_succ_eq_append_getElem h];simp[State.AG,List.getD,h]
section
variable {H:AP}{K:AH→AP→Prop}{s:State}{oS oT:Nat}{fS fT rS rT:Bool}
section
variable {x0 x1 x2 x3 x4 x5 x6:Int}{x7:Bool}{x8 x9 x10 x11 x12:Int}
theorem Vz(h:K (.agg [.int .i64 x0,.int .i64 x1,.int .i64 x2,.int .i64 x3,.int .i64 x4,.int .i64 x5,.int .i64 x6,.bool x7,.int .u64 x8,.int .u64 x9,.int .u64 x10,.int .u64 x11,.int .u64 x12]) H):AF Tryz.prog 113 [.agg [.int .i64 x0,.int .i64 x1,.int .i64 x2,.int .i64 x3,.int .i64 x4,.int .i64 x5,.int .i64 x6,.bool x7,.int .u64 x8,.int .u64 x9,.int .u64 x10,.int .u64 x11,.int .u64 x12]] H K:=by
 refine AF.tidy ?_
 refine Aa ok113 ?_;(try simp only[c113,AA k113_0.eq_1,go_sem]);repeat' ((first|refine orR ?_|(refine sp ?_ ?_<;>intro hc)|fail)<;>try simp only[*,AA k113_0.eq_1,go_sem])
 all_goals exact⟨by simp[AH.plain,Ah],⟨_,rfl⟩,h⟩
end
theorem Jc{op x y w:Int}{nA nB oA oB:Nat}{fA fB:Bool}(hA:oA<H.length)(hB:oB<H.length)(h:K (.agg [.int .i64 op,.slice oA nA 0 nA fA,.slice oB nB 0 nB fB,.int .i64 x,.int .i64 y,.int .u64 w]) H):
 AF Tryz.prog 46 [.agg [.int .i64 op,.slice oA nA 0 nA fA,.slice oB nB 0 nB fB,.int .i64 x,.int .i64 y,.int .u64 w]] H K:=by
 refine AF.gc ?_
 refine Aa ok46 ?_;(try simp only[c46,AA k46_0.eq_1,go_sem]);repeat' ((first|refine orR ?_|(refine sp ?_ ?_<;>intro hc)|fail)<;>try simp only[*,AA k46_0.eq_1,go_sem])
 exact Gc.Cd (by simp[AH.refs,Ay];exact⟨hA,hB⟩) h
theorem KU{a b c d e f:Int}(h:K (.bool (decide (a=d)&&(decide (b=e)&&decide (c=f)))) H):AF Tryz.prog 47 [.agg [.int .i64 a,.int .u64 b,.int .i64 c],.agg [.int .i64 d,.int .u64 e,.int .i64 f]] H K:=by
 refine AF.tidy ?_
 refine Aa ok47 ?_;(try simp only[c47,AA k47_0.eq_1,go_sem]);repeat' ((first|refine orR ?_|(refine sp ?_ ?_<;>intro hc)|fail)<;>try simp only[*,AA k47_0.eq_1,go_sem])
 all_goals (refine tb h (by first|exact⟨_,rfl⟩|exact⟨[],(List.append_nil _).symm⟩|exact hx|exact hx.app _) ?_;first|(simp only[Qb, *,bs,go_sem];done)|(simp_all[Qb];done)|(simp_all[Qb];omega)|grind[Qb])
theorem IC(hlS:s.AE.length≤1000)(hlT:s.AB.length≤1000)(hS:H[oS]?=some (.AU 5 (s.AE.map Slot.cells) rS))(hT:H[oT]?=some (.AU 13 (s.AB.map AN.cells) rT))
 (h:K (BT s H.length (H.length+1) false false) (H++[AM s,AJ s])):AF Tryz.prog 45 [stA s oS oT fS fT] H K:=by
 have kSH:=AL.of hS
 have kTH:=AL.of hT
 refine AF.gc ?_
 refine Aa ok45 ?_;(try simp only[c45,w45,kSH,kTH,go_sem]);repeat' ((first|refine orR ?_|(refine sp ?_ ?_<;>intro hc)|fail)<;>try simp only[*,w45,go_sem])
 refine AK.Az [4,1,2,3] ?_;simp only[mpC,go_sem]
 refine AK.Kg (i:=H.length+2) 5 [.int .i64 s.AS.AI,.int .i64 s.AS.AE,.int .i64 s.AS.AB,.slice (H.length+3) 0 0 0 false,.lit (.slice none 0 0)] BO rfl rfl (fun j a b ha hb=> ?_) ?_
 ·rcases(by omega:j=0∨j=1∨j=2∨j=3∨j=4∨5≤j)with rfl|rfl|rfl|rfl|rfl|hj
  all_goals first|(simp at ha hb;subst ha hb;first|exact .inl rfl|exact .inr ⟨rfl,by simp⟩)|(rw[Qd (by simpa using hj)]at ha;cases ha)
 simp only[go_sem]
 refine AK.acc (fun k G=>[(4,.int .i64 (k:Int))]) (fun k G=>H++_::_:: .AU 5 [[.int .i64 s.AS.AI,.int .i64 s.AS.AE,.int .i64 s.AS.AB,.slice (H.length+3) k 0 k false,.lit (.slice none 0 0)]] false:: .AU 5 ((s.AE.take k).map Slot.cells) false::G) (fun k G=>True) s.AE.length ?_ (a0:=[]) trivial
 intro k G hk _ next
 refine AK.Jn fun W hW=> ?_
 have kS:=kSH.ex hW.ex
 have kst:=hW.EQ
 have kr:=hW.Hy
 have ko:=hW.NS
 have kS0:=kS.at
 have kst0:=kst.at
 have kr0:=kr.at
 have ko0:=ko.at
 have krs:=kr.Eu
 have krS:=kr.set
 have krf:=kr.FV
 have kos:=ko.set
 have kfo:=kr.other (i:=H.length+3) (by omega)
 have kfs:=@AL.OR _ _ (H.length+3) _ kr
 have kSo:=kS.other (i:=H.length+3) (by have:=Am hS;omega)
 have kto:=kst.other (i:=H.length+3) (by omega)
 have kS2:=fun x=>AL.other (W:=W.set (H.length+3) x) (i:=H.length+2) (fun L=>kSo x L) (by have:=Am hS;omega)
 have kt2:=fun x=>AL.other (W:=W.set (H.length+3) x) (i:=H.length+2) (fun L=>kto x L) (by omega)
 have kf2:=fun x=>AL.FV (W:=W.set (H.length+3) x) (fun L=>kfo x L)
 have kos2:=ko.FV
 have ko2:=fun x=>AL.other (W:=W.set (H.length+3) x) (i:=H.length+2) (fun L=>kos2 x L) (by omega)
 have g0:∀(x y a:Au) (L:AP),(((W.set (H.length+3) x).set (H.length+2) y)++a::L)[W.length]?=some a:=fun x y a L=>by rw[Qa (by simp)];simp
 have g1:∀(x y a b:Au) (L:AP),(((W.set (H.length+3) x).set (H.length+2) y)++a::b::L)[W.length+1]?=some b:=fun x y a b L=>by rw[Qa (by simp)];simp
 have hl:((s.AE.take k).map Slot.cells).length=k:=by rw[Qg,Qe];omega
 have hb:(k+1)* 40≤140737488355328:=by omega
 refine AK.unfold ?_
 have hw:=AY (k:=k) (by omega)
 have hg:k<s.AE.length→_:=fun h=>A4 (s:=s) (k:=k) h
 (try simp only[w45,hg,hw,hl,hb,kS,kst,kr,ko,kS0,kst0,kr0,ko0,kos,kfo,kfs,kSo,kto,kS2,kt2,kf2,kos2,ko2,g0,g1,krs,krS,krf,AA b45_2.eq_1,AR,AX,apC,go_sem]);repeat' ((first|refine orR ?_|(refine sp ?_ ?_<;>intro hc)|fail)<;>try simp only[*,w45,AA b45_2.eq_1,AR,AX,apC,go_sem])
 case' refine_2.refine_1=>
  have hW:W=_:=hW
  subst hW
  have e:(s.AE.take (k+1)).map Slot.cells=(s.AE.take k).map Slot.cells++[(s.slot k).cells]:=by rw[Fk (by assumption),Qh];rfl
  simp only[e,Slot.cells,go_sem]at next
  (refine AK.Az [4,1,2,3] ?_;simp only[mpC,go_sem];refine next _ (by assumption))
 have hk':k=s.AE.length:=by omega
 subst hk'
 rw[Qf]at hW
 have hW:W=_:=hW
 clear next hw hg hl hb kS kst kr ko kS0 kst0 ko0 kos kfo kfs kSo kto kS2 kt2 kf2 kos2 ko2 g0 g1 krs krS krf
 have hWl:W.length=H.length+4+G.length:=by rw[hW];simp;omega
 refine AK.Az [6,1,2,3] ?_;simp only[mpC,go_sem]
 refine AK.Kg (i:=H.length+2) 13 [.int .i64 s.AS.AI,.int .i64 s.AS.AE,.int .i64 s.AS.AB,.slice (H.length+3) s.AE.length 0 s.AE.length false,.slice (H.length+4+G.length) 0 0 0 false] kr0 rfl rfl (fun j a b ha hb=> ?_) ?_
 ·rcases(by omega:j=0∨j=1∨j=2∨j=3∨j=4∨5≤j)with rfl|rfl|rfl|rfl|rfl|hj
  all_goals first|(simp at ha hb;subst ha hb;first|exact .inl rfl|exact .inr ⟨rfl,by rw[hWl]⟩)|(rw[Qd (by simpa using hj)]at ha;cases ha)
 clear kr0
 rw[hW]
 simp only[go_sem]
 refine AK.acc (fun k G2=>[(6,.int .i64 (k:Int))]) (fun k G2=>H++_::_:: .AU 5 [[.int .i64 s.AS.AI,.int .i64 s.AS.AE,.int .i64 s.AS.AB,.slice (H.length+3) s.AE.length 0 s.AE.length false,.slice (H.length+4+G.length) k 0 k false]] false:: .AU 5 (s.AE.map Slot.cells) false::(G++ .AU 13 ((s.AB.take k).map AN.cells) false::G2)) (fun k G2=>True) s.AB.length ?_ (a0:=[]) trivial
 intro k G2 hk _ next
 refine AK.Jn fun W hW=> ?_
 have kT:=kTH.ex hW.ex
 have kst:=hW.EQ
 have kr:=hW.Hy
 have kq:=hW.Hx
 have kq0:=kq.at
 have kqs:=kq.Eu
 have kqS:=kq.set
 have ko:AL W (H.length+4+G.length) (.AU 13 ((s.AB.take k).map AN.cells) false):=by
  have h:W=_:=hW;rw[h];exact .of WU
 have kT0:=kT.at
 have kst0:=kst.at
 have kr0:=kr.at
 have ko0:=ko.at
 have krs:=kr.Eu
 have krS:=kr.set
 have krf:=kr.FV
 have kos:=ko.set
 have kfo:=kr.other (i:=H.length+4+G.length) (by omega)
 have kfs:=@AL.OR _ _ (H.length+4+G.length) _ kr
 have kTo:=kT.other (i:=H.length+4+G.length) (by have:=Am hT;omega)
 have kto:=kst.other (i:=H.length+4+G.length) (by omega)
 have kT2:=fun x=>AL.other (W:=W.set (H.length+4+G.length) x) (i:=H.length+2) (fun L=>kTo x L) (by have:=Am hT;omega)
 have kt2:=fun x=>AL.other (W:=W.set (H.length+4+G.length) x) (i:=H.length+2) (fun L=>kto x L) (by omega)
 have kf2:=fun x=>AL.FV (W:=W.set (H.length+4+G.length) x) (fun L=>kfo x L)
 have kos2:=ko.FV
 have ko2:=fun x=>AL.other (W:=W.set (H.length+4+G.length) x) (i:=H.length+2) (fun L=>kos2 x L) (by omega)
 have g0:∀(x y a:Au) (L:AP),(((W.set (H.length+4+G.length) x).set (H.length+2) y)++a::L)[W.length]?=some a:=fun x y a L=>by rw[Qa (by simp)];simp
 have hl:((s.AB.take k).map AN.cells).length=k:=by rw[Qg,Qe];omega
 have hb:(k+1)* 104≤140737488355328:=by omega
 refine AK.unfold ?_
 have hw:=AY (k:=k) (by omega)
 have hg:k<s.AB.length→_:=fun h=>BI (s:=s) (k:=k) h
 (try simp only[w45,hg,hw,hl,hb,kT,kst,kr,kq,ko,kT0,kst0,kr0,kq0,kqs,kqS,ko0,kos,kfo,kfs,kTo,kto,kT2,kt2,kf2,kos2,ko2,g0,krs,krS,krf,AA b45_4.eq_1,AR,AX,apC,go_sem]);repeat' ((first|refine orR ?_|(refine sp ?_ ?_<;>intro hc)|refine Vz ?_)<;>try simp only[*,w45,AA b45_4.eq_1,AR,AX,apC,go_sem])
 case' refine_2.refine_2.refine_2.refine_1=>
  have hW:W=_:=hW
  subst hW
  have e:(s.AB.take (k+1)).map AN.cells=(s.AB.take k).map AN.cells++[(s.AG k).cells]:=by rw[UX (by assumption),Qh];rfl
  simp only[e,AN.cells,go_sem]at next
  simp only[W4,go_sem]
  (refine AK.Az [6,1,2,3] ?_;simp only[mpC,go_sem];refine next _ (by assumption))
 have hk':k=s.AB.length:=by omega
 subst hk'
 rw[Qf]at hW
 have hW:W=_:=hW
 subst hW
 simp only[go_sem]
 rw[show H.length+4+G.length=H.length+(G.length+4) by omega]
 exact Gc.state (i:=3) (j:=G.length+4) rfl (by simp[Qa,AJ]) (by omega) h
end
end Go.Proofs.YtlaipllgmddkiaaGreat.Ax

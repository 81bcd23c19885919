/- The laws of chapter 21: states and calls as the document's own, replies alike. Conditions: none. Printed by gen_own.py. -/
import Derived.Test.YtlaipllgmddkiaaGreatSLawB21Z
set_option linter.all false
set_option maxHeartbeats 9999999
open List renaming getElem?_append_right -> Qa, set_append_right -> Qb, getElem?_eq_none -> Qc, length_take -> Qd, take_length -> Qe, length_map -> Qf, map_append -> Qg
namespace Go.Proofs.YtlaipllgmddkiaaGreat.Ax
open Go Go.Ax Go.Ax.M
theorem uN{H G0 G2:AP}{a b c d x y:Au}:(H++a::b::c::d::(G0++x::G2)).set (H.length+4+G0.length) y=H++a::b::c::d::(G0++y::G2):=by
 rw[Qb _ _ (by omega),show H.length+4+G0.length-H.length=G0.length+4 by omega]
 simp[Qb]
theorem uM{H G0 G2:AP}{a b c d x:Au}:(H++a::b::c::d::(G0++x::G2))[H.length+4+G0.length]?=some x:=by
 rw[Qa (by omega),show H.length+4+G0.length-H.length=G0.length+4 by omega]
 simp[Qa]
theorem uK{s:State}{k:Nat}(h:k<s.AB.length):s.AB.take (k+1)=s.AB.take k++[s.AG k]:=by
 rw[List.take_succ_eq_append_getElem h];simp[State.AG,List.getD,h]
section
variable {H:AP}{K:AH->AP->Prop}{s:State}{oS oT:Nat}{fS fT rS rT:Bool}
section
variable {x0 x1 x2 x3 x4 x5 x6:Int}{x7:Bool}{x8 x9 x10 x11 x12:Int}
theorem uL(h:K (.agg [nS x0,nS x1,nS x2,nS x3,nS x4,nS x5,nS x6,.bool x7,nT x8,nT x9,nT x10,nT x11,nT x12]) H):AF Tryz.prog 133 [.agg [nS x0,nS x1,nS x2,nS x3,nS x4,nS x5,nS x6,.bool x7,nT x8,nT x9,nT x10,nT x11,nT x12]] H K:=by
 refine AF.tidy ?_
 refine Aa ok133 ?_;(try simp only[go_sem]);repeat' ((first|apply orR|(apply sp<;>intro hc)|fail)<;>try simp only[*,go_sem])
 all_goals exact⟨by simp[AH.plain,Ah],⟨_,rfl⟩,h⟩
end
theorem tr{a b c d e f:Int}(h:K (.bool (decide (a=d)&&(decide (b=e)&&decide (c=f)))) H):AF Tryz.prog 63 [.agg [nS a,nT b,nS c],.agg [nS d,nT e,nS f]] H K:=by
 refine AF.tidy ?_
 refine Aa ok63 ?_;repeat' first|simp only[*,go_sem]|apply orR|(apply sp<;>intro hc)|fail
 all_goals (refine tb h (by first|exact⟨_,rfl⟩|exact⟨[],(List.append_nil _).symm⟩|exact hx|exact hx.app _) ?_;first|(simp only[Bool.or_self, *,bs,go_sem];done)|(simp_all[Bool.or_self]<;>omega)|grind[Bool.or_self])
theorem tq(hlS:s.AE.length<=1000)(hlT:s.AB.length<=1000)(hS:nA H oS s rS)(hT:nB H oT s rT)
 (h:K (BT s H.length (H.length+1) false false) (H++[AM s,AJ s])):AF Tryz.prog 64 [stA s oS oT fS fT] H K:=by
 have kSH:=AL.of hS
 have kTH:=AL.of hT
 refine AF.gc ?_
 refine Aa ok64 ?_;repeat' first|simp only[*,go_sem]|refine orR ?_|(refine sp ?_ ?_<;>intro hc)|fail
 refine AK.Az [4,1,2,3] ?_;simp only[mpC,go_sem]
 refine AK.Kg (i:=H.length+2) 5 [nS s.AS.AI,nS s.AS.AE,nS s.AS.AB,.slice (H.length+3) 0 0 0 false,.lit (.slice none 0 0)] BO rfl rfl (λj a b ha hb=> ?_) ?_
 ·rcases(by omega:j=0\/j=1\/j=2\/j=3\/j=4\/5<=j)with rfl|rfl|rfl|rfl|rfl|hj
  all_goals first|(simp at ha hb;subst ha hb;first|exact .inl rfl|exact .inr ⟨rfl,by simp⟩)|(rw[Qc (by simpa using hj)]at ha;cases ha)
 simp only[go_sem]
 refine AK.acc (λk G=>[(4,nS (k:Int))]) (λk G=>H++_::_:: .AU 5 [[nS s.AS.AI,nS s.AS.AE,nS s.AS.AB,.slice (H.length+3) k 0 k false,.lit (.slice none 0 0)]] false:: .AU 5 ((s.AE.take k).map Slot.cells) false::G) (λk G=>True) s.AE.length ?_ (a0:=[]) trivial
 intro k G hk _ next
 refine AK.Jn λW hW=> ?_
 have kS:=kSH.ex hW.ex
 have kst:=hW.EQ
 have kr:=hW.Hy
 have ko:=hW.NS
 have kS0:=kS.at
 have kst0:=kst.at
 have kr0:=kr.at
 have ko0:=ko.at
 have krs:=kr.Eu
 have krS:=kr.set
 have krf:=kr.FV
 have kos:=ko.set
 have kfo:=kr.other (i:=H.length+3) (by omega)
 have kfs:=@AL.OR _ _ (H.length+3) _ kr
 have kSo:=kS.other (i:=H.length+3) (by have:=Am hS;omega)
 have kto:=kst.other (i:=H.length+3) (by omega)
 have kS2:=λx=>AL.other (W:=W.set (H.length+3) x) (i:=H.length+2) (λL=>kSo x L) (by have:=Am hS;omega)
 have kt2:=λx=>AL.other (W:=W.set (H.length+3) x) (i:=H.length+2) (λL=>kto x L) (by omega)
 have kf2:=λx=>AL.FV (W:=W.set (H.length+3) x) (λL=>kfo x L)
 have kos2:=ko.FV
 have ko2:=λx=>AL.other (W:=W.set (H.length+3) x) (i:=H.length+2) (λL=>kos2 x L) (by omega)
 have g0:∀(x y a:Au) (L:AP),(((W.set (H.length+3) x).set (H.length+2) y)++a::L)[W.length]?=some a:=λx y a L=>by rw[Qa (by simp)];simp
 have g1:∀(x y a b:Au) (L:AP),(((W.set (H.length+3) x).set (H.length+2) y)++a::b::L)[W.length+1]?=some b:=λx y a b L=>by rw[Qa (by simp)];simp
 have hl:((s.AE.take k).map Slot.cells).length=k:=by rw[Qf,Qd];omega
 have hb:(k+1)* 40<=140737488355328:=by omega
 refine AK.unfold ?_
 have hw:=AY (k:=k) (by omega)
 have hg:k<s.AE.length->_:=λh=>A4 (s:=s) (k:=k) h
 repeat' first|simp only[*,AA b64_2.eq_1,AR,AX,apC,go_sem]|refine orR ?_|(refine sp ?_ ?_<;>intro hc)|fail
 case' refine_2.refine_1=>
  have hW:W=_:=hW
  subst hW
  have e:(s.AE.take (k+1)).map Slot.cells=(s.AE.take k).map Slot.cells++[(s.slot k).cells]:=by rw[Fk ‹_›,Qg];rfl
  simp only[e,Slot.cells,go_sem]at next
  (refine AK.Az [4,1,2,3] ?_;simp only[mpC,go_sem];refine next _ ‹_›)
 have hk':k=s.AE.length:=by omega
 subst hk'
 rw[Qe]at hW
 have hW:W=_:=hW
 clear next hw hg hl hb kS kst kr ko kS0 kst0 ko0 kos kfo kfs kSo kto kS2 kt2 kf2 kos2 ko2 g0 g1 krs krS krf
 have hWl:W.length=H.length+4+G.length:=by rw[hW];simp;omega
 refine AK.Az [6,1,2,3] ?_;simp only[mpC,go_sem]
 refine AK.Kg (i:=H.length+2) 13 [nS s.AS.AI,nS s.AS.AE,nS s.AS.AB,.slice (H.length+3) s.AE.length 0 s.AE.length false,.slice (H.length+4+G.length) 0 0 0 false] kr0 rfl rfl (λj a b ha hb=> ?_) ?_
 ·rcases(by omega:j=0\/j=1\/j=2\/j=3\/j=4\/5<=j)with rfl|rfl|rfl|rfl|rfl|hj
  all_goals first|(simp at ha hb;subst ha hb;first|exact .inl rfl|exact .inr ⟨rfl,by rw[hWl]⟩)|(rw[Qc (by simpa using hj)]at ha;cases ha)
 clear kr0
 rw[hW]
 simp only[go_sem]
 refine AK.acc (λk G2=>[(6,nS (k:Int))]) (λk G2=>H++_::_:: .AU 5 [[nS s.AS.AI,nS s.AS.AE,nS s.AS.AB,.slice (H.length+3) s.AE.length 0 s.AE.length false,.slice (H.length+4+G.length) k 0 k false]] false:: .AU 5 (s.AE.map Slot.cells) false::(G++ .AU 13 ((s.AB.take k).map AN.cells) false::G2)) (λk G2=>True) s.AB.length ?_ (a0:=[]) trivial
 intro k G2 hk _ next
 refine AK.Jn λW hW=> ?_
 have kT:=kTH.ex hW.ex
 have kst:=hW.EQ
 have kr:=hW.Hy
 have kq:=hW.Hx
 have kq0:=kq.at
 have kqs:=kq.Eu
 have kqS:=kq.set
 have ko:AL W (H.length+4+G.length) (.AU 13 ((s.AB.take k).map AN.cells) false):=by
  have h:W=_:=hW;rw[h];exact .of uM
 have kT0:=kT.at
 have kst0:=kst.at
 have kr0:=kr.at
 have ko0:=ko.at
 have krs:=kr.Eu
 have krS:=kr.set
 have krf:=kr.FV
 have kos:=ko.set
 have kfo:=kr.other (i:=H.length+4+G.length) (by omega)
 have kfs:=@AL.OR _ _ (H.length+4+G.length) _ kr
 have kTo:=kT.other (i:=H.length+4+G.length) (by have:=Am hT;omega)
 have kto:=kst.other (i:=H.length+4+G.length) (by omega)
 have kT2:=λx=>AL.other (W:=W.set (H.length+4+G.length) x) (i:=H.length+2) (λL=>kTo x L) (by have:=Am hT;omega)
 have kt2:=λx=>AL.other (W:=W.set (H.length+4+G.length) x) (i:=H.length+2) (λL=>kto x L) (by omega)
 have kf2:=λx=>AL.FV (W:=W.set (H.length+4+G.length) x) (λL=>kfo x L)
 have kos2:=ko.FV
 have ko2:=λx=>AL.other (W:=W.set (H.length+4+G.length) x) (i:=H.length+2) (λL=>kos2 x L) (by omega)
 have g0:∀(x y a:Au) (L:AP),(((W.set (H.length+4+G.length) x).set (H.length+2) y)++a::L)[W.length]?=some a:=λx y a L=>by rw[Qa (by simp)];simp
 have hl:((s.AB.take k).map AN.cells).length=k:=by rw[Qf,Qd];omega
 have hb:(k+1)* 104<=140737488355328:=by omega
 refine AK.unfold ?_
 have hw:=AY (k:=k) (by omega)
 have hg:k<s.AB.length->_:=λh=>BI (s:=s) (k:=k) h
 repeat' first|simp only[*,AA b64_4.eq_1,AR,AX,apC,go_sem]|refine orR ?_|(refine sp ?_ ?_<;>intro hc)|refine uL ?_
 case' refine_2.refine_2.refine_2.refine_1=>
  have hW:W=_:=hW
  subst hW
  have e:(s.AB.take (k+1)).map AN.cells=(s.AB.take k).map AN.cells++[(s.AG k).cells]:=by rw[uK ‹_›,Qg];rfl
  simp only[e,AN.cells,go_sem]at next
  simp only[uN,go_sem]
  (refine AK.Az [6,1,2,3] ?_;simp only[mpC,go_sem];refine next _ ‹_›)
 have hk':k=s.AB.length:=by omega
 subst hk'
 rw[Qe]at hW
 have hW:W=_:=hW
 subst hW
 simp only[go_sem]
 rw[show H.length+4+G.length=H.length+(G.length+4) by omega]
 exact Gc.state (i:=3) (j:=G.length+4) rfl (by simp[Qa,AJ]) (by omega) h
end
end Go.Proofs.YtlaipllgmddkiaaGreat.Ax

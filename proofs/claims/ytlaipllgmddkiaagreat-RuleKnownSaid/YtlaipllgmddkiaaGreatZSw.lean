/- Texts put behind one another: SPath, SWords. Conditions: none. -/
import Derived.Test.YtlaipllgmddkiaaGreatZLf
set_option linter.all false
set_option maxHeartbeats 9999999
open Go.Proofs.Tryz renaming prog -> Qa
open BitVec renaming ofInt -> Qb
open Int renaming natCast_inj -> Qc, pow_pos -> Qd
namespace Go.Ax.M
open Go Go.Ax
def VS(p:List Int):Nat->Int
 |0=>(p.length:Int)
 |k+1=>VS p k+p.getD k 0* 2^(4*(k+1))
theorem dK{p:List Int}(h:BJ p=true):VS p p.length=C1 p:=by
 rcases KL h with⟨a,rfl,h⟩|⟨a,b,rfl,h⟩|⟨a,b,c,rfl,h⟩<;>simp[VS,C1,MP]<;>omega
theorem bV{p:List Int}(h:BJ p=true){k:Nat}(hk:k<=p.length):0<=VS p k/\VS p k<2^(4*(k+1)):=by
 rcases KL h with⟨a,rfl,h⟩|⟨a,b,rfl,h⟩|⟨a,b,c,rfl,h⟩<;>simp only[List.length_cons,List.length_nil]at hk
 ·rcases(by omega:k=0\/k=1)with rfl|rfl<;>simp[VS]<;>omega
 ·rcases(by omega:k=0\/k=1\/k=2)with rfl|rfl|rfl<;>simp[VS]<;>omega
 ·rcases(by omega:k=0\/k=1\/k=2\/k=3)with rfl|rfl|rfl|rfl<;>simp[VS]<;>omega
theorem FH{w:Int}{k:Nat}:(FG w k).length=k:=by simp[FG]
theorem Y2{w:Int}:FG w 0=[]:=by simp[FG]
theorem Y1{w:Int}{k:Nat}:FG w (k+1)=FG w k++[w/2^(4*(k+1))%16]:=by simp[FG,List.range_succ]
theorem dI{w:Int}:F0 w<=3:=by simp[F0];omega
theorem dJ{p:List Int}:0<=(bif BJ p then C1 p else 0)/\(bif BJ p then C1 p else 0)<65536:=by
 cases h:BJ p with
 |false=>simp
 |true=>have:=bR h;simp only[cond_true];omega
theorem Gc.gA{H L:AP}{K:AH->AP->Prop}{i n s:Nat}{f ro:Bool}{xs:List (List AH)}{l:List AH}(hi:L[i]?=some (.AU s xs ro))(hp:∀x∈xs,∀a∈x,a.plain=true)(h:K (.Bj (.agg [.slice H.length n 0 n f]::l)) (H++[.AU s xs ro]))(hl:∀a∈l,a.plain=true:=by simp[AH.plain,Ah]):
 Gc H K (.Bj (.agg [.slice (H.length+i) n 0 n f]::l)) (H++L):=
 ⟨[i],L,[.AU s xs ro],_,rfl,Tf.one hi (.plain hp),⟨_,rfl,_,_,rfl,⟨_,rfl,_,_,rfl,⟨H.length,rfl,.inr ⟨i,0,rfl,rfl,rfl⟩⟩,rfl⟩,CY.refl (EF hl)⟩,h⟩
attribute [irreducible] VS
end Go.Ax.M
namespace Go.Proofs.YtlaipllgmddkiaaGreat.Ax
open Go Go.Ax Go.Ax.M
set_option maxRecDepth 100000
section
variable {H:AP}{K:AH->AP->Prop}
theorem Iq{p:List Int}{o:Nat}{f r:Bool}(ho:H[o]?=some (.AU 1 (ints p) r))(h:K (.Bj [nT (bif BJ p then C1 p else 0),.bool (BJ p)]) H):
 AF Qa 123 [.agg [.slice o p.length 0 p.length f]] H K:=by
 have ko:=AL.of ho
 cases hg:BJ p with
 |false=>
  rw[hg]at h
  refine AF.tidy ?_
  refine Aa ok123 ?_;(try simp only[ko,hg,go_sem]);repeat' ((first|apply orR|(apply sp<;>intro hc)|refine FT (p:=p) (ko _) ?_)<;>try simp only[*,go_sem])
  exact⟨rfl,⟨_,rfl⟩,h⟩
 |true=>
  rw[hg]at h
  simp only[cond_true]at h
  rw[<-dK hg]at h
  have hl:=G7 hg
  have hw0:IntKind.wrap .u64 (p.length:Int)=VS p 0:=by rw[HM (by omega) (by omega),VS]
  refine AF.tidy ?_
  refine Aa ok123 ?_;(try simp only[ko,hg,hw0,go_sem]);repeat' ((first|apply orR|(apply sp<;>intro hc)|refine FT (p:=p) (ko _) ?_)<;>try simp only[*,go_sem])
  refine AK.Az [4,17,15,16] ?_;simp only[mpC,go_sem]
  refine AK.acc (λk (_:Unit)=>[(4,nT (VS p k)),(17,nS (k:Int))]) (λ_ _=>_) (λ_ _=>True) p.length ?_ (a0:=()) trivial
  intro k _ hk _ next
  refine AK.unfold ?_
  have hw:=AY (k:=k) (by omega)
  by_cases hkp:k<p.length
  ·have hgk:=Bt hkp
   have hx:=GN hg hkp
   have hb:=bV hg (k:=k) (by omega)
   have hb2:=bV hg (k:=k+1) (by omega)
   have hs:VS p (k+1)=VS p k+p.getD k 0* 2^(4*(k+1)):=by rw[VS]
   have c1:IntKind.wrap .u64 (p.getD k 0)=p.getD k 0:=HM hx.1 (by omega)
   have c2:IntKind.wrap .i64 (4*((k+1:Nat):Int))=((4*(k+1):Nat):Int):=by rw[w64 (by omega) (by omega)];omega
   have hp2:(2:Int)^(4*(k+1))<=2^16:=by exact_mod_cast FU (show 4*(k+1)<=16 by omega)
   have hp0:(0:Int)<2^(4*(k+1)):=Qd (by omega)
   have hm:p.getD k 0* 2^(4*(k+1))<=15* 2^16:=Int.le_trans (Int.mul_le_mul_of_nonneg_right hx.2 (by omega)) (Int.mul_le_mul_of_nonneg_left hp2 (by omega))
   have hm0:0<=p.getD k 0* 2^(4*(k+1)):=Int.mul_nonneg hx.1 (by omega)
   have c3:Dl .shl .u64 (p.getD k 0) ((4*(k+1):Nat):Int)=some (nT (p.getD k 0* 2^(4*(k+1)))):=Yh hx.1 (by omega) (by omega)
   have c4:IntKind.wrap .u64 ((Qb (IntKind.bits .u64) (VS p k)|||Qb (IntKind.bits .u64) (p.getD k 0* 2^(4*(k+1)))).toNat:Int)=VS p (k+1):=by
    rw[hs];exact bO hb.1 hb.2 hx.1 (by omega)
   clear hs hb hb2 hx hm hm0 hp0 hp2
   generalize p.getD k 0=x at*
   simp only[go_sem]at c4
   (try simp only[ko,hw,hgk,hkp,c1,c2,c3,c4,AA b123_3.eq_1,AR,AX,apC,go_sem]);repeat' ((first|apply orR|(apply sp<;>intro hc)|fail)<;>try simp only[*,c2,AA b123_3.eq_1,AR,AX,apC,go_sem])
   (refine AK.Az [4,17,15,16] ?_;simp only[mpC,go_sem];refine next () hkp trivial)
  ·have:k=p.length:=by omega
   subst this
   (try simp only[ko,hw,hkp,AA b123_3.eq_1,AR,AX,apC,go_sem]);repeat' ((first|apply orR|(apply sp<;>intro hc)|fail)<;>try simp only[*,AA b123_3.eq_1,AR,AX,apC,go_sem])
   exact⟨rfl,⟨_,rfl⟩,h⟩
theorem LP{p:List Int}{n o:Nat}{f r:Bool}(hn:p.length=n)(ho:H[o]?=some (.AU 1 (ints p) r))(h:K (.Bj [nT (bif BJ p then C1 p else 0),.bool (BJ p)]) H):
 AF Qa 123 [.agg [.slice o n 0 n f]] H K:=by subst hn;exact Iq ho h
theorem Ce{w:Int}(w0:0<=w)(w1:w<2^64)(h:Ep w=[]->K (.Bj [.agg [.lit (.slice none 0 0)],.bool false]) H)
 (h':Ep w≠[]->K (.Bj [.agg [.slice H.length (Ep w).length 0 (Ep w).length false],.bool true]) (H++[.AU 1 (ints (Ep w)) false])):
 AF Qa 126 [nT w] H K:=by
 have a1:IntKind.wrap .u64 ((Qb (IntKind.bits .u64) w&&&Qb (IntKind.bits .u64) 15).toNat:Int)=w%16:=YM (k:=4) w0 w1 (by omega)
 simp only[go_sem]at a1
 have a2:(if(3:Int)<w%16 then(3:Int)else w%16)=(F0 w:Int):=by
  simp only[F0];split<;>omega
 have hn:=dI (w:=w)
 refine AF.gc ?_
 refine Aa ok126 ?_;repeat' first|simp only[*,go_sem]|apply orR|(apply sp<;>intro hc)|fail
 refine AK.Az [11,0,2,4,10] ?_;simp only[mpC,go_sem]
 refine AK.Kg (i:=H.length+1) 1 [.slice (H.length+2) 0 0 0 false] BP rfl rfl (λj a b ha hb=> ?_) ?_
 ·cases j with
  |zero=>simp at ha hb;subst ha hb;exact .inr ⟨rfl,by simp⟩
  |succ j=>simp at ha
 simp only[go_sem]
 refine AK.heap (H':=H++ .AU 1 [[.lit (.slice none 0 0)]] false:: .AU 1 [[.slice (H.length+2) 0 0 0 false]] false:: .AU 1 (ints (FG w 0)) false::[]) (by rw[Y2];rfl) ?_
 refine AK.acc (λk G=>[(11,nT (k:Int))]) (λk G=>H++ .AU 1 [[.lit (.slice none 0 0)]] false:: .AU 1 [[.slice (H.length+2) k 0 k false]] false:: .AU 1 (ints (FG w k)) false::G) (λk G=>True) (F0 w) ?_ (a0:=[]) trivial
 intro k G hk _ next
 refine AK.Jn λW hW=> ?_
 have k0:=hW.EQ
 have k1:=hW.Hx
 have k2:=hW.Hy
 have k00:=k0.at
 have k10:=k1.at
 have k20:=k2.at
 have k0s:=k0.Eu
 have k1s:=k1.Eu
 have k2s:=k2.set
 have k12:=k1.other (i:=H.length+2) (by omega)
 have k1s2:=@AL.OR _ _ (H.length+2) _ k1
 have hl:(ints (FG w k)).length=k:=by rw[LJ,FH]
 have hb:(k+1)* 8<=140737488355328:=by omega
 refine AK.unfold ?_
 have hw:IntKind.wrap .u64 ((k:Int)+1)=((k+1:Nat):Int):=by rw[HM (by omega) (by omega)];omega
 by_cases hkp:k<F0 w
 ·have c2:IntKind.wrap .u64 (4*((k+1:Nat):Int))=((4*(k+1):Nat):Int):=by rw[HM (by omega) (by omega)];omega
  have c3:Dl .shr .u64 w ((4*(k+1):Nat):Int)=some (nT (w/2^(4*(k+1)))):=UO (by omega)
  have hp0:(0:Int)<2^(4*(k+1)):=Qd (by omega)
  have d0:0<=w/2^(4*(k+1)):=Int.ediv_nonneg w0 (by omega)
  have d1:w/2^(4*(k+1))<2^64:=Int.lt_of_le_of_lt (Int.ediv_le_self _ w0) w1
  have c4:IntKind.wrap .u64 ((Qb (IntKind.bits .u64) (w/2^(4*(k+1)))&&&Qb (IntKind.bits .u64) 15).toNat:Int)=w/2^(4*(k+1))%16:=YM (k:=4) d0 d1 (by omega)
  simp only[go_sem]at c4
  have c5:IntKind.wrap .i64 (w/2^(4*(k+1))%16)=w/2^(4*(k+1))%16:=w64 (by omega) (by omega)
  have e:ints (FG w (k+1))=ints (FG w k)++[[nS (w/2^(4*(k+1))%16)]]:=by rw[Y1,Dn];rfl
  clear d0 d1 hp0
  generalize w/2^(4*(k+1))=x at*
  repeat' first|simp only[*,c2,FH,AA b126_2.eq_1,AR,AX,apC,go_sem]|apply orR|(apply sp<;>intro hc)|fail
  have hW:W=_:=hW
  subst hW
  rw[e]at next
  simp only[go_sem]at next ⊢
  (refine AK.Az [11,0,2,4,10] ?_;simp only[mpC,go_sem];refine next _ hkp)
 ·have hk':k=F0 w:=by omega
  subst hk'
  have hu:=dJ (p:=FG w (F0 w))
  clear k1s2 k12 next hb
  cases hgd:BJ (FG w (F0 w))with
  |false=>
   have e:Ep w=[]:=by simp[Ep,hgd]
   have h:=h e
   repeat' first|simp only[*,cond_true,cond_false,AA b126_2.eq_1,AR,AX,apC,go_sem]|apply orR|(apply sp<;>intro hc)|refine LP (p:=FG w (F0 w)) FH (by first|exact k20|exact k2 _) ?_
   have hW:W=_:=hW
   subst hW
   try simp only[go_sem]
   exact Gc.Cd (by simp[AH.refs,Ay]) h
  |true=>
   by_cases hpw:C1 (FG w (F0 w))=w
   ·have e:Ep w=FG w (F0 w):=by simp[Ep,hgd,hpw]
    have hne:Ep w≠[]:=by intro h0;rw[<-e,h0]at hgd;simp[BJ]at hgd
    have h':=h' hne
    rw[e]at h'
    repeat' first|simp only[*,cond_true,cond_false,AA b126_2.eq_1,AR,AX,apC,go_sem]|apply orR|(apply sp<;>intro hc)|refine LP (p:=FG w (F0 w)) FH (by first|exact k20|exact k2 _) ?_
    have hW:W=_:=hW
    subst hW
    try simp only[go_sem]
    refine Gc.gA (i:=2) rfl Ca ?_
    rw[FH]at h';exact h'
   ·have e:Ep w=[]:=by simp[Ep,hgd,hpw]
    have h:=h e
    repeat' first|simp only[*,cond_true,cond_false,AA b126_2.eq_1,AR,AX,apC,go_sem]|apply orR|(apply sp<;>intro hc)|refine LP (p:=FG w (F0 w)) FH (by first|exact k20|exact k2 _) ?_
    have hW:W=_:=hW
    subst hW
    try simp only[go_sem]
    exact Gc.Cd (by simp[AH.refs,Ay]) h
end
end Go.Proofs.YtlaipllgmddkiaaGreat.Ax
namespace Go.Ax.M
open Go Go.Ax
def GL:List (Nat×Nat):=[(0,8),(8,16),(24,16)]
theorem Il:aE GL:=⟨by decide,by decide⟩
def Oq(c:Call):List Int:=[c.op,c.x,c.y]
theorem bA{c:Call}(h:AT c=true):∀k,k<GL.length->0<=(Oq c).getD k 0/\(Oq c).getD k 0<2^(GL.getD k (0,0)).2:=by
 intro k hk
 have:=JF h
 have hk:k<3:=hk
 rcases k with _|_|_|k
 ·simp[Oq,GL];omega
 ·simp[Oq,GL];omega
 ·simp[Oq,GL];omega
 ·omega
theorem bC{c:Call}:MF GL (Oq c) GL.length=c.op+c.x* 256+c.y* 16777216:=by simp[MF,GL,Oq]
theorem bB{w:Int}:MC w GL=[w%256,w/256%65536,w/16777216%65536]:=by simp[MC,GL]
theorem Yc{p:List Int}(h:p=[]\/BJ p=true):(bif BJ p then C1 p else 0)=C1 p:=by
 rcases h with rfl|h
 ·simp[BJ,TA]
 ·simp[h]
theorem Gc.call2{H L:AP}{K:AH->AP->Prop}{i j:Nat}{a b:List Int}{op x y w:Int}(hi:L[i]?=some (.AU 1 (ints a) false))(hj:L[j]?=some (.AU 1 (ints b) false))(hij:i≠j)
 (h:K (.Bj [.agg [nS op,.slice H.length a.length 0 a.length false,.slice (H.length+1) b.length 0 b.length false,nS x,nS y,nT w],.bool true]) (H++[.AU 1 (ints a) false,.AU 1 (ints b) false])):
 Gc H K (.Bj [.agg [nS op,.slice (H.length+i) a.length 0 a.length false,.slice (H.length+j) b.length 0 b.length false,nS x,nS y,nT w],.bool true]) (H++L):=by
 refine⟨[i,j],L,_,_,rfl,Tf.two hi hj hij (.plain Ca) (.plain Ca),?_,h⟩
 refine⟨_,rfl,_,_,rfl,?_,CY.refl (EF (by simp[AH.plain,Ah]))⟩
 exact⟨_,rfl,_,_,rfl,rfl,_,_,rfl,⟨H.length,rfl,.inr ⟨i,0,rfl,rfl,rfl⟩⟩,_,_,rfl,⟨H.length+1,rfl,.inr ⟨j,1,rfl,rfl,rfl⟩⟩,CY.refl (EF (by simp[AH.plain,Ah]))⟩
theorem Gc.iV{H L:AP}{K:AH->AP->Prop}{i:Nat}{a:List Int}{op x y w:Int}(hi:L[i]?=some (.AU 1 (ints a) false))
 (h:K (.Bj [.agg [nS op,.slice H.length a.length 0 a.length false,.lit (.slice none 0 0),nS x,nS y,nT w],.bool true]) (H++[.AU 1 (ints a) false])):
 Gc H K (.Bj [.agg [nS op,.slice (H.length+i) a.length 0 a.length false,.lit (.slice none 0 0),nS x,nS y,nT w],.bool true]) (H++L):=by
 refine⟨[i],L,_,_,rfl,Tf.one hi (.plain Ca),?_,h⟩
 refine⟨_,rfl,_,_,rfl,?_,CY.refl (EF (by simp[AH.plain,Ah]))⟩
 exact⟨_,rfl,_,_,rfl,rfl,_,_,rfl,⟨H.length,rfl,.inr ⟨i,0,rfl,rfl,rfl⟩⟩,CY.refl (EF (by simp[AH.plain,Ah]))⟩
end Go.Ax.M
namespace Go.Proofs.YtlaipllgmddkiaaGreat.Ax
open Go Go.Ax Go.Ax.M
set_option maxRecDepth 100000
section
variable {H:AP}{K:AH->AP->Prop}{oA oB oL:Nat}{fA fB rA rB fL rL:Bool}{op x y w:Int}{a b:List Int}
theorem Oa{l m:List Int}{o o':Nat}{f f' r r':Bool}(h1:H[o]?=some (.AU 1 (Cc l) r))(h2:H[o']?=some (.AU 1 (Cc m) r'))(hl:l.length<=100000)
 (h:K (.bool (decide (l=m))) H):AF Qa 127 [.slice o l.length 0 l.length f,.slice o' m.length 0 m.length f'] H K:=by
 have he:Dm (λx y:Int=>decide (x=y)) 0 l m=decide (l=m):=by
  rw[Bool.eq_iff_iff,Mo (by simp)];simp
 refine Aa ok127 ?_;repeat' first|simp only[*,AR,Qc,go_sem]|apply orR|(apply sp<;>intro hc)|fail
 ·have:¬l=m:=by intro e;subst e;omega
  rw[decide_eq_false this]at h;exact h
 ·have hle:l.length=m.length:=by omega
  refine AK.Az [13,0,1,12] ?_;simp only[mpC,go_sem]
  refine AK.aB (λk=>((List.range k).all λk=>decide (l.getD k 0=m.getD k 0))=true) l.length (by simp) λk hk hI next=> ?_
  refine AK.unfold ?_
  have hw:=AY (k:=k) (by omega)
  have hg1:k<l.length->_:=λh=>M0 (l:=l) (k:=k) h
  have hg2:k<l.length->_:=λh=>M0 (l:=m) (k:=k) (hle▸h)
  have hlu:k<l.length->k<m.length:=λh=>hle▸h
  have e:decide (l=m)=(List.range l.length).all λk=>decide (l.getD k 0=m.getD k 0):=by rw[<-he];simp only[Dm,hle,decide_true,Bool.true_and]
  clear hle he
  repeat' first|simp only[*,AA b127_4.eq_1,AR,AX,go_sem]|apply orR|(apply sp<;>intro hc)|fail
  ·refine kb h ?_
   rw[e];exact(Cv (k:=k) (by omega) (by simp only[decide_eq_false_iff_not];assumption)).symm
  ·(refine AK.Az [13,0,1,12] ?_;simp only[mpC,go_sem];refine next (by omega) ?_)
   rw[Da (N:=0),hI];simp only[Bool.true_and,decide_eq_true_eq];omega
  ·have hk:k=l.length:=by omega
   subst hk
   exact kb h (by rw[e,hI])
theorem Mb{l m:List Int}{n n' o o':Nat}{f f' r r':Bool}(hn:l.length=n)(hn':m.length=n')(h1:H[o]?=some (.AU 1 (Cc l) r))(h2:H[o']?=some (.AU 1 (Cc m) r'))(hl:n<=100000)
 (h:K (.bool (decide (l=m))) H):AF Qa 127 [.slice o n 0 n f,.slice o' n' 0 n' f'] H K:=by subst hn hn';exact Oa h1 h2 hl h
theorem F8{n:Nat}(hn:(0=(n:Int))=False)(h:K (.bool false) H):AF Qa 127 [.lit (.slice none 0 0),.slice oL n 0 n fL] H K:=by
 refine Aa ok127 ?_;(try simp only[hn,Qc,go_sem]);repeat' ((first|apply orR|(apply sp<;>intro hc)|fail)<;>try simp only[*,Qc,go_sem])
 exact h
theorem Dg(h:K (.slice H.length 3 0 3 true) (H++[.AU 2 (HP GL) false])):AF Qa 122 [] H K:=by
 refine AF.gc ?_
 refine Aa ok122 ?_;(try simp only[go_sem]);repeat' ((first|apply orR|(apply sp<;>intro hc)|fail)<;>try simp only[*,go_sem])
 exact Gc.slice (i:=0) rfl (by decide) h
theorem Kd{c:M.Call}(hA:H[oA]?=some (.AU 1 (ints c.a) rA))(hB:H[oB]?=some (.AU 1 (ints c.b) rB))(hg:AT c=true)
 (h:K (.slice H.length 4 0 4 true) (H++[.AU 1 (Cc (K0 c)) false])):AF Qa 53 [.agg [nS c.op,.slice oA c.a.length 0 c.a.length fA,.slice oB c.b.length 0 c.b.length fB,nS c.x,nS c.y,nT c.w]] H K:=by
 have kA:=AL.of hA
 have kB:=AL.of hB
 have hi:=JF hg
 have w1:IntKind.wrap .u64 c.op=c.op:=HM (by omega) (by omega)
 have w2:IntKind.wrap .u64 c.x=c.x:=HM (by omega) (by omega)
 have w3:IntKind.wrap .u64 c.y=c.y:=HM (by omega) (by omega)
 have pa:=Yc (.inr hi.2.2.2.2.2.2.1)
 have pb:=Yc hi.2.2.2.2.2.2.2
 have hm:=bC (c:=c)
 refine AF.gc ?_
 refine Aa ok53 ?_;repeat' first|simp only[*,cond_true,go_sem]|apply orR|(apply sp<;>intro hc)|refine Aw (c:=c) (kA _) (kB _) ?_|refine Dg ?_|refine Ni (F:=GL) (v:=Oq c) Il (by first|exact BH|exact Bb rfl) (by first|exact BH|exact Bb rfl) rfl (bA hg) ?_|refine Iq (p:=c.a) (kA _) ?_|refine Iq (p:=c.b) (kB _) ?_
 have e:([[nT (c.op+c.x* 256+c.y* 16777216)],[nT (C1 c.a)],[nT (C1 c.b)],[nT c.w]]:List (List AH))=Cc (K0 c):=rfl
 simp only[cond_true,e]
 exact Gc.slice (n:=4) (i:=3) rfl Ka h
theorem Gf{c:M.Call}(hA:H[oA]?=some (.AU 1 (ints c.a) rA))(hB:H[oB]?=some (.AU 1 (ints c.b) rB))(hg:AT c=false)
 (h:K (.lit (.slice none 0 0)) H):AF Qa 53 [.agg [nS c.op,.slice oA c.a.length 0 c.a.length fA,.slice oB c.b.length 0 c.b.length fB,nS c.x,nS c.y,nT c.w]] H K:=by
 have kA:=AL.of hA
 have kB:=AL.of hB
 refine AF.gc ?_
 refine Aa ok53 ?_;(try simp only[hg,go_sem]);repeat' ((first|apply orR|(apply sp<;>intro hc)|refine Aw (c:=c) (kA _) (kB _) ?_)<;>try simp only[*,go_sem])
 exact Gc.Cd (by simp[AH.refs]) h
theorem Pu(hA:H[oA]?=some (.AU 1 (ints a) rA))(hg:AT ⟨op,a,[],x,y,w⟩=true)
 (h:K (.slice H.length 4 0 4 true) (H++[.AU 1 (Cc (K0 ⟨op,a,[],x,y,w⟩)) false])):AF Qa 53 [.agg [nS op,.slice oA a.length 0 a.length fA,.lit (.slice none 0 0),nS x,nS y,nT w]] H K:=by
 refine AF.gc (AF.lay 1 ?_)
 simp only[Go.Ax.D9,Go.Ax.E9,go_sem]
 have kA:=AL.of hA
 refine Kd (c:=⟨op,a,[],x,y,w⟩) (oB:=H.length) (rB:=false) (kA _) BH hg ?_
 rw[List.append_assoc]
 have:=Gc.slice (H:=H) (L:=[.AU 1 [] false,.AU 1 (Cc (K0 ⟨op,a,[],x,y,w⟩)) false]) (K:=K) (i:=1) (n:=4) (f:=true) rfl Ka h
 simpa using this
theorem PE(hA:H[oA]?=some (.AU 1 (ints a) rA))(hg:AT ⟨op,a,[],x,y,w⟩=false)(h:K (.lit (.slice none 0 0)) H):
 AF Qa 53 [.agg [nS op,.slice oA a.length 0 a.length fA,.lit (.slice none 0 0),nS x,nS y,nT w]] H K:=by
 refine AF.gc (AF.lay 1 ?_)
 simp only[Go.Ax.D9,Go.Ax.E9,go_sem]
 have kA:=AL.of hA
 refine Gf (c:=⟨op,a,[],x,y,w⟩) (oB:=H.length) (rB:=false) (kA _) BH hg ?_
 exact Gc.Cd (by simp[AH.refs]) h
theorem bH{b:List Int}:AT ⟨op,[],b,x,y,w⟩=false:=by simp[AT,BJ]
theorem PD(hB:H[oB]?=some (.AU 1 (ints b) rB))(h:K (.lit (.slice none 0 0)) H):
 AF Qa 53 [.agg [nS op,.lit (.slice none 0 0),.slice oB b.length 0 b.length fB,nS x,nS y,nT w]] H K:=by
 refine AF.gc (AF.lay 1 ?_)
 simp only[Go.Ax.D9,Go.Ax.E9,go_sem]
 have kB:=AL.of hB
 refine Gf (c:=⟨op,[],b,x,y,w⟩) (oA:=H.length) (rA:=false) BH (kB _) bH ?_
 exact Gc.Cd (by simp[AH.refs]) h
theorem N4(h:K (.lit (.slice none 0 0)) H):
 AF Qa 53 [.agg [nS op,.lit (.slice none 0 0),.lit (.slice none 0 0),nS x,nS y,nT w]] H K:=by
 refine AF.gc (AF.lay 1 ?_)
 simp only[Go.Ax.D9,Go.Ax.E9,go_sem]
 refine Gf (c:=⟨op,[],[],x,y,w⟩) (oA:=H.length) (rA:=false) (oB:=H.length) (rB:=false) BH BH bH ?_
 exact Gc.Cd (by simp[AH.refs]) h
def Lq:AH:= .agg [nS 0,.lit (.slice none 0 0),.lit (.slice none 0 0),nS 0,nS 0,nT 0]
set_option maxHeartbeats 2000000 in
theorem cR{l0 l1 l2 l3:Int}(hL:H[oL]?=some (.AU 1 (Cc [l0,l1,l2,l3]) rL))(u0:0<=l0/\l0<2^64)(u1:0<=l1/\l1<2^64)(u2:0<=l2/\l2<2^64)(h:fI l0 l1 l2 l3=false->K (.Bj [Lq,.bool false]) H)
 (
  hn:fI l0 l1 l2 l3=true->(EP l0 l1 l2 l3).b=[]->K (.Bj [.agg [nS (EP l0 l1 l2 l3).op,.slice H.length (EP l0 l1 l2 l3).a.length 0 (EP l0 l1 l2 l3).a.length false,.lit (.slice none 0 0),nS (EP l0 l1 l2 l3).x,nS (EP l0 l1 l2 l3).y,nT (EP l0 l1 l2 l3).w],.bool true])
  (H++[.AU 1 (ints (EP l0 l1 l2 l3).a) false]))
 (
  h':fI l0 l1 l2 l3=true->(EP l0 l1 l2 l3).b≠[]->K (.Bj [.agg [nS (EP l0 l1 l2 l3).op,.slice H.length (EP l0 l1 l2 l3).a.length 0 (EP l0 l1 l2 l3).a.length false,.slice (H.length+1) (EP l0 l1 l2 l3).b.length 0 (EP l0 l1 l2 l3).b.length false,nS (EP l0 l1 l2 l3).x,nS (EP l0 l1 l2 l3).y,nT (EP l0 l1 l2 l3).w],.bool true])
  (H++[.AU 1 (ints (EP l0 l1 l2 l3).a) false,.AU 1 (ints (EP l0 l1 l2 l3).b) false])):
 AF Qa 55 [.slice oL 4 0 4 fL] H K:=by
 have kL:=AL.of hL
 have m1:=bB (w:=l0)
 have m2:GL.length=3:=rfl
 have w1:IntKind.wrap .i64 (l0%256)=l0%256:=w64 (by omega) (by omega)
 have w2:IntKind.wrap .i64 (l0/256%65536)=l0/256%65536:=w64 (by omega) (by omega)
 have w3:IntKind.wrap .i64 (l0/16777216%65536)=l0/16777216%65536:=w64 (by omega) (by omega)
 refine AF.gc ?_
 simp only[fI,EP]at h h' hn
 have h4:((0:Int)=((4:Nat):Int))=False:=by decide
 have hlen:(K0 ⟨l0%256,Ep l1,Ep l2,l0/256%65536,l0/16777216%65536,l3⟩).length=4:=rfl
 cases hg:AT ⟨l0%256,Ep l1,Ep l2,l0/256%65536,l0/16777216%65536,l3⟩with
 |false=>
  have h:=h (by rw[hg];rfl)
  clear h' hn
  by_cases ha:Ep l1=[]
  ·by_cases hb:Ep l2=[]
   ·rw[ha,hb]at hg
    refine Aa ok55 ?_;(try simp only[kL,m1,m2,w1,w2,w3,Cc,mpC,go_sem]);repeat' ((first|apply orR|(apply sp<;>intro hc)|refine Dg ?_|refine Fl (F:=GL) Il (by decide) u0.1 u0.2 (by first|exact BH|exact Bb rfl) ?_|refine Ce u1.1 u1.2 (λe=> ?_) (λ_=>absurd ha ‹_›)|refine Ce u2.1 u2.2 (λe=> ?_) (λ_=>absurd hb ‹_›)|refine N4 ?_|refine F8 h4 ?_)<;>try simp only[*,Cc,mpC,go_sem])
    exact Gc.Cd (by simp[Lq,AH.refs,Ay]) h
   ·rw[ha]at hg
    refine Aa ok55 ?_;(try simp only[kL,m1,m2,w1,w2,w3,Cc,mpC,go_sem]);repeat' ((first|apply orR|(apply sp<;>intro hc)|refine Dg ?_|refine Fl (F:=GL) Il (by decide) u0.1 u0.2 (by first|exact BH|exact Bb rfl) ?_|refine Ce u1.1 u1.2 (λe=> ?_) (λ_=>absurd ha ‹_›)|refine Ce u2.1 u2.2 (λe=>absurd e hb) (λ_=> ?_)|refine PD (b:=Ep l2) (by first|exact BH|exact Bb rfl) ?_|refine F8 h4 ?_)<;>try simp only[*,Cc,mpC,go_sem])
    exact Gc.Cd (by simp[Lq,AH.refs,Ay]) h
  ·by_cases hb:Ep l2=[]
   ·rw[hb]at hg
    refine Aa ok55 ?_;(try simp only[kL,m1,m2,w1,w2,w3,Cc,mpC,go_sem]);repeat' ((first|apply orR|(apply sp<;>intro hc)|refine Dg ?_|refine Fl (F:=GL) Il (by decide) u0.1 u0.2 (by first|exact BH|exact Bb rfl) ?_|refine Ce u1.1 u1.2 (λe=>absurd e ha) (λ_=> ?_)|refine Ce u2.1 u2.2 (λe=> ?_) (λ_=>absurd hb ‹_›)|refine PE (a:=Ep l1) (by first|exact BH|exact Bb rfl) hg ?_|refine F8 h4 ?_)<;>try simp only[*,Cc,mpC,go_sem])
    exact Gc.Cd (by simp[Lq,AH.refs,Ay]) h
   ·skip
    refine Aa ok55 ?_;(try simp only[kL,m1,m2,w1,w2,w3,Cc,mpC,go_sem]);repeat' ((first|apply orR|(apply sp<;>intro hc)|refine Dg ?_|refine Fl (F:=GL) Il (by decide) u0.1 u0.2 (by first|exact BH|exact Bb rfl) ?_|refine Ce u1.1 u1.2 (λe=>absurd e ha) (λ_=> ?_)|refine Ce u2.1 u2.2 (λe=>absurd e hb) (λ_=> ?_)|refine Gf (c:=EP l0 l1 l2 l3) (by first|exact BH|exact Bb rfl) (by first|exact BH|exact Bb rfl) hg ?_|refine F8 h4 ?_)<;>try simp only[*,Cc,mpC,go_sem])
    exact Gc.Cd (by simp[Lq,AH.refs,Ay]) h
 |true=>
  have ha:¬Ep l1=[]:=λe=>by rw[e,bH]at hg;cases hg
  simp only[hg,Bool.true_and]at h h' hn
  by_cases hb:Ep l2=[]
  ·clear h'
   simp only[hb]at hg h hn hlen
   refine Aa ok55 ?_;repeat' first|simp only[*,Cc,mpC,go_sem]|apply orR|(apply sp<;>intro hc)|refine Dg ?_|refine Fl (F:=GL) Il (by decide) u0.1 u0.2 (by first|exact BH|exact Bb rfl) ?_|refine Ce u1.1 u1.2 (λe=>absurd e ha) (λ_=> ?_)|refine Ce u2.1 u2.2 (λe=> ?_) (λ_=>absurd hb ‹_›)|refine Pu (a:=Ep l1) (by first|exact BH|exact Bb rfl) hg ?_|refine Mb (l:=_) (m:=[l0,l1,l2,l3]) hlen rfl (by first|exact BH|exact Bb rfl) (kL _) (by decide) ?_
   ·exact Gc.Cd (by simp[AH.refs,Ay]) (h (decide_eq_false ‹_›))
   ·exact Gc.iV (i:=4) rfl (hn (decide_eq_true ‹_›) trivial)
  ·clear hn
   refine Aa ok55 ?_;repeat' first|simp only[*,Cc,mpC,go_sem]|apply orR|(apply sp<;>intro hc)|refine Dg ?_|refine Fl (F:=GL) Il (by decide) u0.1 u0.2 (by first|exact BH|exact Bb rfl) ?_|refine Ce u1.1 u1.2 (λe=>absurd e ha) (λ_=> ?_)|refine Ce u2.1 u2.2 (λe=>absurd e hb) (λ_=> ?_)|refine Kd (c:=EP l0 l1 l2 l3) (by first|exact BH|exact Bb rfl) (by first|exact BH|exact Bb rfl) hg ?_|refine Mb (l:=K0 (EP l0 l1 l2 l3)) (m:=[l0,l1,l2,l3]) hlen rfl (by first|exact BH|exact Bb rfl) (kL _) (by decide) ?_
   ·exact Gc.Cd (by simp[AH.refs,Ay]) (h (decide_eq_false ‹_›))
   ·exact Gc.call2 (i:=4) (j:=5) rfl rfl (by decide) (h' (decide_eq_true ‹_›) hb)
end
end Go.Proofs.YtlaipllgmddkiaaGreat.Ax

/- Texts put behind one another: STag, SCapW, SMail, SLeaf, SDepth, SLeafT, SBell, SCarve. Conditions: none. -/
import Derived.Test.YtohgndhnndeijaaGreatZGv
set_option linter.all false
set_option maxHeartbeats 9999999
open Nat renaming add_assoc -> Qa, lt_of_lt_of_le -> Qe, mul_comm -> Ql, add_comm -> Qr
open List renaming length_set -> Qb, append_nil -> Qh, getElem?_set_ne -> Qk, append_assoc -> Qm, getD -> Qn, all_eq_true -> Qo, map_set -> Qu
open Bool renaming and_eq_true -> Qc, not_true -> Qg, or_eq_true -> Qi, not_false -> Qj, false_and -> Qp, false_or -> Qq, or_self -> Qs, true_or -> Qt
open Go.Proofs.Tryz renaming prog -> Qd
open BitVec renaming ofInt -> Qf
namespace Go.Ax.M
open Go Go.Ax
def aa(x:Nat×Nat):List AH:=[nS (x.1:Int),nS (x.2:Int)]
def HP(F:List (Nat×Nat)):List (List AH):=F.map aa
def FO(x:Nat×Nat):Nat:=(2^x.2-1)* 2^x.1
def NG(F:List (Nat×Nat)):Nat->Nat
 |0=>0
 |k+1=>(F.getD k (0,0)).1+(F.getD k (0,0)).2
structure aE (F:List (Nat×Nat)):Prop where
 len:F.length<=64
 ok:∀k,k<F.length->NG F k<=(F.getD k (0,0)).1/\1<=(F.getD k (0,0)).2/\(F.getD k (0,0)).1+(F.getD k (0,0)).2<=63
def Kv(F:List (Nat×Nat)):Nat->Nat
 |0=>0
 |k+1=>Kv F k+FO (F.getD k (0,0))
def MF(F:List (Nat×Nat))(v:List Int):Nat->Int
 |0=>0
 |k+1=>MF F v k+v.getD k 0* 2^(F.getD k (0,0)).1
def Cc(l:List Int):List (List AH):=l.map λx=>[nT x]
theorem M0{l:List Int}{k:Nat}(h:k<l.length):(Cc l)[k]?=some [nT (l.getD k 0)]:=by simp[Cc,h,Qn]
@[go_sem] theorem cX {l:List Int}:(Cc l).length=l.length:=by simp[Cc]
theorem Ka{l:List Int}:∀x∈Cc l,∀a∈x,a.plain=true:=by
 intro x hx a ha
 obtain⟨n,-,rfl⟩:=List.mem_map.1 hx
 simp at ha;subst ha;rfl
@[go_sem] theorem ab {l:List (Nat×Nat)}:(HP l).length=l.length:=by simp[HP]
theorem K8{F:List (Nat×Nat)}{k:Nat}(h:k<F.length):(HP F)[k]?=some [nS ((F.getD k (0,0)).1:Int),nS ((F.getD k (0,0)).2:Int)]:=by simp[HP,aa,h,Qn]
theorem Ir{k:Nat}:0<(2:Nat)^k:=Nat.pow_pos (by omega)
theorem FU{a b:Nat}(h:a<=b):(2:Nat)^a<=2^b:=Nat.pow_le_pow_right (by omega) h
theorem T7{x:Nat×Nat}:FO x+2^x.1=2^(x.1+x.2):=by
 have:=Ir (k:=x.2)
 rw[FO,Nat.pow_add,Ql (2^x.1)]
 have e:2^x.2=(2^x.2-1)+1:=by omega
 conv=>rhs;rw[e,Nat.add_mul,Nat.one_mul]
theorem aL{F:List (Nat×Nat)}(h:aE F):∀k,k<=F.length->Kv F k<2^NG F k
 |0,_=>by simp[Kv,NG]
 |k+1,hk=>by
  have:=aL h k (by omega)
  have h2:=h.ok k (by omega)
  have h3:=T7 (x:=F.getD k (0,0))
  have h4:=FU h2.1
  simp only[Kv,NG]
  rw[<-h3,Qr]
  exact Nat.add_lt_add_left (Qe this h4) _
theorem Wl{F:List (Nat×Nat)}{v:List Int}(h:aE F)(hv:∀k,k<F.length->0<=v.getD k 0/\v.getD k 0<2^(F.getD k (0,0)).2):∀k,k<=F.length->0<=MF F v k/\MF F v k<2^NG F k
 |0,_=>by simp[MF,NG]
 |k+1,hk=>by
  have:=Wl h hv k (by omega)
  have h2:=h.ok k (by omega)
  have h3:=hv k (by omega)
  have h4:(2:Int)^NG F k<=2^(F.getD k (0,0)).1:=by exact_mod_cast FU h2.1
  have h5:(0:Int)<2^(F.getD k (0,0)).1:=Int.pow_pos (by omega)
  simp only[MF,NG]
  have h6:v.getD k 0* 2^(F.getD k (0,0)).1<=(2^(F.getD k (0,0)).2-1)* 2^(F.getD k (0,0)).1:=Int.mul_le_mul_of_nonneg_right (by omega) (by omega)
  have h7:0<=v.getD k 0* 2^(F.getD k (0,0)).1:=Int.mul_nonneg h3.1 (by omega)
  have h8:(2:Int)^(F.getD k (0,0)).1+(2^(F.getD k (0,0)).2-1)* 2^(F.getD k (0,0)).1=2^((F.getD k (0,0)).1+(F.getD k (0,0)).2):=by
   rw[Int.pow_add,Int.sub_mul,Int.one_mul,Int.add_comm,Int.sub_add_cancel,Int.mul_comm]
  exact⟨Int.add_nonneg this.1 h7,by rw[<-h8];exact Int.add_lt_add_of_lt_of_le (Int.lt_of_lt_of_le this.2 h4) h6⟩
theorem Yh{a:Int}{b:Nat}(h0:0<=a)(hb:b<=64)(h:a* 2^b<2^64):Dl .shl .u64 a (b:Int)=some (nT (a* 2^b)):=by
 have hp:(0:Int)<2^b:=Int.pow_pos (by omega)
 have h1:0<=a* 2^b:=Int.mul_nonneg h0 (by omega)
 have e:min ((b:Int).toNat) (IntKind.bits .u64)=b:=by simp[IntKind.bits];omega
 unfold Dl
 rw[if_neg (by omega)]
 simp only[e]
 rw[HM h1 h]
theorem UO{a:Int}{b:Nat}(hb:b<=64):Dl .shr .u64 a (b:Int)=some (nT (a/2^b)):=by
 have e:min ((b:Int).toNat) (IntKind.bits .u64)=b:=by simp[IntKind.bits];omega
 unfold Dl
 rw[if_neg (by omega)]
 simp only[e]
 rw[Int.fdiv_eq_ediv_of_nonneg _ (Int.le_of_lt (Int.pow_pos (by omega)))]
theorem Pc{k:Nat}:((2^k:Nat):Int)=2^k:=by simp
theorem bD{f n:Nat}:((FO (f,n):Nat):Int)/2^f=2^n-1:=by
 have hp:0<(2:Nat)^n:=Ir
 have hf:0<(2:Nat)^f:=Ir
 have e:FO (f,n)/2^f=2^n-1:=by rw[FO,Nat.mul_div_cancel _ hf]
 have:=congrArg (λa:Nat=>(a:Int)) e
 simp only[Int.natCast_ediv,Pc]at this
 rw[this,Int.ofNat_sub hp];simp
theorem and_zero{a m f:Nat}(h:a<2^f):a&&&m* 2^f=0:=by
 apply Nat.eq_of_testBit_eq
 intro i
 rw[Ql,Nat.testBit_and,Nat.testBit_two_pow_mul,Nat.zero_testBit]
 by_cases hi:i<f
 ·simp;omega
 ·rw[Nat.testBit_lt_two_pow (Qe h (FU (by omega)))];simp
theorem fg{a m f:Nat}(h:a<2^f):a|||m* 2^f=a+m* 2^f:=by
 rw[Nat.or_comm,Ql,<-Nat.two_pow_add_eq_or_of_lt h,Qr]
structure iI (F:List (Nat×Nat)) (k f n:Nat):Prop where
 get:F.getD k (0,0)=(f,n)
 n1:1<=n
 fn:f+n<=63
 lt:Kv F k<2^f
 en:NG F k<=f
theorem aE.at{F:List (Nat×Nat)}(h:aE F){k:Nat}(hk:k<F.length):∃f n,iI F k f n:=by
 obtain⟨h1,h2,h3⟩:=h.ok k hk
 have:=aL h k (by omega)
 have h4:=FU h1
 exact⟨_,_,rfl,h2,h3,Qe this h4,h1⟩
theorem iI.mlt{F:List (Nat×Nat)}{k f n:Nat}(h:iI F k f n):FO (f,n)<2^63:=by
 have h1:=T7 (x:=(f,n))
 have h2:=FU h.fn
 have h3:=Ir (k:=f)
 simp only at h1
 exact Qe (by rw[<-h1];exact Nat.lt_add_of_pos_right h3) h2
theorem iI.alt{F:List (Nat×Nat)}{k f n:Nat}(h:iI F k f n):Kv F k<2^63:=by
 have h1:=h.lt
 have h2:=h.fn
 exact Qe h1 (FU (by omega))
end Go.Ax.M
namespace Go.Proofs.YtohgndhnndeijaaGreat.Ax
open Go Go.Ax Go.Ax.M
section
variable {H:AP}{K:AH->AP->Prop}{F:List (Nat×Nat)}{o p:Nat}{fl fp ro rp:Bool}
theorem OD{f n:Nat}(h1:1<=n)(h:f+n<=63)(hK:K (nT (FO (f,n):Int)) H):AF Qd 173 [.agg [nS (f:Int),nS (n:Int)]] H K:=by
 have p1:=FU (show n<=63 by omega)
 have p0:=Ir (k:=n)
 have m1:=T7 (x:=(f,n))
 have m2:=FU h
 have p3:=Ir (k:=f)
 simp only at m1
 have e1:Dl .shl .u64 1 (n:Int)=some (nT ((2^n:Nat):Int)):=by
  rw[Yh (by omega) (by omega) (by rw[<-Pc];omega),Int.one_mul,Pc]
 have e2:IntKind.wrap .u64 (((2^n:Nat):Int)-1)=((2^n-1:Nat):Int):=by
  rw[HM (by omega) (by omega)];omega
 have e3:Dl .shl .u64 ((2^n-1:Nat):Int) (f:Int)=some (nT (FO (f,n):Int)):=by
  have e:((2^n-1:Nat):Int)* 2^f=(FO (f,n):Int):=by rw[<-Pc];simp only[FO,Int.natCast_mul]
  rw[Yh (by omega) (by omega) (by rw[e];omega),e]
 refine AF.tidy ?_
 refine Aa ok173 ?_;(try simp only[e1,e2,e3,go_sem]);repeat' ((first|apply orR|(apply sp<;>intro hc)|fail)<;>try simp only[*,go_sem])
 exact⟨rfl,⟨_,rfl⟩,hK⟩
theorem UQ(hF:aE F)(ho:H[o]?=some (.AU 2 (HP F) ro))(hK:K (.Bj [nT (Kv F F.length:Int),.bool true]) H):AF Qd 216 [.slice o F.length 0 F.length fl] H K:=by
 have k1:=AL.of ho
 have hlen:=hF.len
 refine AF.tidy ?_
 refine Aa ok216 ?_;(try simp only[k1,go_sem]);repeat' ((first|apply orR|(apply sp<;>intro hc)|fail)<;>try simp only[*,go_sem])
 refine AK.Az [4,9,7,8] ?_;simp only[mpC,go_sem]
 refine AK.heap (Qh H).symm ?_
 refine AK.acc (λk G=>[(4,nT (Kv F k:Int)),(9,nS (k:Int))]) (λk G=>H++G) (λk G=>True) F.length ?_ (a0:=[]) trivial
 intro k G hk _ next
 refine AK.Jn λW hW=> ?_
 have k1:=k1.ex hW.ex
 have k10:=k1.at
 refine AK.unfold ?_
 have hw:=AY (k:=k) (by omega)
 by_cases hkF:k<F.length
 ·obtain⟨f,n,af⟩:=hF.at hkF
  have hg:=K8 hkF
  rw[af.get]at hg
  simp only at hg
  have hs:Kv F (k+1)=Kv F k+FO (f,n):=by rw[Kv,af.get]
  have fn:=af.fn
  have n1:=af.n1
  have a1:((f:Int)<0)=False:=eq_false (by omega)
  have a2:((64:Int)<=(f:Int))=False:=eq_false (by omega)
  have a3:((n:Int)<1)=False:=eq_false (by omega)
  have a4:IntKind.wrap .i64 (64-(f:Int))=64-(f:Int):=w64 (by omega) (by omega)
  have a5:((64-(f:Int))<(n:Int))=False:=eq_false (by omega)
  have a6:IntKind.wrap .u64 ((Qf (IntKind.bits .u64) (Kv F k:Int)&&&Qf (IntKind.bits .u64) (FO (f,n):Int)).toNat:Int)=0:=by
   have:=Tg (a:=Kv F k) (b:=FO (f,n)) (by have:=af.alt;omega) (by have:=af.mlt;omega)
   rw[show FO (f,n)=(2^n-1)* 2^f from rfl,and_zero af.lt]at this
   exact this
  have a7:IntKind.wrap .u64 ((Qf (IntKind.bits .u64) (Kv F k:Int)|||Qf (IntKind.bits .u64) (FO (f,n):Int)).toNat:Int)=(Kv F (k+1):Int):=by
   have:=bP (a:=Kv F k) (b:=FO (f,n)) (by have:=af.alt;omega) (by have:=af.mlt;omega)
   rw[show FO (f,n)=(2^n-1)* 2^f from rfl,fg af.lt]at this
   rw[hs];exact this
  clear hs
  simp only[go_sem]at a6 a7
  (try simp only[k1,k10,hw,hg,hkF,a1,a2,a3,a4,a5,a6,a7,AA b216_4.eq_1,AR,AX,apC,go_sem]);repeat' ((first|apply orR|(apply sp<;>intro hc)|refine OD n1 fn ?_)<;>try simp only[*,AA b216_4.eq_1,AR,AX,apC,go_sem])
  have hW:W=_:=hW
  subst hW
  simp only[Qm]
  (refine AK.Az [4,9,7,8] ?_;simp only[mpC,go_sem];refine next _ hkF trivial)
 ·have:k=F.length:=by omega
  subst this
  (try simp only[k1,k10,hw,hkF,AA b216_4.eq_1,AR,AX,apC,go_sem]);repeat' ((first|apply orR|(apply sp<;>intro hc)|fail)<;>try simp only[*,AA b216_4.eq_1,AR,AX,apC,go_sem])
  have hW:W=_:=hW
  subst hW
  exact⟨rfl,⟨_,rfl⟩,hK⟩
theorem MW(hF:aE F)(ho:H[o]?=some (.AU 2 (HP F) ro))(hK:K (.bool true) H):AF Qd 172 [.slice o F.length 0 F.length fl] H K:=by
 have k1:=AL.of ho
 refine AF.tidy ?_
 refine Aa ok172 ?_;(try simp only[k1,go_sem]);repeat' ((first|apply orR|(apply sp<;>intro hc)|refine UQ hF ho ?_)<;>try simp only[*,go_sem])
 exact⟨rfl,[],(Qh _).symm⟩
theorem Ni{v:List Int}(hF:aE F)(ho:H[o]?=some (.AU 2 (HP F) ro))(hp:H[p]?=some (.AU 1 (Cc v) rp))(hvl:v.length=F.length)(hv:∀k,k<F.length->0<=v.getD k 0/\v.getD k 0<2^(F.getD k (0,0)).2)
 (hK:K (.Bj [nT (MF F v F.length),.bool true]) H):AF Qd 116 [.slice o F.length 0 F.length fl,.slice p v.length 0 v.length fp] H K:=by
 have k1:=AL.of ho
 have k2:=AL.of hp
 have hlen:=hF.len
 have hvl':((F.length:Int)=(v.length:Int))=True:=eq_true (by omega)
 have hvh:Hid (v.length=F.length):=hvl
 clear hvl
 refine AF.tidy ?_
 refine Aa ok116 ?_;(try simp only[k1,k2,hvl',go_sem]);repeat' ((first|apply orR|(apply sp<;>intro hc)|refine MW hF ho ?_)<;>try simp only[*,go_sem])
 refine AK.Az [6,21,1,19,20] ?_;simp only[mpC,go_sem]
 refine AK.heap (Qh H).symm ?_
 refine AK.acc (λk G=>[(6,nT (MF F v k)),(21,nS (k:Int))]) (λk G=>H++G) (λk G=>True) F.length ?_ (a0:=[]) trivial
 intro k G hk _ next
 refine AK.Jn λW hW=> ?_
 have k1:=k1.ex hW.ex
 have k2:=k2.ex hW.ex
 have k10:=k1.at
 have k20:=k2.at
 refine AK.unfold ?_
 have hw:=AY (k:=k) (by omega)
 by_cases hkF:k<F.length
 ·obtain⟨f,n,af⟩:=hF.at hkF
  have hg:=K8 hkF
  have hvk:=hv k hkF
  have hput:=Wl hF hv k (by omega)
  have hput2:=Wl hF hv (k+1) (by omega)
  have hs:MF F v (k+1)=MF F v k+v.getD k 0* 2^f:=by rw[MF,af.get]
  have he:NG F (k+1)=f+n:=by rw[NG,af.get]
  rw[af.get]at hg hvk
  simp only at hg hvk
  have hkv:k<v.length:=by have:v.length=F.length:=hvh;omega
  have hgv:=M0 hkv
  have fn:=af.fn
  have n1:=af.n1
  have pe:(2:Int)^NG F k<=2^f:=by exact_mod_cast FU af.en
  have pf:(2:Int)^(f+n)<=2^63:=by exact_mod_cast FU fn
  rw[he]at hput2
  have b1:Dl .shr .u64 ((FO (f,n):Nat):Int) (f:Int)=some (nT (2^n-1)):=by
   rw[UO (by omega),bD]
  have b2:((2:Int)^n-1<v.getD k 0)=False:=eq_false (by omega)
  have b3:Dl .shl .u64 (v.getD k 0) (f:Int)=some (nT (v.getD k 0* 2^f)):=Yh hvk.1 (by omega) (by omega)
  have b4:IntKind.wrap .u64 ((Qf (IntKind.bits .u64) (MF F v k)|||Qf (IntKind.bits .u64) (v.getD k 0* 2^f)).toNat:Int)=MF F v (k+1):=by
   rw[hs];exact bO hput.1 (by omega) hvk.1 (by omega)
  have kv:((k:Int)<(v.length:Int))=True:=eq_true (by omega)
  clear hs hput hput2 hvk he hv
  generalize v.getD k 0=x at*
  simp only[go_sem]at b4
  (try simp only[k1,k10,k2,k20,hw,hg,hgv,hkF,kv,b1,b2,b3,b4,AA b116_5.eq_1,AR,AX,apC,go_sem]);repeat' ((first|apply orR|(apply sp<;>intro hc)|refine OD n1 fn ?_)<;>try simp only[*,AA b116_5.eq_1,AR,AX,apC,go_sem])
  have hW:W=_:=hW
  subst hW
  simp only[Qm]
  (refine AK.Az [6,21,1,19,20] ?_;simp only[mpC,go_sem];refine next _ hkF trivial)
 ·have:k=F.length:=by omega
  subst this
  (try simp only[k1,k10,hw,hkF,AA b116_5.eq_1,AR,AX,apC,go_sem]);repeat' ((first|apply orR|(apply sp<;>intro hc)|fail)<;>try simp only[*,AA b116_5.eq_1,AR,AX,apC,go_sem])
  have hW:W=_:=hW
  subst hW
  exact⟨rfl,⟨_,rfl⟩,hK⟩
end
end Go.Proofs.YtohgndhnndeijaaGreat.Ax
namespace Go.Ax.M
open Go Go.Ax
def MB:List (Nat×Nat):=[(0,8),(8,8),(16,16),(32,16)]
theorem cp:aE MB:=⟨by decide,by decide⟩
def Pw(c:Bh):List Int:=[c.ty,c.ri,c.ba,c.th]
theorem NB{c:Bh}(h:Bq c=true):0<=c.ty/\c.ty<=5/\0<=c.ri/\c.ri<=7/\0<=c.ba/\c.ba<=65535/\0<=c.th/\c.th<=47:=by
 simp only[Bq,Qi,Qc]at h
 rcases h with h|⟨h1,h2,h3,h4,-⟩
 ·simp only[Aq,Qc,decide_eq_true_eq]at h;omega
 ·simp only[BX,C2,DO]at h1 h2 h3 h4
  omega
theorem cq{c:Bh}(h:Bq c=true):∀k,k<MB.length->0<=(Pw c).getD k 0/\(Pw c).getD k 0<2^(MB.getD k (0,0)).2:=by
 intro k hk
 have:=NB h
 have hk:k<4:=hk
 rcases k with _|_|_|_|k
 ·simp[Pw,MB];omega
 ·simp[Pw,MB];omega
 ·simp[Pw,MB];omega
 ·simp[Pw,MB];omega
 ·omega
theorem ct{c:Bh}(h:Bq c=true):MF MB (Pw c) MB.length=Hv c:=by
 simp[MF,MB,Pw,Hv,h]
end Go.Ax.M
namespace Go.Proofs.YtohgndhnndeijaaGreat.Ax
open Go Go.Ax Go.Ax.M
section
variable {H:AP}{K:AH->AP->Prop}{c:Bh}
theorem PF(h:K (.slice H.length 4 0 4 true) (H++[.AU 2 (HP MB) false])):AF Qd 117 [] H K:=by
 refine AF.gc ?_
 refine Aa ok117 ?_;(try simp only[go_sem]);repeat' ((first|apply orR|(apply sp<;>intro hc)|fail)<;>try simp only[*,go_sem])
 exact Gc.slice (i:=0) rfl (by decide) h
theorem SK(hg:Bq c=true)(hK:K (.Bj [nT (Hv c),.bool true]) H):AF Qd 67 [.agg c.cells] H K:=by
 have hi:=NB hg
 have w1:IntKind.wrap .u64 c.ty=c.ty:=HM (by omega) (by omega)
 have w2:IntKind.wrap .u64 c.ri=c.ri:=HM (by omega) (by omega)
 have w3:IntKind.wrap .u64 c.ba=c.ba:=HM (by omega) (by omega)
 have w4:IntKind.wrap .u64 c.th=c.th:=HM (by omega) (by omega)
 refine AF.tidy ?_
 unfold Bh.cells
 refine Aa ok67 ?_;(try simp only[hg,w1,w2,w3,w4,go_sem]);repeat' ((first|apply orR|(apply sp<;>intro hc)|refine Mj ?_|refine PF ?_|refine Ni (F:=MB) (v:=Pw c) cp (by first|exact BH|exact Bb rfl) (by first|exact BH|exact Bb rfl) rfl (cq hg) ?_)<;>try simp only[*,go_sem])
 exact⟨rfl,⟨_,rfl⟩,by rw[ct hg];exact hK⟩
end
section
variable {H:AP}{K:AH->AP->Prop}{s:State}{oS oT:Nat}{fS fT rS rT:Bool}{c:M.Call}{oA oB:Nat}{fA fB rA rB:Bool}
theorem RK{th q:Int}{box:Bh}(hS:jI H oS s rS)(hT:jU H oT s rT)(hA:H[oA]?=some (.AU 1 (ints c.a) rA))(hB:H[oB]?=some (.AU 1 (ints c.b) rB))
 (ok:Ft s) (hbx:BD s box.th=true)
 (h:(Cj s th c box).st=none->K (.Bj [stA s oS oT fS fT,(Cj s th c box).Ap]) H)
 (h':∀s',(Cj s th c box).st=some s'->K (.Bj [BT s' H.length (H.length+1) false false,(Cj s th c box).Ap]) (H++[AM s',AJ s'])):
 AF Qd 154 [stA s oS oT fS fT,nS th,.agg [nS q,.slice oA c.a.length 0 c.a.length fA,.slice oB c.b.length 0 c.b.length fB,nS c.x,nS c.y,nT c.w],.agg box.cells] H K:=by
 have kT:=AL.of hT
 have kS:=AL.of hS
 have kB:=AL.of hB
 have hg:=Dt hbx
 have key:∀e,Cj s th c box= .bad e->K (.Bj [stA s oS oT fS fT,.agg [nS e,nT 0,nS 0]]) H:=λe he=>by rw[he]at h;exact h rfl
 have hv:=λe=>show(AH.Bj [stA s oS oT fS fT,.agg [nS e,nT 0,nS 0]]).refs (λo=>o<H.length) by simp[AH.refs,Ay];exact⟨Am hS,Am hT⟩
 clear h
 have hwf:(AO s th c.b).2.2=0->IntKind.wrap .i64 ((AO s th c.b).1+1)=(AO s th c.b).1+1:=λh=>by have:=CA h;have:=ok.lS;exact w64 (by omega) (by omega)
 refine AF.gc ?_
 unfold Bh.cells
 refine Aa ok154 ?_;(try simp only[kS,kT,kB,hg,BT,AM,AJ,Qb,Bh.cells,Qa,go_sem]);repeat' ((first|refine orR ?_|(refine sp ?_ ?_<;>intro hc)|refine DC ?_|refine CN (kS _) (kT _) (kB _) ?_|refine A3 (kS _) (kT _) (FL ok.DR) (Gm ok.DR) (DL ok.DR) (DM ok.DR) ?_)<;>try simp only[*,BT,AM,AJ,Qb,Bh.cells,Qa,go_sem])
 case' refine_1.refine_2.refine_2.refine_2.refine_2=>
  have e:Cj s th c box=⟨0,0,0,some (boxed s box.th (Fo ((AO s th c.b).1+1) box.ba c.w))⟩:=by(first|(simp only[Cj,Cu, *,bs,go_sem];done)|(simp_all[Cj,Cu]<;>omega)|grind[Cj,Cu])
  rw[e]at h'
  have h':=h' _ rfl
  have el:(boxed s box.th (Fo ((AO s th c.b).1+1) box.ba c.w)).AB.length=s.AB.length:=by simp[boxed]
  rw[<-el]
  exact Gc.stateT (s:=boxed s box.th (Fo ((AO s th c.b).1+1) box.ba c.w)) (i:=6) (j:=7) rfl (by simp only[AJ,boxed,<-DQ];rfl) (by decide) (by simp[AH.plain,Ah]) h'
 case' refine_2.refine_2=>
  have e:Cj s th c box=⟨0,0,0,some (boxed s box.th (Fo 0 box.ba c.w))⟩:=by(first|(simp only[Cj,Cu, *,bs,go_sem];done)|(simp_all[Cj,Cu]<;>omega)|grind[Cj,Cu])
  rw[e]at h'
  have h':=h' _ rfl
  have el:(boxed s box.th (Fo 0 box.ba c.w)).AB.length=s.AB.length:=by simp[boxed]
  rw[<-el]
  exact Gc.stateT (s:=boxed s box.th (Fo 0 box.ba c.w)) (i:=5) (j:=6) rfl (by simp only[AJ,boxed,<-DQ];rfl) (by decide) (by simp[AH.plain,Ah]) h'
 all_goals exact Gc.Cd (hv _) (key _ (by(first|(simp only[Cj,Cu, *,bs,go_sem];done)|(simp_all[Cj,Cu]<;>omega)|grind[Cj,Cu])))
theorem RJ{th q:Int}{box:Bh}(hS:jI H oS s rS)(hT:jU H oT s rT)(hA:H[oA]?=some (.AU 1 (ints c.a) rA))(hB:H[oB]?=some (.AU 1 (ints c.b) rB))
 (ok:Ft s) (hbx:BD s box.th=true)
 (h:(CI s th c box).st=none->K (.Bj [stA s oS oT fS fT,(CI s th c box).Ap]) H)
 (h':∀s',(CI s th c box).st=some s'->K (.Bj [BT s' H.length (H.length+1) false false,(CI s th c box).Ap]) (H++[AM s',AJ s'])):
 AF Qd 155 [stA s oS oT fS fT,nS th,.agg [nS q,.slice oA c.a.length 0 c.a.length fA,.slice oB c.b.length 0 c.b.length fB,nS c.x,nS c.y,nT c.w],.agg box.cells] H K:=by
 have kT:=AL.of hT
 have kS:=AL.of hS
 have kB:=AL.of hB
 have hg:=Dt hbx
 have hbx':box.th.toNat<s.AB.length:=by have:=hbx;simp[BD]at this;omega
 have key:∀e,CI s th c box= .bad e->K (.Bj [stA s oS oT fS fT,.agg [nS e,nT 0,nS 0]]) H:=λe he=>by rw[he]at h;exact h rfl
 have hv:=λe=>show(AH.Bj [stA s oS oT fS fT,.agg [nS e,nT 0,nS 0]]).refs (λo=>o<H.length) by simp[AH.refs,Ay];exact⟨Am hS,Am hT⟩
 clear h
 have hf:0<(s.AG box.th.toNat).from_->IntKind.wrap .i64 ((s.AG box.th.toNat).from_-1)=(s.AG box.th.toNat).from_-1/\(0<=(s.AG box.th.toNat).from_-1)=True/\((s.AG box.th.toNat).from_-1<(s.AE.length:Int))=True:=λh=>by
  have:=(Lx ok hbx' h).1
  have:=ok.lS
  exact⟨w64 (by omega) (by omega),eq_true (by omega),eq_true (by omega)⟩
 have hf2:0<(s.AG box.th.toNat).from_->_:=λh=>A4 (s:=s) (k:=((s.AG box.th.toNat).from_-1).toNat) (by have:=(Lx ok hbx' h).1;omega)
 refine AF.gc ?_
 unfold Bh.cells
 refine Aa ok155 ?_;(try simp only[kS,kT,kB,hg,hf,hf2,DX,F1,D0,BT,AM,AJ,Qb,Bh.cells,Qa,go_sem]);repeat' ((first|refine orR ?_|(refine sp ?_ ?_<;>intro hc)|refine Hr (kS _) (kT _) (kB _) ?_|refine A3 (kS _) (kT _) (FL ok.DR) (Gm ok.DR) (DL ok.DR) (DM ok.DR) ?_|refine P9 (kS _) (kT _) (λhc=> ?_) (λhc=> ?_))<;>try simp only[*,DX,F1,D0,BT,AM,AJ,Qb,Bh.cells,Qa,go_sem])
 case' refine_2.refine_1.refine_1.refine_2.refine_2=>
  have e:CI s th c box=GB s (CW s ((s.AG box.th.toNat).from_-1) (Ak s th c.b).1 (s.slot ((s.AG box.th.toNat).from_-1).toNat).cap) box:=by(first|(simp only[CI, *,bs,go_sem];done)|(simp_all[CI]<;>omega)|grind[CI])
  rw[e]at h'
  have h':=h' _ rfl
  have el:(boxed (CW s ((s.AG box.th.toNat).from_-1) (Ak s th c.b).1 (s.slot ((s.AG box.th.toNat).from_-1).toNat).cap) box.th GK).AB.length=s.AB.length:=by simp[boxed,DX]
  have el2:(boxed (CW s ((s.AG box.th.toNat).from_-1) (Ak s th c.b).1 (s.slot ((s.AG box.th.toNat).from_-1).toNat).cap) box.th GK).AE.length=s.AE.length:=by simp[boxed,D0]
  rw[<-el,<-el2]
  exact Gc.stateT (s:=boxed (CW s ((s.AG box.th.toNat).from_-1) (Ak s th c.b).1 (s.slot ((s.AG box.th.toNat).from_-1).toNat).cap) box.th GK) (i:=9) (j:=10) rfl (by simp only[AJ,boxed,<-DQ];rfl) (by decide) (by simp[AH.plain,Ah]) h'
 case' refine_2.refine_1.refine_2=>
  have e:CI s th c box=GB s s box:=by(first|(simp only[CI, *,bs,go_sem];done)|(simp_all[CI]<;>omega)|grind[CI])
  rw[e]at h'
  have h':=h' _ rfl
  have el:(boxed s box.th GK).AB.length=s.AB.length:=by simp[boxed]
  rw[<-el]
  exact Gc.stateT (s:=boxed s box.th GK) (i:=6) (j:=7) rfl (by simp only[AJ,boxed,<-DQ];rfl) (by decide) (by simp[AH.plain,Ah]) h'
 case' refine_2.refine_2=>
  have e:CI s th c box=GB s s box:=by(first|(simp only[CI, *,bs,go_sem];done)|(simp_all[CI]<;>omega)|grind[CI])
  rw[e]at h'
  have h':=h' _ rfl
  have el:(boxed s box.th GK).AB.length=s.AB.length:=by simp[boxed]
  rw[<-el]
  exact Gc.stateT (s:=boxed s box.th GK) (i:=6) (j:=7) rfl (by simp only[AJ,boxed,<-DQ];rfl) (by decide) (by simp[AH.plain,Ah]) h'
 all_goals exact Gc.Cd (hv _) (key _ (by(first|(simp only[CI, *,bs,go_sem];done)|(simp_all[CI]<;>omega)|grind[CI])))
theorem VJ{th q x0 x1 x2 x3:Int}(hS:jI H oS s rS)(hT:jU H oT s rT)(hA:H[oA]?=some (.AU 1 (ints c.a) rA))(hB:H[oB]?=some (.AU 1 (ints c.b) rB))
 (ok:Ft s) (hbx:BD s x1=true)
 (h:(Cj s th c ⟨x0,x1,x2,x3⟩).st=none->K (.Bj [stA s oS oT fS fT,(Cj s th c ⟨x0,x1,x2,x3⟩).Ap]) H)
 (h':∀s',(Cj s th c ⟨x0,x1,x2,x3⟩).st=some s'->K (.Bj [BT s' H.length (H.length+1) false false,(Cj s th c ⟨x0,x1,x2,x3⟩).Ap]) (H++[AM s',AJ s'])):
 AF Qd 154 [stA s oS oT fS fT,nS th,.agg [nS q,.slice oA c.a.length 0 c.a.length fA,.slice oB c.b.length 0 c.b.length fB,nS c.x,nS c.y,nT c.w],.agg [nS x0,nS x1,nS x2,nS x3]] H K:=RK (box:=⟨x0,x1,x2,x3⟩) hS hT hA hB ok hbx h h'
theorem VI{th q x0 x1 x2 x3:Int}(hS:jI H oS s rS)(hT:jU H oT s rT)(hA:H[oA]?=some (.AU 1 (ints c.a) rA))(hB:H[oB]?=some (.AU 1 (ints c.b) rB))
 (ok:Ft s) (hbx:BD s x1=true)
 (h:(CI s th c ⟨x0,x1,x2,x3⟩).st=none->K (.Bj [stA s oS oT fS fT,(CI s th c ⟨x0,x1,x2,x3⟩).Ap]) H)
 (h':∀s',(CI s th c ⟨x0,x1,x2,x3⟩).st=some s'->K (.Bj [BT s' H.length (H.length+1) false false,(CI s th c ⟨x0,x1,x2,x3⟩).Ap]) (H++[AM s',AJ s'])):
 AF Qd 155 [stA s oS oT fS fT,nS th,.agg [nS q,.slice oA c.a.length 0 c.a.length fA,.slice oB c.b.length 0 c.b.length fB,nS c.x,nS c.y,nT c.w],.agg [nS x0,nS x1,nS x2,nS x3]] H K:=RJ (box:=⟨x0,x1,x2,x3⟩) hS hT hA hB ok hbx h h'
theorem H8{th:Int}(hS:jI H oS s rS)(hT:jU H oT s rT)(hA:H[oA]?=some (.AU 1 (ints c.a) rA))(hB:H[oB]?=some (.AU 1 (ints c.b) rB))
 (h:(BC s th c).st=none->K (.Bj [stA s oS oT fS fT,(BC s th c).Ap]) H)
 (h':∀s',(BC s th c).st=some s'->K (.Bj [BT s' H.length (H.length+1) false false,(BC s th c).Ap]) (H++[AM s',AJ s'])):
 AF Qd 103 [stA s oS oT fS fT,nS th,.agg [nS c.op,.slice oA c.a.length 0 c.a.length fA,.slice oB c.b.length 0 c.b.length fB,nS c.x,nS c.y,nT c.w]] H K:=by
 have kT:=AL.of hT
 have kS:=AL.of hS
 have kA:=AL.of hA
 have kB:=AL.of hB
 have key:∀e,BC s th c= .bad e->K (.Bj [stA s oS oT fS fT,.agg [nS e,nT 0,nS 0]]) H:=λe he=>by rw[he]at h;exact h rfl
 have hv:=λe w n=>show(AH.Bj [stA s oS oT fS fT,.agg [nS e,nT w,nS n]]).refs (λo=>o<H.length) by simp[AH.refs,Ay];exact⟨Am hS,Am hT⟩
 refine AF.gc ?_
 refine Aa ok103 ?_;(try simp only[BT,AM,AJ,Qb,Bh.cells,Qa,CD.Ap,go_sem]);repeat' ((first|refine orR ?_|(refine sp ?_ ?_<;>intro hc)|refine Aw (kA _) (kB _) ?_|refine CN (kS _) (kT _) (kA _) ?_|refine DC ?_|refine VJ (kS _) (kT _) (kA _) (kB _) (CA ‹_›).2.2.1 (Cx ‹_›) (λhc=> ?_) (λs' hc=> ?_)|refine VI (kS _) (kT _) (kA _) (kB _) (CA ‹_›).2.2.1 (Cx ‹_›) (λhc=> ?_) (λs' hc=> ?_))<;>try simp only[*,BT,AM,AJ,Qb,Bh.cells,Qa,CD.Ap,go_sem])
 all_goals try exact Gc.Cd (hv _ _ _) (key _ (by(first|(simp only[BC, *,bs,go_sem];done)|(simp_all[BC]<;>omega)|grind[BC])))
 all_goals
  have eb:(⟨3,(AO s th c.a).2.1.th,(AO s th c.a).2.1.ri,(AO s th c.a).2.1.ba⟩:Bh)=(AO s th c.a).2.1:=by
   have ht:(AO s th c.a).2.1.ty=3:=by assumption
   rw[<-ht]
 case' refine_1.refine_1.refine_2.refine_2.refine_2.refine_2.refine_1=>
  have e:BC s th c=CI s th c ⟨3,(AO s th c.a).2.1.th,(AO s th c.a).2.1.ri,(AO s th c.a).2.1.ba⟩:=by rw[eb];clear eb h h' key;(first|(simp only[BC, *,bs,go_sem];done)|(simp_all[BC]<;>omega)|grind[BC])
  rw[e]at h
  exact Gc.Cd (hv _ _ _) (h ‹_›)
 case' refine_1.refine_2.refine_2.refine_2.refine_2.refine_1=>
  have e:BC s th c=Cj s th c ⟨3,(AO s th c.a).2.1.th,(AO s th c.a).2.1.ri,(AO s th c.a).2.1.ba⟩:=by rw[eb];clear eb h h' key;(first|(simp only[BC, *,bs,go_sem];done)|(simp_all[BC]<;>omega)|grind[BC])
  rw[e]at h
  exact Gc.Cd (hv _ _ _) (h ‹_›)
 case' refine_1.refine_1.refine_2.refine_2.refine_2.refine_2.refine_2=>
  have e:BC s th c=CI s th c ⟨3,(AO s th c.a).2.1.th,(AO s th c.a).2.1.ri,(AO s th c.a).2.1.ba⟩:=by rw[eb];clear eb h h' key;(first|(simp only[BC, *,bs,go_sem];done)|(simp_all[BC]<;>omega)|grind[BC])
 case' refine_1.refine_2.refine_2.refine_2.refine_2.refine_2=>
  have e:BC s th c=Cj s th c ⟨3,(AO s th c.a).2.1.th,(AO s th c.a).2.1.ri,(AO s th c.a).2.1.ba⟩:=by rw[eb];clear eb h h' key;(first|(simp only[BC, *,bs,go_sem];done)|(simp_all[BC]<;>omega)|grind[BC])
 all_goals
  rw[e]at h'
  exact Gc.stateT (i:=5) (j:=6) rfl rfl (by decide) (by simp[AH.plain,Ah]) (h' _ ‹_›)
end
section
variable {H:AP}{K:AH->AP->Prop}{s:State}{th op x y w:Int}{a b:List Int}{oS oT oA oB:Nat}{fS fT rS rT fA fB rA rB:Bool}
theorem S2{op x y w:Int}{a b:List Int}(ho:op=11\/op=12)(h:AT ⟨op,a,b,x,y,w⟩=true):x=0\/x=1\/x=2\/x=3:=by
 simp only[AT,Qc]at h
 obtain⟨-,h1,-,h2,-⟩:=h
 rcases ho with rfl|rfl<;>simp[C0,Bv]at h2<;>omega
theorem RE{x y w:Int}{a b:List Int}(h:AT ⟨11,a,b,x,y,w⟩=true):Bg s th ⟨11,a,b,x,y,w⟩=
 bif !decide ((AO s th a).2.2=0)then .bad (AO s th a).2.2 else bif !decide ((AO s th a).2.1.ty=5)then .bad 7 else bif !Bd 2 (AO s th a).2.1.ri then .bad 6
 else⟨0,0,0,some (boxed s (AO s th a).2.1.th (My (s.AG (AO s th a).2.1.th.toNat) x w))⟩:=by
 simp only[Bg,h,show decide ((11:Int)=11)=true from rfl,show decide ((11:Int)=13)=false from rfl,show decide ((11:Int)=12)=false from rfl,Qg,Qp,Qs,cond_false];rfl
theorem aq{x y w:Int}{a b:List Int}(h:AT ⟨12,a,b,x,y,w⟩=true):Bg s th ⟨12,a,b,x,y,w⟩=
 bif !decide ((AO s th a).2.2=0)then .bad (AO s th a).2.2 else bif !decide ((AO s th a).2.1.ty=5)then .bad 7 else bif !Bd 1 (AO s th a).2.1.ri then .bad 6
 else⟨0,Lg (s.AG (AO s th a).2.1.th.toNat) x,0,none⟩:=by
 simp only[Bg,h,show decide ((12:Int)=11)=false from rfl,show decide ((12:Int)=13)=false from rfl,show decide ((12:Int)=12)=true from rfl,Qg,Qj,Bool.true_and,Qp,Qs,cond_false,cond_true];rfl
set_option maxHeartbeats 8000000 in
theorem KH(ho:op=11\/op=12)(hS:jI H oS s rS)(hT:jU H oT s rT)(hA:H[oA]?=some (.AU 1 (ints a) rA))(hB:H[oB]?=some (.AU 1 (ints b) rB))
 (h:(Bg s th ⟨op,a,b,x,y,w⟩).st=none->K (.Bj [stA s oS oT fS fT,(Bg s th ⟨op,a,b,x,y,w⟩).Ap]) H)
 (h':∀s',(Bg s th ⟨op,a,b,x,y,w⟩).st=some s'->K (.Bj [BT s' H.length (H.length+1) false false,(Bg s th ⟨op,a,b,x,y,w⟩).Ap]) (H++[AM s',AJ s'])):
 AF Qd 105 [stA s oS oT fS fT,nS th,.agg [nS op,.slice oA a.length 0 a.length fA,.slice oB b.length 0 b.length fB,nS x,nS y,nT w]] H K:=by
 have kT:=AL.of hT
 have kS:=AL.of hS
 have kA:=AL.of hA
 have kB:=AL.of hB
 have key:∀e v n:Int,Bg s th ⟨op,a,b,x,y,w⟩=⟨e,v,n,none⟩->K (.Bj [stA s oS oT fS fT,.agg [nS e,nT v,nS n]]) H:=λe v n he=>by rw[he]at h;exact h rfl
 have hv:=fun(e v n:Int)=>show(AH.Bj [stA s oS oT fS fT,.agg [nS e,nT v,nS n]]).refs (λo=>o<H.length) by simp[AH.refs,Ay];exact⟨Am hS,Am hT⟩
 clear h
 have hroom:(AO s th a).2.2=0->_:=λh=>Dt (Cx h)
 have hgood:(AO s th a).2.2=0->BN s=true:=λh=>(Ek h).1.ok.DR
 cases hcg:AT ⟨op,a,b,x,y,w⟩with
 |false=>
  refine AF.gc ?_
  refine Aa ok105 ?_;repeat' first|simp only[*,BT,AM,AJ,Qa,go_sem]|apply orR|(apply sp<;>intro hc)|refine Aw (c:=⟨op,a,b,x,y,w⟩) (kA _) (kB _) ?_
  exact Gc.Cd (hv _ _ _) (key _ _ _ (by simp only[Bg,hcg,Qj,Qt,cond_true,CD.bad]))
 |true=>
 have hx:=S2 ho hcg
 rcases ho with rfl|rfl
 all_goals rcases hx with rfl|rfl|rfl|rfl
 all_goals
  refine AF.gc ?_
  refine Aa ok105 ?_;(try simp only[BT,AM,AJ,Qa,Bh.cells,hroom,hcg,Qb,go_sem]);repeat' ((first|apply orR|(apply sp<;>intro hc)|refine Aw (c:=⟨_,a,b,_,y,w⟩) (kA _) (kB _) ?_|refine CN (kS _) (kT _) (kA _) ?_|refine DC ?_|refine A3 (kS _) (kT _) (FL (hgood ‹_›)) (Gm (hgood ‹_›)) (DL (hgood ‹_›)) (DM (hgood ‹_›)) ?_)<;>try simp only[*,BT,AM,AJ,Qa,Bh.cells,Qb,go_sem])
 all_goals clear hroom hgood
 all_goals try exact Gc.Cd (hv _ _ _) (key _ _ _ (by
  first|rw[RE hcg]|rw[aq hcg]
  simp[*,CD.bad,Lg]))
 all_goals
  clear key
  rw[RE hcg]at h'
  have h':=h' _ (by simp[*];rfl)
  generalize ht:My (s.AG (AO s th a).2.1.th.toNat) _ w=t at h'
  refine Gc.Jg (s':=boxed s (AO s th a).2.1.th t) (r:=some (boxed s (AO s th a).2.1.th t)) (i:=5) (j:=6) rfl (by rw[<-ht];simp only[AJ,boxed,<-DQ,My];rfl) (λs' e=> ?_) (by decide) (by simp[AH.plain,Ah]) rfl (by simp[boxed]) ⟨rfl,rfl,rfl⟩ rfl
  injection e with e
  subst e
  simpa [*,CD.Ap] using h'
end
end Go.Proofs.YtohgndhnndeijaaGreat.Ax
namespace Go.Ax.M
open Go Go.Ax
theorem cy:∀(n m:Nat) (up:List Int) (a:Int),n<=m->CH up n a=true->CH up m a=true:=by
 intro n
 induction n with
 |zero=>
  intro m up a _ h
  cases m with
  |zero=>exact h
  |succ m=>simp only[CH]at h ⊢;rw[h];rfl
 |succ n ih=>
  intro m up a hm h
  cases m with
  |zero=>omega
  |succ m=>
   simp only[CH,Qi]at h ⊢
   exact h.imp id (ih m _ _ (by omega))
structure M4 (up:List Int) (D k:Nat) (a:Int):Prop where
 at_:a=-1\/E0 up a=true
 le:k<=up.length+1
 ends:CH up (up.length+1-k) a=true
 num:DK.stepsD up (up.length+1-k) a+k=D
theorem ew{up:List Int}(h:Cm up=true){a:Int}(ha:E0 up a=true):up.getD a.toNat 0=-1\/E0 up (up.getD a.toNat 0)=true:=by
 simp only[Cm,Qc]at h
 simp only[E0,Qc,decide_eq_true_eq,Bool.not_eq_true',decide_eq_false_iff_not]at ha
 have hm:up.getD a.toNat 0∈up:=by
  have:a.toNat<up.length:=by omega
  simp[Qn,this]
 have:=Qo.1 h.2.1 _ hm
 simp only[ZA,Qi,decide_eq_true_eq]at this
 rcases this with h|h|h
 ·exact absurd h ha.2.2
 ·exact .inl h
 ·exact .inr h
theorem M4.start{up:List Int}{i:Int}(h:GU up i=true):M4 up (DK.stepsD up (up.length+1) (up.getD i.toNat 0)) 0 (up.getD i.toNat 0):=by
 simp only[GU,Qc]at h
 refine⟨ew h.1 h.2,by omega,?_,rfl⟩
 have h1:=h.1
 simp only[Cm,Qc]at h1
 have h2:=h.2
 simp only[E0,Qc,decide_eq_true_eq]at h2
 have:=Qo.1 h1.2.2 i.toNat (List.mem_range.2 (by omega))
 rw[show((i.toNat:Nat):Int)=i by omega]at this
 simp only[CH,h.2,Qg,Qq]at this
 exact cy _ _ _ _ (by omega) this
theorem M4.next{up:List Int}{D k:Nat}{a:Int}(hg:Cm up=true)(h:M4 up D k a)(ha:a≠-1):E0 up a=true/\k<up.length+1/\M4 up D (k+1) (up.getD a.toNat 0):=by
 have hi:=h.at_.resolve_left ha
 have he:=h.ends
 have hn:=h.num
 have hle:=h.le
 cases e:up.length+1-k with
 |zero=>rw[e]at he;simp[CH,hi]at he
 |succ m=>
  rw[e]at he hn
  have em:up.length+1-(k+1)=m:=by omega
  simp only[CH,hi,Qg,Qq]at he
  simp only[DK.stepsD,if_neg ha]at hn
  exact⟨hi,by omega,ew hg hi,by omega,by rw[em];exact he,by rw[em];omega⟩
theorem M4.last{up:List Int}{D k:Nat}(h:M4 up D k (-1)):k=D:=by
 have hn:=h.num
 cases e:up.length+1-k with
 |zero=>rw[e]at hn;simp[DK.stepsD]at hn;exact hn
 |succ m=>rw[e]at hn;simp[DK.stepsD]at hn;exact hn
theorem ak{up:List Int}{a:Int}(h:E0 up a=true):(0<=a)=True/\(a<(up.length:Int))=True/\(ints up)[a.toNat]?=some [nS (up.getD a.toNat 0)]:=by
 simp[E0]at h;exact⟨by simp[h],by simp[h],Bt (by omega)⟩
end Go.Ax.M
namespace Go.Proofs.YtohgndhnndeijaaGreat.Ax
open Go Go.Ax Go.Ax.M
section
variable {H:AP}{K:AH->AP->Prop}{up:List Int}{o:Nat}{fl ro:Bool}
theorem NN{i:Int}(ho:H[o]?=some (.AU 1 (ints up) ro))(hlen:up.length<=1000)(h:K (nS (DK up i)) H):AF Qd 157 [.agg [.slice o up.length 0 up.length fl],nS i] H K:=by
 have k1:=AL.of ho
 have hm:GU up i=true->_:=λh=>ak (a:=i) (by simp only[GU,Qc]at h;exact h.2)
 refine AF.tidy ?_
 cases hmay:GU up i with
 |false=>
  clear hm
  refine Aa ok157 ?_;(try simp only[k1,hmay,go_sem]);repeat' ((first|apply orR|(apply sp<;>intro hc)|refine Dh (k1 _) ?_)<;>try simp only[*,go_sem])
  exact⟨rfl,⟨_,rfl⟩,ki h (by simp only[DK,hmay,cond_false])⟩
 |true=>
  have hm:=hm hmay
  refine Aa ok157 ?_;(try simp only[k1,hm,hmay,go_sem]);repeat' ((first|apply orR|(apply sp<;>intro hc)|refine Dh (k1 _) ?_)<;>try simp only[*,go_sem])
  have hg:Cm up=true:=by simp only[GU,Qc]at hmay;exact hmay.1
  have hD:DK up i=(DK.stepsD up (up.length+1) (up.getD i.toNat 0):Int):=by simp only[DK,hmay,cond_true]
  rw[hD]at h
  have hst:=M4.start hmay
  generalize DK.stepsD up (up.length+1) (up.getD i.toNat 0)=D at h hst
  clear hm
  refine AK.Az [6,5,2] ?_;simp only[mpC,go_sem]
  refine AK.acc (λk a=>[(6,nS a),(5,nS (k:Int))]) (λ_ _=>_) (λk a=>M4 up D k a) (up.length+1) ?_ (a0:=up.getD i.toNat 0) hst
  intro k a hk hI next
  refine AK.unfold ?_
  have hw:=AY (k:=k) (by omega)
  by_cases ha:a=-1
  ·subst ha
   have e:=hI.last
   subst e
   (try simp only[k1,hw,AA b157_3.eq_1,apC,go_sem]);repeat' ((first|apply orR|(apply sp<;>intro hc)|fail)<;>try simp only[*,AA b157_3.eq_1,apC,go_sem])
   exact⟨rfl,⟨_,rfl⟩,h⟩
  ·obtain⟨h1,h2,h3⟩:=hI.next hg ha
   have hga:=ak h1
   repeat' first|simp only[*,AA b157_3.eq_1,apC,go_sem]|apply orR|(apply sp<;>intro hc)|fail
   (refine AK.Az [6,5,2] ?_;simp only[mpC,go_sem];refine next _ h2 h3)
end
section
variable {H:AP}{K:AH->AP->Prop}{s:State}{th x y w:Int}{a b:List Int}{oS oT oA oB:Nat}{fS fT rS rT fA fB rA rB:Bool}
theorem P7{up:List Int}{i:Int}{o n:Nat}{fl ro:Bool}(en:up.length=n)(ho:H[o]?=some (.AU 1 (ints up) ro))(hlen:n<=1000)(h:K (nS (DK up i)) H):AF Qd 157 [.agg [.slice o n 0 n fl],nS i] H K:=by
 subst en;exact NN ho hlen h
theorem au{x y w:Int}{a b:List Int}(h:AT ⟨13,a,b,x,y,w⟩=true):Bg s th ⟨13,a,b,x,y,w⟩=
 bif !decide ((AO s th a).2.2=0)then .bad (AO s th a).2.2 else⟨0,Hv (AO s th a).2.1,DK (As s) (AO s th a).1,none⟩:=by
 simp[Bg,h]
theorem NT(hS:jI H oS s rS)(hT:jU H oT s rT)(hA:H[oA]?=some (.AU 1 (ints a) rA))(hB:H[oB]?=some (.AU 1 (ints b) rB))
 (h:K (.Bj [stA s oS oT fS fT,(Bg s th ⟨13,a,b,x,y,w⟩).Ap]) H):
 AF Qd 105 [stA s oS oT fS fT,nS th,.agg [nS 13,.slice oA a.length 0 a.length fA,.slice oB b.length 0 b.length fB,nS x,nS y,nT w]] H K:=by
 have kT:=AL.of hT
 have kS:=AL.of hS
 have kA:=AL.of hA
 have kB:=AL.of hB
 have hv:=fun(e v n:Int)=>show(AH.Bj [stA s oS oT fS fT,.agg [nS e,nT v,nS n]]).refs (λo=>o<H.length) by simp[AH.refs,Ay];exact⟨Am hS,Am hT⟩
 have hlF:(As s).length=s.AE.length:=by simp[As]
 cases hcg:AT ⟨13,a,b,x,y,w⟩with
 |false=>
  have e:Bg s th ⟨13,a,b,x,y,w⟩= .bad 1:=by simp only[Bg,hcg,Qj,Qt,cond_true]
  rw[e]at h
  refine AF.gc ?_
  refine Aa ok105 ?_;(try simp only[BT,AM,AJ,Qa,hcg,go_sem]);repeat' ((first|apply orR|(apply sp<;>intro hc)|refine Aw (c:=⟨13,a,b,x,y,w⟩) (kA _) (kB _) ?_)<;>try simp only[*,BT,AM,AJ,Qa,go_sem])
  exact Gc.Cd (hv _ _ _) h
 |true=>
  rw[au hcg]at h
  by_cases he:(AO s th a).2.2=0
  ·have hok:=Ek he
   have hgood:BN s=true:=hok.1.ok.DR
   have hgc:Bq (AO s th a).2.1=true:=by rw[hok.2.2.2.1];exact hok.1.Ib _ (by omega)
   clear hok
   rw[he]at h
   simp only[decide_true,Qg,cond_false,CD.Ap]at h
   refine AF.gc ?_
   refine Aa ok105 ?_;(try simp only[BT,AM,AJ,Qa,Bh.cells,he,hcg,go_sem]);repeat' ((first|apply orR|(apply sp<;>intro hc)|refine Aw (c:=⟨13,a,b,x,y,w⟩) (kA _) (kB _) ?_|refine CN (kS _) (kT _) (kA _) ?_|refine SK (c:=(AO s th a).2.1) hgc ?_|refine Dd (s:=s) (kS _) (FL hgood) ?_|refine P7 (up:=As s) hlF (by first|exact BH|exact Bb rfl) (FL hgood) ?_)<;>try simp only[*,BT,AM,AJ,Qa,Bh.cells,go_sem])
   exact Gc.Cd (hv _ _ _) h
  ·have e:(bif !decide ((AO s th a).2.2=0)then CD.bad (AO s th a).2.2 else⟨0,Hv (AO s th a).2.1,DK (As s) (AO s th a).1,none⟩)=CD.bad (AO s th a).2.2:=by rw[decide_eq_false he];rfl
   rw[e]at h
   refine AF.gc ?_
   refine Aa ok105 ?_;(try simp only[BT,AM,AJ,Qa,Bh.cells,he,hcg,go_sem]);repeat' ((first|apply orR|(apply sp<;>intro hc)|refine Aw (c:=⟨13,a,b,x,y,w⟩) (kA _) (kB _) ?_|refine CN (kS _) (kT _) (kA _) ?_)<;>try simp only[*,BT,AM,AJ,Qa,Bh.cells,go_sem])
   exact Gc.Cd (hv _ _ _) h
end
section
variable {H:AP}{K:AH->AP->Prop}
theorem tB{n:Int}(h0:0<=n)(h1:n<64):Dl .shl .u64 1 n=some (nT (p2 n)):=by
 obtain⟨k,rfl⟩:∃k:Nat,n=k:=⟨n.toNat,by omega⟩
 have hk:k<64:=by omega
 have e:min k 64=k:=by omega
 have hp:(2:Nat)^k<2^64:=Nat.pow_lt_pow_right (by decide) hk
 have h2:((2:Int)^k)=((2^k:Nat):Int):=by rw[Int.natCast_pow];rfl
 simp only[Dl,show ¬((k:Int)<0) by omega,if_false,IntKind.bits,Int.one_mul,p2,Int.toNat_natCast,e,h2]
 congr 2
 generalize (2:Nat)^k=m at*
 simp[IntKind.wrap,IntKind.bits,IntKind.signed];omega
theorem Ej:CF 104 BG:=by
 intro H K s th c oS oT oA oB fS fT rS rT fA fB rA rB hS hT hA hB h h'
 have kT:=AL.of hT
 have kS:=AL.of hS
 have kA:=AL.of hA
 have kB:=AL.of hB
 have key:∀e,BG s th c= .bad e->K (.Bj [stA s oS oT fS fT,.agg [nS e,nT 0,nS 0]]) H:=λe he=>by rw[he]at h;exact h rfl
 have hv:=λe=>show(AH.Bj [stA s oS oT fS fT,.agg [nS e,nT 0,nS 0]]).refs (λo=>o<H.length) by simp[AH.refs,Ay];exact⟨Am hS,Am hT⟩
 clear h
 have hroom:(AO s th c.a).2.2=0->_:=λh=>Dt (Cx h)
 have hgood:(AO s th c.a).2.2=0->BN s=true:=λh=>(Ek h).1.ok.DR
 have hsh:(AO s th c.a).2.2=0->Dl .shl .u64 1 ((AO s th c.a).2.1.ba.tmod 64)=some (nT (p2 ((AO s th c.a).2.1.ba.tmod 64))):=λh=>by
  have hba:=NA (FI h).2.2.2
  have:=Int.tmod_lt_of_pos (AO s th c.a).2.1.ba (show(0:Int)<64 by decide)
  exact tB (Int.tmod_nonneg _ hba.1) this
 refine AF.gc ?_
 refine Aa ok104 ?_;repeat' first|simp only[*,BT,AM,AJ,Qa,Bh.cells,Option.map_some,Qb,go_sem]|refine orR ?_|(refine sp ?_ ?_<;>intro hc)|refine Aw (kA _) (kB _) ?_|refine CN (kS _) (kT _) (kA _) ?_|refine DC ?_|refine A3 (kS _) (kT _) (FL (hgood ‹_›)) (Gm (hgood ‹_›)) (DL (hgood ‹_›)) (DM (hgood ‹_›)) ?_
 all_goals try exact Gc.Cd (hv _) (key _ (by(first|(simp only[BG, *,bs,go_sem];done)|(simp_all[BG]<;>omega)|grind[BG])))
 case' refine_1.refine_1.refine_2.refine_2.refine_2.refine_2.refine_2=>
  obtain⟨t,ht⟩:∃t,t={s.AG (AO s th c.a).2.1.th.toNat with word:=0}:=⟨_,rfl⟩
  have e:BG s th c=⟨0,(s.AG (AO s th c.a).2.1.th.toNat).word,0,some (boxed s (AO s th c.a).2.1.th t)⟩:=by rw[ht];clear h' key;(first|(simp only[BG, *,bs,go_sem];done)|(simp_all[BG]<;>omega)|grind[BG])
 case' refine_1.refine_2.refine_2.refine_2.refine_2=>
  obtain⟨t,ht⟩:∃t,t={s.AG (AO s th c.a).2.1.th.toNat with word:=Ud (s.AG (AO s th c.a).2.1.th.toNat).word (p2 ((AO s th c.a).2.1.ba.tmod 64))}:=⟨_,rfl⟩
  have e:BG s th c=⟨0,0,0,some (boxed s (AO s th c.a).2.1.th t)⟩:=by rw[ht];clear h' key;(first|(simp only[BG, *,bs,go_sem];done)|(simp_all[BG]<;>omega)|grind[BG])
 all_goals
  rw[e]at h'
  have h':=h' _ rfl
  refine Gc.Jg (s':=boxed s (AO s th c.a).2.1.th t) (i:=5) (j:=6) rfl ?_ (λs' e=>by injection e with e;subst e;exact h') (by decide) (by simp[AH.plain,Ah]) rfl (by simp[boxed]) ⟨rfl,rfl,rfl⟩ rfl
  rw[ht]
  simp only[AJ,boxed,<-DQ,Ud];rfl
end
section
variable {H:AP}{K:AH->AP->Prop}{s:State}{oS oT:Nat}{fS fT rS rT:Bool}
theorem PG{i:Int}(hS:jI H oS s rS)(hT:jU H oT s rT)(h:K (nS (Df s i)) H):AF Qd 195 [stA s oS oT fS fT,nS i] H K:=by
 have kT:=AL.of hT
 have kS:=AL.of hS
 have hg1:¬i<0->¬(s.AE.length:Int)<=i->_:=λh1 h2=>UP (s:=s) (u:=i) (by omega) (by omega)
 have hg2:BN s=true->¬i<0->¬(s.AE.length:Int)<=i->(s.slot i.toNat).cap.ty=1->_:=λh0 h1 h2 h3=>Dt (((D8.1 h0).E8 i.toNat (by omega) (C9 (by omega))).1)
 have hl2:BN s=true->(As s).length<=1000:=λh=>by rw[A8];exact FL h
 refine AF.tidy ?_
 refine Aa ok195 ?_;repeat' first|simp only[*,A8,go_sem]|apply orR|(apply sp<;>intro hc)|refine AW (kS _) (kT _) ?_|refine Dd (kS _) (FL ‹_›) ?_|(rw[<-A8];refine N7 (up:=As s) (by first|exact BH|exact Bb rfl) (hl2 ‹_›) (λhc=> ?_) (λhc=> ?_))
 all_goals (refine ti h (by first|exact⟨_,rfl⟩|exact⟨[],(Qh _).symm⟩|exact hx|exact hx.app _) ?_;first|(simp only[Df,Jk, *,bs,go_sem];done)|(simp_all[Df,Jk]<;>omega)|grind[Df,Jk])
theorem Vr{k n:Int}:0<=(CE k n).1/\(CE k n).1<=4096:=by
 simp only[CE]
 by_cases e1:k=1
 ·simp only[e1,decide_true,cond_true]
  cases hb:Bv n 1 4096 with
  |false=>simp
  |true=>rw[BX]at hb;simp only[cond_true];omega
 ·simp only[e1,decide_false,cond_false]
  by_cases e2:k=2
  ·simp only[e2,decide_true,cond_true]
   cases hb:Bv n 1 4 with
   |false=>simp
   |true=>have:=C4 hb;simp only[cond_true];omega
  ·simp only[e2,decide_false,cond_false]
   cases (decide (k=3)||decide (k=4))<;>cases decide (k=5)<;>simp
theorem aS{s:State}{n r:Nat}{T:AN}{used:Int}(hr:r<s.AB.length)(hne:n≠r):((s.AB.map AN.cells).set n T.cells).set r [nS (s.AG r).ty,nS (s.AG r).bits,nS (s.AG r).base,nS (s.AG r).size,nS used,nS (s.AG r).from_,nS (s.AG r).BF,.bool (s.AG r).full,nT (s.AG r).word,nT (s.AG r).d0,nT (s.AG r).d1,nT (s.AG r).d2,nT (s.AG r).d3]=
 ((s.AB.set n T).set r {((s.AB.set n T).getD r .zero)with used:=used}).map AN.cells:=by
 have e:(s.AB.set n T).getD r .zero=s.AG r:=by simp only[Qn,Qk hne,State.AG]
 rw[e,Qu,Qu];rfl
theorem ND{th:Int}{c:M.Call}{oA oB:Nat}{fA fB rA rB:Bool}(hS:jI H oS s rS)(hT:jU H oT s rT)(hA:H[oA]?=some (.AU 1 (ints c.a) rA))(hB:H[oB]?=some (.AU 1 (ints c.b) rB))
 (h:(Be s th c).st=none->K (.Bj [stA s oS oT fS fT,nS 0,nS (Be s th c).err]) H)
 (h':∀s',(Be s th c).st=some s'->K (.Bj [BT s' H.length (H.length+1) false false,nS (Be s th c).n,nS 0]) (H++[AM s',AJ s'])):
 AF Qd 148 [stA s oS oT fS fT,nS th,.agg [nS c.op,.slice oA c.a.length 0 c.a.length fA,.slice oB c.b.length 0 c.b.length fB,nS c.x,nS c.y,nT c.w]] H K:=by
 have kT:=AL.of hT
 have kS:=AL.of hS
 have kA:=AL.of hA
 have kB:=AL.of hB
 have key:∀e,Be s th c= .bad e->K (.Bj [stA s oS oT fS fT,nS 0,nS e]) H:=λe he=>by rw[he]at h;exact h rfl
 have hv:=λe=>show(AH.Bj [stA s oS oT fS fT,nS 0,nS e]).refs (λo=>o<H.length) by simp[AH.refs,Ay];exact⟨Am hS,Am hT⟩
 clear h
 have hroom:(AO s th c.a).2.2=0->_:=λh=>Dt (Cx h)
 have hwu:(AO s th c.a).2.2=0->(AO s th c.a).2.1.ty=1->IntKind.wrap .i64 (Df s (AO s th c.a).1+(CE c.x c.y).1)=Df s (AO s th c.a).1+(CE c.x c.y).1:=λh1 h2=>by
  obtain⟨i1,i2,i3,i4,i5,i6⟩:=Ek h1
  have:=R6 i1 i2 i3 (by rw[<-i4];exact h2)
  have:=Vr (k:=c.x) (n:=c.y)
  exact w64 (by omega) (by omega)
 have KC:¬CU s<0->(0<=CU s)=True/\(CU s<(s.AB.length:Int))=True:=λh=>by
  have:=Lc (s:=s) (by omega)
  exact⟨eq_true (by omega),eq_true (by omega)⟩
 refine AF.gc ?_
 refine Aa ok148 ?_;repeat' first|simp only[*,BT,AM,AJ,Qa,Bh.cells,AN.cells,Qb,go_sem]|apply orR|(apply sp<;>intro hc)|refine Aw (kA _) (kB _) ?_|refine CN (kS _) (kT _) (kA _) ?_|refine Hr (kS _) (kT _) (kB _) ?_|refine DC ?_|refine PV ?_|refine PG (kS _) (kT _) ?_|refine PQ (kS _) (kT _) ?_|refine Rs (kS _) (kT _) ?_
 all_goals try exact Gc.Cd (hv _) (key _ (by(first|(simp only[Be,Dc,Bs, *,bs,go_sem];done)|(simp_all[Be,Dc,Bs]<;>omega)|grind[Be,Dc,Bs])))
 all_goals
  have he:∃b,Be s th c=⟨0,0,CU s,some (Fq s c (AO s th c.a).1 (Ak s th c.b).1 (Df s (AO s th c.a).1+(CE c.x c.y).1) (CU s) b (AO s th c.a).2.1)⟩/\b=(Bs c s).1:=⟨_,by clear h' key hv;(first|(simp only[Be,Dc,Bs, *,bs,go_sem];done)|(simp_all[Be,Dc,Bs]<;>omega)|grind[Be,Dc,Bs]),rfl⟩
  clear key hv
  obtain⟨bs,he,hbs⟩:=he
  have h':=h' _ (by rw[he])
  rw[he]at h'
  simp only at h'
  obtain⟨y,hy⟩:∃y,Hid (y=Fq s c (AO s th c.a).1 (Ak s th c.b).1 (Df s (AO s th c.a).1+(CE c.x c.y).1) (CU s) bs (AO s th c.a).2.1):=NQ _
  have hy':y=_:=hy
  rw[<-hy']at h'
  obtain⟨i1,i2,i3,i4,i5,i6⟩:=Ek (s:=s) (th:=th) (p:=c.a) ‹_›
  obtain⟨-,j2,j3,j4,j5,j6⟩:=EC (s:=s) (th:=th) (p:=c.b) ‹_›
  have ET:=UP (s:=s) j2 j3
  have hsf:=Lc (s:=s) (by omega)
  have hrt:=Cx (s:=s) (th:=th) (p:=c.a) ‹_›
  rw[DP]at hrt
  have T4:(s.AG (AO s th c.a).2.1.th.toNat).ty=1:=by
   have:=(i1.E8 _ (by omega) i5).2
   rw[<-i4]at this;rw[this];assumption
  have hne:(CU s).toNat≠(AO s th c.a).2.1.th.toNat:=by intro e;rw[e]at hsf;omega
  have hgn:=BI (s:=s) hsf.1
  have hgr:∀X,((s.AB.map AN.cells).set (CU s).toNat X)[(AO s th c.a).2.1.th.toNat]?=some (s.AG (AO s th c.a).2.1.th.toNat).cells:=λX=>by
   rw[Qk hne];exact BI (by omega)
  have hgood:=i1.ok.DR
  have hct:=aS (s:=s) (T:=(HH c.x c.y bs).1) (used:=Df s (AO s th c.a).1+(CE c.x c.y).1) (show(AO s th c.a).2.1.th.toNat<s.AB.length by omega) hne
  have hyS:y.AE.length=s.AE.length:=by rw[hy'];simp[Fq]
  have hyT:y.AB.length=s.AB.length:=by rw[hy'];simp[Fq]
  have hyg:y.AS=s.AS:=by rw[hy'];rfl
  have hy1:y.AE.map Slot.cells=(s.AE.map Slot.cells).set (Ak s th c.b).1.toNat [nS c.x,nS (CU s),nS 7,nS 0,nS (AO s th c.a).1]:=by rw[hy'];simp only[Fq,<-Jx];rfl
  have hy2:=(hct.trans (show _=y.AB.map AN.cells by rw[hy'];rfl)).symm
  have hyh:=And.intro hy1 hy2
  have hyh:Hid _:=hyh
  have hyl:=And.intro hyS (And.intro hyT hyg)
  have hyl:Hid _:=hyl
  clear hct hy' hy1 hy2 hyS hyT hyg he i1 i2 i3 i4 i5 i6 j2 j3 j4 j5 j6 hsf hrt T4
 all_goals
  repeat' first|simp only[*,BT,AM,AJ,Qa,Bh.cells,AN.cells,Qb,go_sem]|apply orR|(apply sp<;>intro hc)|refine A3 (kS _) (kT _) (FL hgood) (Gm hgood) (DL hgood) (DM hgood) ?_|refine R1 ?_
  obtain⟨hy1,hy2⟩:=hyh
  obtain⟨hyS,hyT,hyg⟩:=hyl
  first
   |(
    have hx:c.x=2:=by assumption
    simp only[hbs,Bs,hx,AN.cells,decide_true,cond_true]at hy1 hy2
    rw[<-hyS,<-hyT,<-hyg]
    refine Gc.stateT (s:=y) (i:=4) (j:=5) ?_ ?_ (by decide) (by simp[AH.plain,Ah]) h'
    ·simp only[AM];rw[hy1];rfl
    ·simp only[AJ];rw[hy2];rfl)
   |(
    have hx:¬c.x=2:=by assumption
    simp only[hbs,Bs,hx,AN.cells,decide_false,cond_false]at hy1 hy2
    rw[<-hyS,<-hyT,<-hyg]
    refine Gc.stateT (s:=y) (i:=4) (j:=5) ?_ ?_ (by decide) (by simp[AH.plain,Ah]) h'
    ·simp only[AM];rw[hy1];rfl
    ·simp only[AJ];rw[hy2];rfl)
theorem EJ:CF 100 Be:=by
 intro H K s th c oS oT oA oB fS fT rS rT fA fB rA rB hS hT hA hB h h'
 have kT:=AL.of hT
 have kS:=AL.of hS
 have kA:=AL.of hA
 have kB:=AL.of hB
 have hn:(Be s th c).st=none->((Be s th c).err=0)=False:=λh=>eq_false (Uu h)
 refine AF.gc ?_
 refine Aa ok100 ?_;repeat' first|simp only[*,BT,AM,AJ,Qa,go_sem]|apply orR|(apply sp<;>intro hc)|refine ND (kS _) (kT _) (kA _) (kB _) (λhc=> ?_) (λs' hc=> ?_)
 ·obtain⟨e,-,he⟩:=Pz (s:=s) (th:=th) (c:=c) ‹_›
  have h:=h (by rw[he];rfl)
  rw[he]at h ⊢
  exact Gc.Cd (by simp[AH.refs,Ay];exact⟨Am hS,Am hT⟩) h
 ·exact Gc.Jg (i:=4) (j:=5) rfl rfl (r:=(Be s th c).st) (λs' e=>by have:=h' s' e;have e2:=(JG e).2.2.2.2.2.2.2.2.2.1;rw[e2]at this ⊢;exact this) (hn:=rfl) (hm:=rfl) (e:=by assumption)
end
end Go.Proofs.YtohgndhnndeijaaGreat.Ax

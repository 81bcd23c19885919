/- Equations by which a walk steps, one operation at a time. Conditions: none. Printed by gentac.py. -/
import Derived.Test.YtohgndhnndeijaaGreatAxRunZ
import Derived.Test.YtohgndhnndeijaaGreatAxGcZ
import Derived.Attr
set_option linter.all false
open Iff renaming rfl -> Qa
open List renaming getElem?_append_right -> Qb, set_append_right -> Qc, getElem?_eq_none -> Qd, replicate -> Qf, ext_getElem? -> Qh, getElem?_map -> Qi, map_cons -> Qj, getD -> Qk
open Bool renaming false_eq_true -> Qe
open Nat renaming le_refl -> Qg
namespace Go.Ax
open Go
def Fs:List (Nat×AH)->Nat->AH
 |[],_=> .Dk
 |(d,v)::l,t=>if d=t then v else Fs l t
def OF(n:Nat)(l:List (Nat×AH)):List AH:=(List.range n).map (Fs l)
def Th:List AH->Nat->List (Nat×AH)
 |[],_=>[]
 |a::l,k=>(k,a)::Th l (k+1)
theorem bF(n:Nat)(l:List (Nat×AH))(t:Nat):(OF n l).getD t .Dk=if t<n then Fs l t else .Dk:=by
 by_cases h:t<n<;>simp[OF,Qk,h]
@[go_sem] theorem kn {t:Nat}:Fs [] t= .Dk:=rfl
@[go_sem] theorem Vu {t:Nat} {v:AH} {l:List (Nat×AH)}:Fs ((t,v)::l) t=v:=by simp[Fs]
@[go_sem] theorem hJ {d t:Nat} {v:AH} {l:List (Nat×AH)} (h:(d=t)=False):Fs ((d,v)::l) t=Fs l t:=by simp[Fs,h]
@[go_sem] theorem l8 {n t:Nat} {l:List (Nat×AH)} (h:(t<n)=True):(OF n l).getD t .Dk=Fs l t:=by rw[bF];simp[h]
@[go_sem] theorem l9 {n d:Nat} {v:AH} {l:List (Nat×AH)}:(OF n l).set d v=OF n ((d,v)::l):=by
 apply Qh
 intro i
 rw[List.getElem?_set]
 simp only[OF,List.length_map,List.length_range,Qi]
 by_cases hd:d=i
 ·subst hd
  by_cases hl:d<n
  ·simp[hl,Fs]
  ·simp[hl]
 ·by_cases hl:i<n<;>simp[hl,hd,Fs]
@[go_sem] theorem iK {k:Nat}:Th [] k=[]:=rfl
@[go_sem] theorem gL {k:Nat} {a:AH} {l:List AH}:Th (a::l) k=(k,a)::Th l (k+1):=rfl
theorem TU:∀(l:List AH) (k t:Nat),Fs (Th l k) t=if k<=t then l.getD (t-k) .Dk else .Dk
 |[],k,t=>by simp[Th,Fs]
 |a::l,k,t=>by
  rw[Th,Fs,TU l (k+1) t]
  by_cases h:k=t
  ·subst h;simp
  ·rw[if_neg h]
   by_cases h1:k<=t
   ·rw[if_pos (by omega),if_pos h1,show t-k=(t-(k+1))+1 by omega];simp
   ·rw[if_neg (by omega),if_neg h1]
theorem AF.Aa{P:Program}{f:FuncId}{c:AD}{nt:Nat}{rs:List Pj}(hok:Ao P f c nt rs=true){args:List AH}{H:AP}{K:AH->AP->Prop}(hl:args.length<=nt)
 (h:I9 P H.length c (M8 rs K) ⟨OF nt (Th args 0),H⟩):AF P f args H K:=by
 refine AF.enter hok ?_
 have:args++Qf (nt-args.length) .Dk=OF nt (Th args 0):=by
  apply Qh
  intro i
  simp only[OF,Qi]
  by_cases hi:i<nt
  ·rw[List.getElem?_range hi,Option.map_some,TU,if_pos (Nat.zero_le _),Nat.sub_zero,List.getElem?_append]
   split
   ·rename_i h1;simp[Qk,h1]
   ·rename_i h1;rw[List.getElem?_replicate,if_pos (by omega)];simp[Qk,Qd (by omega:args.length<=i)]
  ·rw[Qd (by simp;omega),Qd (by simp;omega)];rfl
 rw[this];exact h
theorem YF{n:Nat}{l l':List (Nat×AH)}(h:∀p∈l',Fs l p.1=p.2\/p.2= .Dk):Jh (OF n l) (OF n l'):=by
 have key:∀t,Fs l' t= .Dk\/Fs l t=Fs l' t:=by
  intro t
  induction l' with
  |nil=>exact .inl rfl
  |cons p l' ih=>
   obtain⟨d,v⟩:=p
   by_cases hd:d=t
   ·subst hd
    have:=h (d,v) List.mem_cons_self
    simp only at this
    rw[Vu]
    exact this.symm
   ·rw[Fs,if_neg hd]
    exact ih λp hp=>h p (List.mem_cons_of_mem _ hp)
 have:∀(L:List Nat),Jh (L.map (Fs l)) (L.map (Fs l')):=by
  intro L
  induction L with
  |nil=>simp[Jh]
  |cons t L ih=>
   simp only[Qj,Jh]
   exact⟨(key t).imp id λh=>h.symm,ih⟩
 exact this _
theorem AK.to{P:Program}{n0:Nat}{c:AD}{Q:Exit->St->Prop}{n:Nat}{l l':List (Nat×AH)}{H:AP}(hw:∀p∈l',Fs l p.1=p.2\/p.2= .Dk)(h:AK P n0 c Q ⟨OF n l',H⟩):AK P n0 c Q ⟨OF n l,H⟩:=
 AK.weaken (YF hw) h
def YP(K:St->Prop)(dst:Option Nat)(T:List AH)(v:AH)(H:AP):Prop:=K ⟨Ar T dst v,H⟩
def By(r:Option (AH×AP))(K:St->Prop)(dst:Option Nat)(T:List AH):Prop:=match r with
 |some (v,H)=>K ⟨Ar T dst v,H⟩
 |none=>False
def MI(P:Program)(n0:Nat)(Q:Exit->St->Prop)(s:St)(t e:AD)(a:AH):Prop:=match a with
 | .bool b=>(b=true->I9 P n0 t Q s)/\(b=false->I9 P n0 e Q s)
 |_=>False
def EB(P:Program)(dst:Option Nat)(op:GS)(l:List A6)(K:St->Prop)(T:List AH)(H:AP)(b:Bool)(a:AH):Prop:=match PI a with
 |some g=>(g=some b->Bu P ⟨dst,op,none⟩ (Eb P l K) ⟨T,H⟩)/\(g≠some b->Eb P l K ⟨Ar T dst Co,H⟩)
 |none=>False
def EA(P:Program)(n0:Nat)(pre:Nat->Nat->Bool)(j:Nat)(dst:Option Nat)(op:GS)(rest:List (Nat×A6))(log:Cp)(K:St->Prop)(T:List AH)(H:AP)(b:Bool)(a:AH):Prop:=match PI a with
 |some g=>(g=some b->Ab P n0 pre ((j,⟨dst,op,none⟩)::rest) log K ⟨T,H⟩)/\(g≠some b->Ab P n0 pre rest log K ⟨Ar T dst Co,H⟩)
 |none=>False
section
variable {P:Program}{n0:Nat}{Q:Exit->St->Prop}{s:St}{t e:AD}{dst:Option Nat}{op:GS}{l:List A6}{K:St->Prop}{T:List AH}{H:AP}{pre:Nat->Nat->Bool}{rest:List (Nat×A6)}{log:Cp}{j:Nat}
@[go_sem] theorem l6:MI P n0 Q s t e (.bool true)=I9 P n0 t Q s:=by simp[MI]
@[go_sem] theorem condX_f:MI P n0 Q s t e (.bool false)=I9 P n0 e Q s:=by simp[MI]
theorem aT{b:Bool}(hp:b=true->I9 P n0 t Q s)(hq:b=false->I9 P n0 e Q s):MI P n0 Q s t e (.bool b):=⟨hp,hq⟩
@[go_sem] theorem gu:EB P dst op l K T H true (.bool true)=(Bu P ⟨dst,op,none⟩ (Eb P l K) ⟨T,H⟩):=by simp[EB,PI]
@[go_sem] theorem gl:EB P dst op l K T H false (.bool false)=(Bu P ⟨dst,op,none⟩ (Eb P l K) ⟨T,H⟩):=by simp[EB,PI]
@[go_sem] theorem gr:EB P dst op l K T H false (.bool true)=(Eb P l K ⟨Ar T dst Co,H⟩):=by simp[EB,PI]
@[go_sem] theorem gm:EB P dst op l K T H true (.bool false)=(Eb P l K ⟨Ar T dst Co,H⟩):=by simp[EB,PI]
@[go_sem] theorem guardX_skip {b:Bool}:EB P dst op l K T H b (.Bj [])=Eb P l K ⟨Ar T dst Co,H⟩:=by simp[EB,PI]
theorem ZL{g:Bool}(hp:g=true->Bu P ⟨dst,op,none⟩ (Eb P l K) ⟨T,H⟩)(hq:g=false->Eb P l K ⟨Ar T dst Co,H⟩):EB P dst op l K T H true (.bool g):=⟨λh=>hp (by simpa using h),λh=>hq (by simpa using h)⟩
theorem ZK{g:Bool}(hp:g=false->Bu P ⟨dst,op,none⟩ (Eb P l K) ⟨T,H⟩)(hq:g=true->Eb P l K ⟨Ar T dst Co,H⟩):EB P dst op l K T H false (.bool g):=⟨λh=>hp (by simpa using h),λh=>hq (by simpa using h)⟩
@[go_sem] theorem gk:EA P n0 pre j dst op rest log K T H true (.bool true)=(Ab P n0 pre ((j,⟨dst,op,none⟩)::rest) log K ⟨T,H⟩):=by simp[EA,PI]
@[go_sem] theorem gZ:EA P n0 pre j dst op rest log K T H false (.bool false)=(Ab P n0 pre ((j,⟨dst,op,none⟩)::rest) log K ⟨T,H⟩):=by simp[EA,PI]
@[go_sem] theorem gj:EA P n0 pre j dst op rest log K T H false (.bool true)=(Ab P n0 pre rest log K ⟨Ar T dst Co,H⟩):=by simp[EA,PI]
@[go_sem] theorem gd:EA P n0 pre j dst op rest log K T H true (.bool false)=(Ab P n0 pre rest log K ⟨Ar T dst Co,H⟩):=by simp[EA,PI]
@[go_sem] theorem eC {b:Bool}:EA P n0 pre j dst op rest log K T H b (.Bj [])=Ab P n0 pre rest log K ⟨Ar T dst Co,H⟩:=by simp[EA,PI]
theorem ZJ{g:Bool}(hp:g=true->Ab P n0 pre ((j,⟨dst,op,none⟩)::rest) log K ⟨T,H⟩)(hq:g=false->Ab P n0 pre rest log K ⟨Ar T dst Co,H⟩):EA P n0 pre j dst op rest log K T H true (.bool g):=⟨λh=>hp (by simpa using h),λh=>hq (by simpa using h)⟩
theorem ZI{g:Bool}(hp:g=false->Ab P n0 pre ((j,⟨dst,op,none⟩)::rest) log K ⟨T,H⟩)(hq:g=true->Ab P n0 pre rest log K ⟨Ar T dst Co,H⟩):EA P n0 pre j dst op rest log K T H false (.bool g):=⟨λh=>hp (by simpa using h),λh=>hq (by simpa using h)⟩
end
section
variable {P:Program}{n0:Nat}{Q:Exit->St->Prop}{K:St->Prop}{T:List AH}{H:AP}{s X:St}{dst:Option Nat}{g:Option (Nat×Bool)}{l:List A6}{pre:Nat->Nat->Bool}{rest:List (Nat×A6)}{log:Cp}{j:Nat}
@[go_sem] theorem gW {v:AH}:YP K dst T v H=K ⟨Ar T dst v,H⟩:=propext Qa
@[go_sem] theorem fv {v:AH}:By (some (v,H)) K dst T=K ⟨Ar T dst v,H⟩:=propext Qa
@[go_sem] theorem kz:I9 P n0 .skip Q s=Q .normal s:=propext Qa
@[go_sem] theorem gB:I9 P n0 (.region l) Q s=Eb P l (Q .normal) s:=propext Qa
@[go_sem] theorem hY {wl:List (Nat×A6)} {aft:List (List Nat)} {nb:Nat}:I9 P n0 (.drawn wl aft nb) Q ⟨T,H⟩=Ab P H.length (CQ (Cy aft [])) wl [] (Q .normal) ⟨T,H++Qf nb .A1⟩:=propext Qa
@[go_sem] theorem mJ {a b:AD}:I9 P n0 (.seq a b) Q s=I9 P n0 a (O2 (I9 P n0 b Q) Q) s:=propext Qa
@[go_sem] theorem wpx_block {i:Nat} {c:AD}:I9 P n0 (.block i c) Q s=I9 P n0 c (JZ i Q) s:=propext Qa
@[go_sem] theorem wpx_loop {c:AD}:I9 P n0 (.loop c) Q s=AK P n0 c Q s:=propext Qa
@[go_sem] theorem tL {i:Nat}:I9 P n0 (.exit i) Q s=Q (.exit i) s:=propext Qa
@[go_sem] theorem mH:I9 P n0 .ret Q s=Q .ret s:=propext Qa
@[go_sem] theorem ku {c:Av} {t e:AD}:I9 P n0 (.cond c t e) Q ⟨T,H⟩=MI P n0 Q ⟨T,H⟩ t e (Bm T c):=propext Qa
@[go_sem] theorem mF {R:Exit->St->Prop}:O2 K R .normal s=K s:=propext Qa
@[go_sem] theorem mE {R:Exit->St->Prop} {i:Nat}:O2 K R (.exit i) s=R (.exit i) s:=propext Qa
@[go_sem] theorem mG {R:Exit->St->Prop}:O2 K R .ret s=R .ret s:=propext Qa
@[go_sem] theorem iO {i:Nat}:JZ i Q .normal s=Q .normal s:=propext Qa
@[go_sem] theorem iP {i:Nat}:JZ i Q .ret s=Q .ret s:=propext Qa
@[go_sem] theorem iN {i:Nat}:JZ i Q (.exit i) s=Q .normal s:=by simp[JZ]
@[go_sem] theorem iQ {i j:Nat} (h:(j=i)=False):JZ i Q (.exit j) s=Q (.exit j) s:=by simp[JZ,h]
@[go_sem] theorem tM:Eb P [] K s=K s:=propext Qa
@[go_sem] theorem mP {op:GS}:Eb P (⟨dst,op,none⟩::l) K s=Bu P ⟨dst,op,none⟩ (Eb P l K) s:=propext Qa
@[go_sem] theorem mO {op:GS} {d:Nat} {b:Bool}:Eb P (⟨dst,op,some (d,b)⟩::l) K ⟨T,H⟩=EB P dst op l K T H b (T.getD d .Dk):=propext Qa
@[go_sem] theorem tK {v:AH}:Ar T none v=T:=rfl
@[go_sem] theorem kd {d:Nat} {v:AH}:Ar T (some d) v=T.set d v:=rfl
@[go_sem] theorem ma {i:Nat}:Bm T (.t i)=T.getD i .Dk:=rfl
@[go_sem] theorem mZ {v:AH}:Bm T (.c v)=v:=rfl
attribute [go_sem] Co Ym e9 JJ Jr Fh Cz M8 PC JY AV HN Dz DW EI WA AH.cell
def Mr(P:Program)(n0:Nat)(pre:Nat->Nat->Bool)(rest:List (Nat×A6))(log:Cp)(K:St->Prop)(i:Nat)(dst:Option Nat)(op:GS)(T:List AH)(H:AP)(r:Option (AH×AP)):Prop:=
 match r with
 |some (v,_)=>Ab P n0 pre rest ((i,λH=>AV T H op=some (v,H))::log) K ⟨Ar T dst v,H⟩
 |none=>False
def Hc(P:Program)(n0:Nat)(pre:Nat->Nat->Bool)(rest:List (Nat×A6))(log:Cp)(K:St->Prop)(i:Nat)(s:St):Prop:=Kk (pre i) s.H log/\Ab P n0 pre rest log K s
def eA(P:Program)(n0:Nat)(pre:Nat->Nat->Bool)(rest:List (Nat×A6))(log:Cp)(K:St->Prop)(dst:Option Nat)(k:Nat)(T:List AH)(H:AP)(r:Option (AH×Au)):Prop:=
 match r with
 |some (v,x)=>Ab P n0 pre rest log K ⟨Ar T dst v,H.set (n0+k) x⟩
 |none=>False
@[go_sem] theorem ij:Hc P n0 pre rest log K j ⟨T,H⟩=(Kk (pre j) H log/\Ab P n0 pre rest log K ⟨T,H⟩):=propext Qa
@[go_sem] theorem eJ {i:Nat} {op:GS} {v:AH} {H':AP}:Mr P n0 pre rest log K i dst op T H (some (v,H'))=Ab P n0 pre rest ((i,λH=>AV T H op=some (v,H))::log) K ⟨Ar T dst v,H⟩:=propext Qa
@[go_sem] theorem fE {k:Nat} {v:AH} {x:Au}:eA P n0 pre rest log K dst k T H (some (v,x))=Ab P n0 pre rest log K ⟨Ar T dst v,H.set (n0+k) x⟩:=propext Qa
@[go_sem] theorem gC:Ab P n0 pre [] log K s=K s:=propext Qa
@[go_sem] theorem iY {pre:Nat->Bool}:Kk pre H []=True:=propext Qa
@[go_sem] theorem gR {pre:Nat->Bool} {p:AP->Prop} {i:Nat}:Kk pre H ((i,p)::log)=((p H\/pre i=true)/\Kk pre H log):=propext Qa
@[go_sem] theorem hZ {op:GS} {d:Nat} {b:Bool}:Ab P n0 pre ((j,⟨dst,op,some (d,b)⟩)::rest) log K ⟨T,H⟩=EA P n0 pre j dst op rest log K T H b (T.getD d .Dk):=by
 show De P n0 (pre j) j _ log _ _=_
 simp only[De,Bm]
 rfl
theorem Ck{op:GS}(hp:op.pure=true):Ab P n0 pre ((j,⟨dst,op,none⟩)::rest) log K ⟨T,H⟩=By (AV T H op) (Ab P n0 pre rest log K) dst T:=by
 have hnb:∀k b,op≠ .born k b:=λk b e=>by rw[e]at hp;cases hp
 show De P n0 (pre j) j ⟨dst,op,none⟩ log (λlog' s'=>Ab P n0 pre rest log' K s') ⟨T,H⟩=_
 simp only[De]
 rw[JB (o:=⟨dst,op,none⟩) hnb]
 simp only[Iv hp,if_true,hp]
 cases hs:AV T H op with
 |none=>rfl
 |some q=>
  obtain⟨v,H'⟩:=q
  have:=EM (Iv hp) hs
  subst this
  rfl
theorem Lp{op:GS}(hq:op.quiet=true)(hp:op.pure=false):Ab P n0 pre ((j,⟨dst,op,none⟩)::rest) log K ⟨T,H⟩=Mr P n0 pre rest log K j dst op T H (AV T H op):=by
 have hnb:∀k b,op≠ .born k b:=λk b e=>by rw[e]at hq;cases hq
 show De P n0 (pre j) j ⟨dst,op,none⟩ log (λlog' s'=>Ab P n0 pre rest log' K s') ⟨T,H⟩=_
 simp only[De]
 rw[JB (o:=⟨dst,op,none⟩) hnb]
 simp only[hq,if_true,hp,Qe,if_false]
 rfl
theorem D6{op:GS}(hq:op.quiet=false)(hnb:∀k b,op≠ .born k b):Ab P n0 pre ((j,⟨dst,op,none⟩)::rest) log K ⟨T,H⟩=Bu P ⟨dst,op,none⟩ (Hc P n0 pre rest log K j) ⟨T,H⟩:=by
 show De P n0 (pre j) j ⟨dst,op,none⟩ log (λlog' s'=>Ab P n0 pre rest log' K s') ⟨T,H⟩=_
 simp only[De]
 rw[JB (o:=⟨dst,op,none⟩) hnb]
 simp only[hq,Qe,if_false]
 rfl
@[go_sem] theorem mQ {k:Nat} {b:EH}:Ab P n0 pre ((j,⟨dst,.born k b,none⟩)::rest) log K ⟨T,H⟩=eA P n0 pre rest log K dst k T H (Cz T (n0+k) b):=propext Qa
def WG(P:Program)(K:St->Prop)(dst:Option Nat)(T:List AH)(H:AP)(args:List AH)(v:AH):Prop:=match v with
 | .func f cap=>Di P f=true/\AF P f (args++cap) H (YP K dst T)
 |_=>False
@[go_sem] theorem gO {args:List AH} {f:FuncId} {cap:List AH}:WG P K dst T H args (.func f cap)=(Di P f=true/\AF P f (args++cap) H (YP K dst T)):=propext Qa
@[go_sem] theorem gG {x:Av} {args:List Av}:Bu P ⟨dst,.Ha x args,g⟩ K ⟨T,H⟩=WG P K dst T H (args.map (Bm T)) (Bm T x):=by
 unfold Bu WG
 simp only
 cases Bm T x<;>rfl
@[go_sem] theorem mL {x:Av}:Bu P ⟨dst,.mv x,g⟩ K ⟨T,H⟩=By (AV T H (.mv x)) K dst T:=propext Qa
@[go_sem] theorem oO {x:Av}:Ab P n0 pre ((j,⟨dst,.mv x,none⟩)::rest) log K ⟨T,H⟩=By (AV T H (.mv x)) (Ab P n0 pre rest log K) dst T:=Ck rfl
@[go_sem] theorem iE {c a b:Av}:Bu P ⟨dst,.pick c a b,g⟩ K ⟨T,H⟩=By (AV T H (.pick c a b)) K dst T:=propext Qa
@[go_sem] theorem mT {c a b:Av}:Ab P n0 pre ((j,⟨dst,.pick c a b,none⟩)::rest) log K ⟨T,H⟩=By (AV T H (.pick c a b)) (Ab P n0 pre rest log K) dst T:=Ck rfl
@[go_sem] theorem k8 {op:BinOp} {x y:Av}:Bu P ⟨dst,.bin op x y,g⟩ K ⟨T,H⟩=By (AV T H (.bin op x y)) K dst T:=propext Qa
@[go_sem] theorem nK {op:BinOp} {x y:Av}:Ab P n0 pre ((j,⟨dst,.bin op x y,none⟩)::rest) log K ⟨T,H⟩=By (AV T H (.bin op x y)) (Ab P n0 pre rest log K) dst T:=Ck rfl
@[go_sem] theorem iF {op:BinOp} {x y:Av}:Bu P ⟨dst,.MG op x y,g⟩ K ⟨T,H⟩=By (AV T H (.MG op x y)) K dst T:=propext Qa
@[go_sem] theorem mU {op:BinOp} {x y:Av}:Ab P n0 pre ((j,⟨dst,.MG op x y,none⟩)::rest) log K ⟨T,H⟩=By (AV T H (.MG op x y)) (Ab P n0 pre rest log K) dst T:=Ck rfl
@[go_sem] theorem xOne_eqb {neg:Bool} {x y:Av}:Bu P ⟨dst,.cS neg x y,g⟩ K ⟨T,H⟩=By (AV T H (.cS neg x y)) K dst T:=propext Qa
@[go_sem] theorem nP {neg:Bool} {x y:Av}:Ab P n0 pre ((j,⟨dst,.cS neg x y,none⟩)::rest) log K ⟨T,H⟩=By (AV T H (.cS neg x y)) (Ab P n0 pre rest log K) dst T:=Ck rfl
@[go_sem] theorem lE {neg:Bool} {ks:List Nat} {x y:Av}:Bu P ⟨dst,.eqs neg ks x y,g⟩ K ⟨T,H⟩=By (AV T H (.eqs neg ks x y)) K dst T:=propext Qa
@[go_sem] theorem nQ {neg:Bool} {ks:List Nat} {x y:Av}:Ab P n0 pre ((j,⟨dst,.eqs neg ks x y,none⟩)::rest) log K ⟨T,H⟩=By (AV T H (.eqs neg ks x y)) (Ab P n0 pre rest log K) dst T:=Ck rfl
@[go_sem] theorem gH {neg:Bool} {k:Nat} {x:Av}:Bu P ⟨dst,.isNil neg k x,g⟩ K ⟨T,H⟩=By (AV T H (.isNil neg k x)) K dst T:=propext Qa
@[go_sem] theorem li {neg:Bool} {k:Nat} {x:Av}:Ab P n0 pre ((j,⟨dst,.isNil neg k x,none⟩)::rest) log K ⟨T,H⟩=By (AV T H (.isNil neg k x)) (Ab P n0 pre rest log K) dst T:=Ck rfl
@[go_sem] theorem mN {op:UnOp} {x:Av}:Bu P ⟨dst,.un op x,g⟩ K ⟨T,H⟩=By (AV T H (.un op x)) K dst T:=propext Qa
@[go_sem] theorem oU {op:UnOp} {x:Av}:Ab P n0 pre ((j,⟨dst,.un op x,none⟩)::rest) log K ⟨T,H⟩=By (AV T H (.un op x)) (Ab P n0 pre rest log K) dst T:=Ck rfl
@[go_sem] theorem lG {off:Nat} {x:Av}:Bu P ⟨dst,.AQ off x,g⟩ K ⟨T,H⟩=By (AV T H (.AQ off x)) K dst T:=propext Qa
@[go_sem] theorem nU {off:Nat} {x:Av}:Ab P n0 pre ((j,⟨dst,.AQ off x,none⟩)::rest) log K ⟨T,H⟩=By (AV T H (.AQ off x)) (Ab P n0 pre rest log K) dst T:=Ck rfl
@[go_sem] theorem mK {n:Option Nat} {x:Av}:Bu P ⟨dst,.ld n x,g⟩ K ⟨T,H⟩=By (AV T H (.ld n x)) K dst T:=propext Qa
@[go_sem] theorem oN {n:Option Nat} {x:Av}:Ab P n0 pre ((j,⟨dst,.ld n x,none⟩)::rest) log K ⟨T,H⟩=Mr P n0 pre rest log K j dst (.ld n x) T H (AV T H (.ld n x)):=Lp rfl rfl
@[go_sem] theorem mM {size:Nat} {x y:Av}:Bu P ⟨dst,.st size x y,g⟩ K ⟨T,H⟩=By (AV T H (.st size x y)) K dst T:=propext Qa
@[go_sem] theorem oQ {size:Nat} {x y:Av}:Ab P n0 pre ((j,⟨dst,.st size x y,none⟩)::rest) log K ⟨T,H⟩=Bu P ⟨dst,.st size x y,none⟩ (Hc P n0 pre rest log K j) ⟨T,H⟩:=D6 rfl (λ_ _ e=>by cases e)
@[go_sem] theorem lR {x:Av}:Bu P ⟨dst,.Pb x,g⟩ K ⟨T,H⟩=By (AV T H (.Pb x)) K dst T:=propext Qa
@[go_sem] theorem nh {x:Av}:Ab P n0 pre ((j,⟨dst,.Pb x,none⟩)::rest) log K ⟨T,H⟩=By (AV T H (.Pb x)) (Ab P n0 pre rest log K) dst T:=Ck rfl
@[go_sem] theorem lI {n:Nat} {size:Nat} {x i:Av}:Bu P ⟨dst,.U7 n size x i,g⟩ K ⟨T,H⟩=By (AV T H (.U7 n size x i)) K dst T:=propext Qa
@[go_sem] theorem nW {n:Nat} {size:Nat} {x i:Av}:Ab P n0 pre ((j,⟨dst,.U7 n size x i,none⟩)::rest) log K ⟨T,H⟩=By (AV T H (.U7 n size x i)) (Ab P n0 pre rest log K) dst T:=Ck rfl
@[go_sem] theorem lJ {size:Nat} {x i:Av}:Bu P ⟨dst,.A9 size x i,g⟩ K ⟨T,H⟩=By (AV T H (.A9 size x i)) K dst T:=propext Qa
@[go_sem] theorem nX {size:Nat} {x i:Av}:Ab P n0 pre ((j,⟨dst,.A9 size x i,none⟩)::rest) log K ⟨T,H⟩=Mr P n0 pre rest log K j dst (.A9 size x i) T H (AV T H (.A9 size x i)):=Lp rfl rfl
@[go_sem] theorem gJ {x i:Av}:Bu P ⟨dst,.FA x i,g⟩ K ⟨T,H⟩=By (AV T H (.FA x i)) K dst T:=propext Qa
@[go_sem] theorem lk {x i:Av}:Ab P n0 pre ((j,⟨dst,.FA x i,none⟩)::rest) log K ⟨T,H⟩=By (AV T H (.FA x i)) (Ab P n0 pre rest log K) dst T:=Ck rfl
@[go_sem] theorem gI {n size:Nat} {agg:Bool} {x i:Av}:Bu P ⟨dst,.NR n size agg x i,g⟩ K ⟨T,H⟩=By (AV T H (.NR n size agg x i)) K dst T:=propext Qa
@[go_sem] theorem lj {n size:Nat} {agg:Bool} {x i:Av}:Ab P n0 pre ((j,⟨dst,.NR n size agg x i,none⟩)::rest) log K ⟨T,H⟩=By (AV T H (.NR n size agg x i)) (Ab P n0 pre rest log K) dst T:=Ck rfl
@[go_sem] theorem iD {off:Nat} {n:Option Nat} {x:Av}:Bu P ⟨dst,.part off n x,g⟩ K ⟨T,H⟩=By (AV T H (.part off n x)) K dst T:=propext Qa
@[go_sem] theorem mS {off:Nat} {n:Option Nat} {x:Av}:Ab P n0 pre ((j,⟨dst,.part off n x,none⟩)::rest) log K ⟨T,H⟩=By (AV T H (.part off n x)) (Ab P n0 pre rest log K) dst T:=Ck rfl
@[go_sem] theorem lK {str:Bool} {x:Av}:Bu P ⟨dst,.len str x,g⟩ K ⟨T,H⟩=By (AV T H (.len str x)) K dst T:=propext Qa
@[go_sem] theorem nY {str:Bool} {x:Av}:Ab P n0 pre ((j,⟨dst,.len str x,none⟩)::rest) log K ⟨T,H⟩=By (AV T H (.len str x)) (Ab P n0 pre rest log K) dst T:=Ck rfl
@[go_sem] theorem lF {x:Av} {i:Nat}:Bu P ⟨dst,.ext x i,g⟩ K ⟨T,H⟩=By (AV T H (.ext x i)) K dst T:=propext Qa
@[go_sem] theorem nR {x:Av} {i:Nat}:Ab P n0 pre ((j,⟨dst,.ext x i,none⟩)::rest) log K ⟨T,H⟩=By (AV T H (.ext x i)) (Ab P n0 pre rest log K) dst T:=Ck rfl
@[go_sem] theorem gD {zero:List AH} {parts:List (Nat×Nat×Av)}:Bu P ⟨dst,.build zero parts,g⟩ K ⟨T,H⟩=By (AV T H (.build zero parts)) K dst T:=propext Qa
@[go_sem] theorem lg {zero:List AH} {parts:List (Nat×Nat×Av)}:Ab P n0 pre ((j,⟨dst,.build zero parts,none⟩)::rest) log K ⟨T,H⟩=By (AV T H (.build zero parts)) (Ab P n0 pre rest log K) dst T:=Ck rfl
@[go_sem] theorem xOne_bsl {size n:Nat} {zero:List AH} {parts:List (Nat×Av)}:Bu P ⟨dst,.EO size n zero parts,g⟩ K ⟨T,H⟩=By (AV T H (.EO size n zero parts)) K dst T:=propext Qa
@[go_sem] theorem nM {size n:Nat} {zero:List AH} {parts:List (Nat×Av)}:Ab P n0 pre ((j,⟨dst,.EO size n zero parts,none⟩)::rest) log K ⟨T,H⟩=Bu P ⟨dst,.EO size n zero parts,none⟩ (Hc P n0 pre rest log K j) ⟨T,H⟩:=D6 rfl (λ_ _ e=>by cases e)
@[go_sem] theorem k9 {x:Av}:Bu P ⟨dst,.box x,g⟩ K ⟨T,H⟩=By (AV T H (.box x)) K dst T:=propext Qa
@[go_sem] theorem tV {x:Av}:Ab P n0 pre ((j,⟨dst,.box x,none⟩)::rest) log K ⟨T,H⟩=Bu P ⟨dst,.box x,none⟩ (Hc P n0 pre rest log K j) ⟨T,H⟩:=D6 rfl (λ_ _ e=>by cases e)
@[go_sem] theorem lU {zero:List AH}:Bu P ⟨dst,.new zero,g⟩ K ⟨T,H⟩=By (AV T H (.new zero)) K dst T:=propext Qa
@[go_sem] theorem ni {zero:List AH}:Ab P n0 pre ((j,⟨dst,.new zero,none⟩)::rest) log K ⟨T,H⟩=Bu P ⟨dst,.new zero,none⟩ (Hc P n0 pre rest log K j) ⟨T,H⟩:=D6 rfl (λ_ _ e=>by cases e)
@[go_sem] theorem lN {size bytes:Nat} {zero:List AH} {l c:Av}:Bu P ⟨dst,.MM size bytes zero l c,g⟩ K ⟨T,H⟩=By (AV T H (.MM size bytes zero l c)) K dst T:=propext Qa
@[go_sem] theorem nc {size bytes:Nat} {zero:List AH} {l c:Av}:Ab P n0 pre ((j,⟨dst,.MM size bytes zero l c,none⟩)::rest) log K ⟨T,H⟩=Bu P ⟨dst,.MM size bytes zero l c,none⟩ (Hc P n0 pre rest log K j) ⟨T,H⟩:=D6 rfl (λ_ _ e=>by cases e)
@[go_sem] theorem xOne_app {size bytes:Nat} {s x:Av}:Bu P ⟨dst,.app size bytes s x,g⟩ K ⟨T,H⟩=By (AV T H (.app size bytes s x)) K dst T:=propext Qa
@[go_sem] theorem nI {size bytes:Nat} {s x:Av}:Ab P n0 pre ((j,⟨dst,.app size bytes s x,none⟩)::rest) log K ⟨T,H⟩=Bu P ⟨dst,.app size bytes s x,none⟩ (Hc P n0 pre rest log K j) ⟨T,H⟩:=D6 rfl (λ_ _ e=>by cases e)
@[go_sem] theorem lW {x:Av}:Bu P ⟨dst,.Yg x,g⟩ K ⟨T,H⟩=By (AV T H (.Yg x)) K dst T:=propext Qa
@[go_sem] theorem nk {x:Av}:Ab P n0 pre ((j,⟨dst,.Yg x,none⟩)::rest) log K ⟨T,H⟩=Bu P ⟨dst,.Yg x,none⟩ (Hc P n0 pre rest log K j) ⟨T,H⟩:=D6 rfl (λ_ _ e=>by cases e)
@[go_sem] theorem lV {x:Av}:Bu P ⟨dst,.Ya x,g⟩ K ⟨T,H⟩=By (AV T H (.Ya x)) K dst T:=propext Qa
@[go_sem] theorem nj {x:Av}:Ab P n0 pre ((j,⟨dst,.Ya x,none⟩)::rest) log K ⟨T,H⟩=Bu P ⟨dst,.Ya x,none⟩ (Hc P n0 pre rest log K j) ⟨T,H⟩:=D6 rfl (λ_ _ e=>by cases e)
@[go_sem] theorem xOne_sla {n:Nat} {x:Av} {lo hi:Option Av}:Bu P ⟨dst,.Yi n x lo hi,g⟩ K ⟨T,H⟩=By (AV T H (.Yi n x lo hi)) K dst T:=propext Qa
@[go_sem] theorem nn {n:Nat} {x:Av} {lo hi:Option Av}:Ab P n0 pre ((j,⟨dst,.Yi n x lo hi,none⟩)::rest) log K ⟨T,H⟩=Mr P n0 pre rest log K j dst (.Yi n x lo hi) T H (AV T H (.Yi n x lo hi)):=Lp rfl rfl
@[go_sem] theorem lZ {size:Nat} {x:Av} {lo hi mx:Option Av}:Bu P ⟨dst,.Ue size x lo hi mx,g⟩ K ⟨T,H⟩=By (AV T H (.Ue size x lo hi mx)) K dst T:=propext Qa
@[go_sem] theorem np {size:Nat} {x:Av} {lo hi mx:Option Av}:Ab P n0 pre ((j,⟨dst,.Ue size x lo hi mx,none⟩)::rest) log K ⟨T,H⟩=Mr P n0 pre rest log K j dst (.Ue size x lo hi mx) T H (AV T H (.Ue size x lo hi mx)):=Lp rfl rfl
@[go_sem] theorem iG {x:Av} {lo hi:Option Av}:Bu P ⟨dst,.Km x lo hi,g⟩ K ⟨T,H⟩=By (AV T H (.Km x lo hi)) K dst T:=propext Qa
@[go_sem] theorem mV {x:Av} {lo hi:Option Av}:Ab P n0 pre ((j,⟨dst,.Km x lo hi,none⟩)::rest) log K ⟨T,H⟩=By (AV T H (.Km x lo hi)) (Ab P n0 pre rest log K) dst T:=Ck rfl
@[go_sem] theorem lQ {mx:Bool} {l:List Av}:Bu P ⟨dst,.WB mx l,g⟩ K ⟨T,H⟩=By (AV T H (.WB mx l)) K dst T:=propext Qa
@[go_sem] theorem ng {mx:Bool} {l:List Av}:Ab P n0 pre ((j,⟨dst,.WB mx l,none⟩)::rest) log K ⟨T,H⟩=By (AV T H (.WB mx l)) (Ab P n0 pre rest log K) dst T:=Ck rfl
@[go_sem] theorem lC {k:IntKind} {x:Av}:Bu P ⟨dst,.Hp k x,g⟩ K ⟨T,H⟩=By (AV T H (.Hp k x)) K dst T:=propext Qa
@[go_sem] theorem nO {k:IntKind} {x:Av}:Ab P n0 pre ((j,⟨dst,.Hp k x,none⟩)::rest) log K ⟨T,H⟩=By (AV T H (.Hp k x)) (Ab P n0 pre rest log K) dst T:=Ck rfl
@[go_sem] theorem lH {x:Av}:Bu P ⟨dst,.cU x,g⟩ K ⟨T,H⟩=By (AV T H (.cU x)) K dst T:=propext Qa
@[go_sem] theorem nV {x:Av}:Ab P n0 pre ((j,⟨dst,.cU x,none⟩)::rest) log K ⟨T,H⟩=By (AV T H (.cU x)) (Ab P n0 pre rest log K) dst T:=Ck rfl
@[go_sem] theorem xOne_flo {f:FOp} {x y:Av}:Bu P ⟨dst,.eo f x y,g⟩ K ⟨T,H⟩=By (AV T H (.eo f x y)) K dst T:=propext Qa
@[go_sem] theorem xd_flo {f:FOp} {x y:Av}:Ab P n0 pre ((j,⟨dst,.eo f x y,none⟩)::rest) log K ⟨T,H⟩=By (AV T H (.eo f x y)) (Ab P n0 pre rest log K) dst T:=Ck rfl
@[go_sem] theorem xOne_b2s {x:Av}:Bu P ⟨dst,.dz x,g⟩ K ⟨T,H⟩=By (AV T H (.dz x)) K dst T:=propext Qa
@[go_sem] theorem nJ {x:Av}:Ab P n0 pre ((j,⟨dst,.dz x,none⟩)::rest) log K ⟨T,H⟩=Bu P ⟨dst,.dz x,none⟩ (Hc P n0 pre rest log K j) ⟨T,H⟩:=D6 rfl (λ_ _ e=>by cases e)
@[go_sem] theorem xOne_s2b {x:Av}:Bu P ⟨dst,.eP x,g⟩ K ⟨T,H⟩=By (AV T H (.eP x)) K dst T:=propext Qa
@[go_sem] theorem nm {x:Av}:Ab P n0 pre ((j,⟨dst,.eP x,none⟩)::rest) log K ⟨T,H⟩=Bu P ⟨dst,.eP x,none⟩ (Hc P n0 pre rest log K j) ⟨T,H⟩:=D6 rfl (λ_ _ e=>by cases e)
@[go_sem] theorem iC {f:FuncId} {args:List Av}:Bu P ⟨dst,.call f args,g⟩ K ⟨T,H⟩=AF P f (args.map (Bm T)) H (YP K dst T):=propext Qa
@[go_sem] theorem mR {f:FuncId} {args:List Av}:Ab P n0 pre ((j,⟨dst,.call f args,none⟩)::rest) log K ⟨T,H⟩=Bu P ⟨dst,.call f args,none⟩ (Hc P n0 pre rest log K j) ⟨T,H⟩:=D6 rfl (λ_ _ e=>by cases e)
@[go_sem] theorem lh {x:Av} {args:List Av}:Ab P n0 pre ((j,⟨dst,.Ha x args,none⟩)::rest) log K ⟨T,H⟩=Bu P ⟨dst,.Ha x args,none⟩ (Hc P n0 pre rest log K j) ⟨T,H⟩:=D6 rfl (λ_ _ e=>by cases e)
@[go_sem] theorem lL {f:FuncId} {Kj:List Av}:Bu P ⟨dst,.YY f Kj,g⟩ K ⟨T,H⟩=By (AV T H (.YY f Kj)) K dst T:=propext Qa
@[go_sem] theorem nZ {f:FuncId} {Kj:List Av}:Ab P n0 pre ((j,⟨dst,.YY f Kj,none⟩)::rest) log K ⟨T,H⟩=By (AV T H (.YY f Kj)) (Ab P n0 pre rest log K) dst T:=Ck rfl
@[go_sem] theorem lM:Bu P ⟨dst,.Pa,g⟩ K ⟨T,H⟩=By (AV T H (.Pa)) K dst T:=propext Qa
@[go_sem] theorem na:Ab P n0 pre ((j,⟨dst,.Pa,none⟩)::rest) log K ⟨T,H⟩=Bu P ⟨dst,.Pa,none⟩ (Hc P n0 pre rest log K j) ⟨T,H⟩:=D6 rfl (λ_ _ e=>by cases e)
@[go_sem] theorem lO {zero:AH} {x k:Av}:Bu P ⟨dst,.Wb zero x k,g⟩ K ⟨T,H⟩=By (AV T H (.Wb zero x k)) K dst T:=propext Qa
@[go_sem] theorem nd {zero:AH} {x k:Av}:Ab P n0 pre ((j,⟨dst,.Wb zero x k,none⟩)::rest) log K ⟨T,H⟩=Mr P n0 pre rest log K j dst (.Wb zero x k) T H (AV T H (.Wb zero x k)):=Lp rfl rfl
@[go_sem] theorem lP {x k v:Av}:Bu P ⟨dst,.ZR x k v,g⟩ K ⟨T,H⟩=By (AV T H (.ZR x k v)) K dst T:=propext Qa
@[go_sem] theorem nf {x k v:Av}:Ab P n0 pre ((j,⟨dst,.ZR x k v,none⟩)::rest) log K ⟨T,H⟩=Bu P ⟨dst,.ZR x k v,none⟩ (Hc P n0 pre rest log K j) ⟨T,H⟩:=D6 rfl (λ_ _ e=>by cases e)
@[go_sem] theorem xOne_cpy {size:Nat} {d s:Av}:Bu P ⟨dst,.aC size d s,g⟩ K ⟨T,H⟩=By (AV T H (.aC size d s)) K dst T:=propext Qa
@[go_sem] theorem nN {size:Nat} {d s:Av}:Ab P n0 pre ((j,⟨dst,.aC size d s,none⟩)::rest) log K ⟨T,H⟩=Bu P ⟨dst,.aC size d s,none⟩ (Hc P n0 pre rest log K j) ⟨T,H⟩:=D6 rfl (λ_ _ e=>by cases e)
@[go_sem] theorem xOne_clr {size:Nat} {zero:List AH} {x:Av}:Bu P ⟨dst,.clr size zero x,g⟩ K ⟨T,H⟩=By (AV T H (.clr size zero x)) K dst T:=propext Qa
@[go_sem] theorem xd_clr {size:Nat} {zero:List AH} {x:Av}:Ab P n0 pre ((j,⟨dst,.clr size zero x,none⟩)::rest) log K ⟨T,H⟩=Bu P ⟨dst,.clr size zero x,none⟩ (Hc P n0 pre rest log K j) ⟨T,H⟩:=D6 rfl (λ_ _ e=>by cases e)
end
attribute [go_sem] List.length_cons List.length_nil Qf List.cons_append List.nil_append List.append_nil List.append_assoc List.length_append List.getD_cons_zero List.getD_cons_succ List.getElem?_cons_zero List.getElem?_cons_succ List.getElem?_nil List.set_cons_zero List.set_cons_succ Qj List.map_nil Nat.zero_add Option.map_some Option.map_none true_implies false_implies and_true true_and and_self and_false false_and ne_eq eq_self not_true_eq_false not_false_eq_true if_true if_false Int.natCast_zero Int.natCast_one Int.cast_ofNat_Int Int.toNat_natCast Int.toNat_zero decide_true decide_false Qe Bool.not_true Bool.not_false Oh List.take List.drop List.drop_zero Qg Nat.mul_one Nat.add_zero Bool.and_self Bool.and_true Bool.true_and Bool.or_self true_or or_true or_false false_or Iw Zj Bp Ho Ds Gv List.set_set List.length_set
attribute [go_sem] Nat.reduceAdd Nat.reduceSub Nat.reduceMul Nat.reduceLT Nat.reduceLeDiff Nat.reduceEqDiff Int.reduceToNat Int.reduceLE Int.reduceLT Int.reduceEq Int.reduceNe Int.reduceNeg Int.reduceAdd Int.reduceMul reduceCtorEq reduceIte
class Br (a:AH) (p q:outParam Prop):Prop where
 br:∃b,a= .bool b/\(b=true->p)/\(b=false->q)
instance (priority:=2000) brD {r:Prop} [Decidable r]:Br (.bool (decide r)) r (¬r):=⟨_,rfl,of_decide_eq_true,of_decide_eq_false⟩
instance (priority:=2000) brN {r:Prop} [Decidable r]:Br (.bool (!decide r)) (¬r) r:=⟨_,rfl,by simp,by simp⟩
instance (priority:=1500) brB {b:Bool}:Br (.bool (!b)) (b=false) (b=true):=⟨_,rfl,by simp,by simp⟩
instance (priority:=1000) brA {b:Bool}:Br (.bool b) (b=true) (b=false):=⟨_,rfl,id,id⟩
section
variable {P:Program}{n0:Nat}{Q:Exit->St->Prop}{s:St}{t e:AD}{dst:Option Nat}{op:GS}{l:List A6}{K:St->Prop}{T:List AH}{H:AP}{pre:Nat->Nat->Bool}{rest:List (Nat×A6)}{log:Cp}{j:Nat}{a:AH}{p q:Prop}
theorem cB[h:Br a p q](hp:p->I9 P n0 t Q s)(hq:q->I9 P n0 e Q s):MI P n0 Q s t e a:=by
 obtain⟨b,rfl,h1,h2⟩:=h.br
 exact aT (λh=>hp (h1 h)) (λh=>hq (h2 h))
theorem gT[h:Br a p q](hp:p->Bu P ⟨dst,op,none⟩ (Eb P l K) ⟨T,H⟩)(hq:q->Eb P l K ⟨Ar T dst Co,H⟩):EB P dst op l K T H true a:=by
 obtain⟨b,rfl,h1,h2⟩:=h.br
 exact ZL (λh=>hp (h1 h)) (λh=>hq (h2 h))
theorem gF[h:Br a p q](hq:q->Bu P ⟨dst,op,none⟩ (Eb P l K) ⟨T,H⟩)(hp:p->Eb P l K ⟨Ar T dst Co,H⟩):EB P dst op l K T H false a:=by
 obtain⟨b,rfl,h1,h2⟩:=h.br
 exact ZK (λh=>hq (h2 h)) (λh=>hp (h1 h))
theorem dT[h:Br a p q](hp:p->Ab P n0 pre ((j,⟨dst,op,none⟩)::rest) log K ⟨T,H⟩)(hq:q->Ab P n0 pre rest log K ⟨Ar T dst Co,H⟩):EA P n0 pre j dst op rest log K T H true a:=by
 obtain⟨b,rfl,h1,h2⟩:=h.br
 exact ZJ (λh=>hp (h1 h)) (λh=>hq (h2 h))
theorem dF[h:Br a p q](hq:q->Ab P n0 pre ((j,⟨dst,op,none⟩)::rest) log K ⟨T,H⟩)(hp:p->Ab P n0 pre rest log K ⟨Ar T dst Co,H⟩):EA P n0 pre j dst op rest log K T H false a:=by
 obtain⟨b,rfl,h1,h2⟩:=h.br
 exact ZI (λh=>hq (h2 h)) (λh=>hp (h1 h))
end
section
variable {H:AP}{a b c d e f x:Au}{L:AP}
@[go_sem] theorem BH:(H++a::L)[H.length]?=some a:=by rw[Qb (Qg _)];simp
@[go_sem] theorem BP:(H++a::b::L)[H.length+1]?=some b:=by rw[Qb (by omega)];simp
@[go_sem] theorem BO:(H++a::b::c::L)[H.length+2]?=some c:=by rw[Qb (by omega)];simp
@[go_sem] theorem BR:(H++a::b::c::d::L)[H.length+3]?=some d:=by rw[Qb (by omega)];simp
@[go_sem] theorem BU:(H++a::b::c::d::e::L)[H.length+4]?=some e:=by rw[Qb (by omega)];simp
@[go_sem] theorem BV:(H++a::b::c::d::e::f::L)[H.length+5]?=some f:=by rw[Qb (by omega)];simp
@[go_sem] theorem ou:(H++a::L).set H.length x=H++x::L:=by rw[Qc _ _ (Qg _)];simp
@[go_sem] theorem ov:(H++a::b::L).set (H.length+1) x=H++a::x::L:=by rw[Qc _ _ (by omega)];simp
@[go_sem] theorem OR:(H++a::b::c::L).set (H.length+2) x=H++a::b::x::L:=by rw[Qc _ _ (by omega)];simp
@[go_sem] theorem ow:(H++a::b::c::d::L).set (H.length+3) x=H++a::b::c::x::L:=by rw[Qc _ _ (by omega)];simp
@[go_sem] theorem oy:(H++a::b::c::d::e::L).set (H.length+4) x=H++a::b::c::d::x::L:=by rw[Qc _ _ (by omega)];simp
@[go_sem] theorem oz:(H++a::b::c::d::e::f::L).set (H.length+5) x=H++a::b::c::d::e::x::L:=by rw[Qc _ _ (by omega)];simp
theorem UD{o:Nat}(h:H[o]?=some a):(H++L)[o]?=some a:=by rw[List.getElem?_append_left (List.getElem?_eq_some_iff.1 h).1];exact h
end
theorem AF.tidy{P:Program}{f:FuncId}{args:List AH}{H:AP}{K:AH->AP->Prop}(h:AF P f args H λv H'=>v.plain=true/\(∃L,H'=H++L)/\K v H):AF P f args H K:=
 AF.iZ (h.mono λv H' ⟨hv,⟨L,e⟩,hk⟩=>⟨hv,H,L,e,Qg _,id,hk⟩)
class Sp (G:Prop) (p q A B:outParam Prop):Prop where
 out:(p->A)->(q->B)->G
section
variable {P:Program}{n0:Nat}{Q:Exit->St->Prop}{s:St}{t e:AD}{dst:Option Nat}{op:GS}{l:List A6}{K:St->Prop}{T:List AH}{H:AP}{pre:Nat->Nat->Bool}{rest:List (Nat×A6)}{log:Cp}{j:Nat}{a:AH}{p q:Prop}
instance [Br a p q]:Sp (MI P n0 Q s t e a) p q (I9 P n0 t Q s) (I9 P n0 e Q s):=⟨cB⟩
instance [Br a p q]:Sp (EB P dst op l K T H true a) p q (Bu P ⟨dst,op,none⟩ (Eb P l K) ⟨T,H⟩) (Eb P l K ⟨Ar T dst Co,H⟩):=⟨gT⟩
instance [Br a p q]:Sp (EB P dst op l K T H false a) q p (Bu P ⟨dst,op,none⟩ (Eb P l K) ⟨T,H⟩) (Eb P l K ⟨Ar T dst Co,H⟩):=⟨gF⟩
instance [Br a p q]:Sp (EA P n0 pre j dst op rest log K T H true a) p q (Ab P n0 pre ((j,⟨dst,op,none⟩)::rest) log K ⟨T,H⟩) (Ab P n0 pre rest log K ⟨Ar T dst Co,H⟩):=⟨dT⟩
instance [Br a p q]:Sp (EA P n0 pre j dst op rest log K T H false a) q p (Ab P n0 pre ((j,⟨dst,op,none⟩)::rest) log K ⟨T,H⟩) (Ab P n0 pre rest log K ⟨Ar T dst Co,H⟩):=⟨dF⟩
end
theorem orR{α:Sort _}{a:α}{p q:Prop}(h:q):(p\/a=a)/\q:=⟨.inr rfl,h⟩
theorem mpC:(∀{α β:Type} {f:α->β} {a:α} {l:List α},(a::l).map f=f a::l.map f)/\∀{α β:Type} {f:α->β},[].map f=[]:=⟨rfl,rfl⟩
theorem apC:(∀{α:Type} {a:α} {l r:List α},a::l++r=a::(l++r))/\∀{α:Type} {l:List α},[]++l=l:=⟨rfl,rfl⟩
theorem sp{G p q A B:Prop}[h:Sp G p q A B](x:p->A)(y:q->B):G:=h.out x y
theorem bs:(∀{α:Type} {a b:α},(bif true then a else b)=a)/\(∀{α:Type} {a b:α},(bif false then a else b)=b)/\(∀b:Bool,(b&&true)=b)/\(∀b:Bool,(true&&b)=b)/\(∀b:Bool,(b&&false)=false)/\(∀b:Bool,(false&&b)=false)/\(∀b:Bool,(b||true)=true)/\(∀b:Bool,(true||b)=true)/\(∀b:Bool,(b||false)=b)/\(∀b:Bool,(false||b)=b)/\(!true)=false/\(!false)=true/\decide True=true/\decide False=false:=by
 refine⟨rfl,rfl,?_,?_,?_,?_,?_,?_,?_,?_,rfl,rfl,?_,?_⟩<;>simp
theorem Aa{P:Program}{f:FuncId}{c:AD}{nt:Nat}{rs:List Pj}(hok:Ao P f c nt rs=true){args:List AH}{H:AP}{K:AH->AP->Prop}
 (h:I9 P H.length c (M8 rs K) ⟨OF nt (Th args 0),H⟩) (hl:Nat.ble args.length nt=true:=by rfl):AF P f args H K:=AF.Aa hok (Nat.le_of_ble_eq_true hl) h
@[reducible,simp,go_sem] def nS (n:Int):AH:= .int .i64 n
@[reducible,simp,go_sem] def nT (n:Int):AH:= .int .u64 n
end Go.Ax

/- States as plain data, and what may be. No program in sight. Conditions: none. -/
import Derived.Test.YtohgndhnndeijaaGreatMBaseZ
import Derived.Test.YtohgndhnndeijaaGreatSLoopZ
set_option linter.all false
open List renaming range -> Qa, getD -> Qb, all_eq_true -> Qc, mem_cons_of_mem -> Qe, replicate -> Qf, countP_cons -> Qh, foldl_cons -> Qi, range_succ -> Qj, mem_range -> Qk, map_cons -> Ql, mem_map -> Qm
open Bool renaming and_eq_true -> Qd, not_eq_true' -> Qg
namespace Go.Ax.M
open Go Go.Ax
structure Slot where
 cap:Bh
 up:Int
 deriving DecidableEq,Inhabited
def Slot.cells(x:Slot):List AH:=[nS x.cap.ty,nS x.cap.th,nS x.cap.ri,nS x.cap.ba,nS x.up]
@[go_sem] theorem Slot.eta {x:Slot}:(⟨x.cap,x.up⟩:Slot)=x:=rfl
def Slot.zero:Slot:=⟨.zero,0⟩
structure State where
 AS:SY
 AE:List Slot
 AB:List AN
 deriving DecidableEq,Inhabited
def State.slot(s:State)(k:Nat):Slot:=s.AE.getD k Slot.zero
def State.AG(s:State)(k:Nat):AN:=s.AB.getD k AN.zero
def BD(s:State)(t:Int):Bool:=decide (0<=t)&&(decide (t<s.AB.length)&&!decide ((s.AG t.toNat).ty=0))
def Ic(s:State)(x:Slot):Bool:=
 Bq x.cap&&((bif Aq x.cap then decide (x.up=-1)else decide (-1<=x.up))&&(Aq x.cap||(BD s x.cap.th&&decide ((s.AG x.cap.th.toNat).ty=x.cap.ty))))
def Lb(s:State):Bool:=s.AE.all (Ic s)
def DV(s:State)(t:Int)(k:Nat):Bool:=!Aq (s.slot k).cap&&decide ((s.slot k).cap.th=t)
def BM(s:State)(t:Int):List Int:=pick (DV s t) s.AE.length
def Bc(s:State)(i:Nat):Bool:=decide (2<=(i:Int))&&decide ((i:Int)<2+s.AS.AI)
def EY(g:SY)(n:Int):AN:=⟨2,3,LD g n,0,0,0,0,false,0,0,0,0,0⟩
def Hs(s:State)(t:AN):Bool:=!decide (0<t.from_)||(!decide ((s.AE.length:Int)<t.from_)&&!Aq (s.slot (t.from_-1).toNat).cap)
def DE(s:State)(i:Nat):Bool:=
 BB (s.AG i)&&(Hs s (s.AG i)&&(bif Bc s i then F4 (s.AG i) (EY s.AS (i-2))else(decide ((s.AG i).ty=0)||!decide (((BM s i).length:Int)=0))))
def F5(s:State):Bool:=(Qa s.AB.length).all (DE s)
def Dv(s:State)(x:Slot):Bool:=decide (x.up<0)||(Dw x.cap (s.slot x.up.toNat).cap||(decide ((s.slot x.up.toNat).cap.ty=1)&&!decide (x.cap.th=(s.slot x.up.toNat).cap.th)))
def Hh(s:State):Bool:=s.AE.all (Dv s)
def FE(x:Slot):Int:=bif Aq x.cap then-2 else x.up
def As(s:State):List Int:=s.AE.map FE
def Bx(t:AN)(slot:Int):Bool:=decide (t.ty=2)&&(decide (t.base<=slot)&&decide (slot<t.base+p2 t.bits))
def A0(s:State)(slot:Int):Int:=Gx (λk=>Bx (s.AG k) slot) s.AB.length
def DT(s:State):Prop:=∀k,k<s.AB.length->BB (s.AG k)=true
theorem CO{t:AN}(h:BB t=true)(h2:t.ty=2):Bv t.bits 1 4=true/\0<=t.base/\t.base+p2 t.bits<=96:=by
 simp[BB,h2,Bv]at h
 simp[Bv];omega
def Bk(s:State)(f:Int->List Int->List Int)(node:Int)(had:List Int)(i:Nat):List Int:=
 bif decide ((s.slot i).cap.ty=2)&&(Bx (s.AG node.toNat) i&&BD s (s.slot i).cap.th)then f (s.slot i).cap.th had else had
def B7(s:State):Nat->Int->List Int->List Int
 |0,_,had=>had
 |n+1,node,had=>bif had.contains node then had else(Qa s.AE.length).foldl (Bk s (B7 s n) node) (had++[node])
def Ch(s:State)(node slot:Int):Bool:=
 BD s node&&(decide ((s.AG node.toNat).ty=2)&&(B7 s (s.AB.length+1) node []).contains (A0 s slot))
def Jp(s:State)(l:List Int):Nat:=(Qa s.AB.length).countP fun(k:Nat)=>!l.contains ((k:Nat):Int)
theorem Jj{α:Type}{p q:α->Bool}:∀{L:List α},(∀x∈L,q x=true->p x=true)->(∃a∈L,p a=true/\q a=false)->L.countP q<L.countP p
 |[],_,h=>by obtain⟨a,ha,_⟩:=h;cases ha
 |x::L,hm,h=>by
  have hle:L.countP q<=L.countP p:=List.countP_mono_left λy hy=>hm y (Qe _ hy)
  rw[Qh,Qh]
  obtain⟨a,ha,h1,h2⟩:=h
  rcases List.mem_cons.1 ha with rfl|ha
  ·simp[h1,h2];omega
  ·have:=Jj (λy hy=>hm y (Qe _ hy)) ⟨a,ha,h1,h2⟩
   have hx:=hm x List.mem_cons_self
   cases hq:q x<;>cases hp:p x<;>simp_all<;>omega
theorem VB{s:State}{l:List Int}:Jp s l<=s.AB.length:=by
 unfold Jp;exact Nat.le_trans List.countP_le_length (by simp)
theorem VC{s:State}{l l':List Int}{n:Int}(hsub:∀x∈l,x∈l')(h0:0<=n)(h1:n<s.AB.length)(hn:l.contains n=false)(hn':n∈l'):Jp s l'<Jp s l:=by
 refine Jj (λx _ hx=> ?_) ⟨n.toNat,Qk.2 (by omega),?_,?_⟩
 ·simp at hx ⊢;exact λh=>hx (hsub _ h)
 ·rw[show((n.toNat:Nat):Int)=n by omega,hn];rfl
 ·rw[show((n.toNat:Nat):Int)=n by omega];simp[hn']
theorem O8{s:State}:∀{n:Nat} {node:Int} {l:List Int} {x:Int},x∈l->x∈B7 s n node l
 |0,_,_,_,h=>h
 |n+1,node,l,x,h=>by
  rw[B7]
  cases l.contains node with
  |true=>exact h
  |false=>
   have:∀(L:List Nat) (l:List Int),x∈l->x∈L.foldl (Bk s (B7 s n) node) l:=by
    intro L
    induction L with
    |nil=>exact λl h=>h
    |cons i L ih=>
     intro l h
     rw[Qi]
     refine ih _ ?_
     unfold Bk
     cases (decide ((s.slot i).cap.ty=2)&&(Bx (s.AG node.toNat) i&&BD s (s.slot i).cap.th))with
     |true=>exact O8 h
     |false=>exact h
   exact this _ _ (by simp[h])
theorem P6{s:State}{n:Nat}{node:Int}{x:Int}:∀(L:List Nat) (l:List Int),x∈l->x∈L.foldl (Bk s (B7 s n) node) l
 |[],_,h=>h
 |i::L,l,h=>by
  rw[Qi]
  refine P6 L _ ?_
  unfold Bk
  cases (decide ((s.slot i).cap.ty=2)&&(Bx (s.AG node.toNat) i&&BD s (s.slot i).cap.th))with
  |true=>exact O8 h
  |false=>exact h
def LH(l:List Int):List (AH×AH):=l.map λn=>(nS n,.bool true)
theorem OE{n:Int}:∀{l:List Int},JJ .i64 n (LH l)=some (bif l.contains n then some (.bool true)else none)
 |[]=>rfl
 |a::l=>by
  have ih:=OE (n:=n) (l:=l)
  simp only[LH]at ih
  simp only[LH,Ql,JJ,if_true,ih]
  by_cases h:n=a
  ·simp[h]
  ·simp[h]
theorem VK{n:Int}:∀{l:List Int},l.contains n=false->Jr .i64 n (.bool true) (LH l)=LH (l++[n])
 |[],_=>rfl
 |a::l,h=>by
  have h1:¬n=a:=by intro e;subst e;simp at h
  have h2:l.contains n=false:=by simp at h ⊢;exact h.2
  have ih:=VK (n:=n) (l:=l) h2
  simp only[LH]at ih
  simp only[LH,Ql,List.cons_append,Jr,h1,if_false,ih]
def Hg(s:State)(i:Nat):Bool:=decide ((s.slot i).cap.ty=2)&&Ch s (s.slot i).cap.th i
def Oy(s:State):Bool:=!(Qa s.AE.length).all λi=>!Hg s i
def FN(base:Int)(had:Option (List Bool))(i:Nat):Option (List Bool):=match had with
 |none=>none
 |some h=>bif decide (base+i<h.length)&&!h.getD (base+i).toNat false then some (h.set (base+i).toNat true)else none
def C8(s:State)(had:Option (List Bool))(k:Nat):Option (List Bool):=
 bif decide ((s.AG k).ty=2)then(Qa (p2 (s.AG k).bits).toNat).foldl (FN (s.AG k).base) had else had
def Cs(s:State)(k:Nat):Option (List Bool):=(Qa k).foldl (C8 s) (some (Qf s.AE.length false))
def Iz(s:State):Bool:=match Cs s s.AB.length with
 |none=>false
 |some h=>(Qa s.AE.length).all λi=>h.getD i false||Aq (s.slot i).cap
theorem IK{b:Int}:∀(L:List Nat),L.foldl (FN b) none=none
 |[]=>rfl
 |_::L=>IK L
theorem EL{s:State}{k:Nat}:Cs s (k+1)=C8 s (Cs s k) k:=by simp[Cs,Qj]
theorem MN{s:State}{k n:Nat}(h:Cs s k=none)(hk:k<=n):Cs s n=none:=by
 obtain⟨m,rfl⟩:=Nat.exists_eq_add_of_le hk
 induction m with
 |zero=>exact h
 |succ m ih=>rw[<-Nat.add_assoc,EL,ih (by omega)];unfold C8;rw[IK];cases decide ((s.AG (k+m)).ty=2)<;>rfl
def marks(b:Int)(had:List Bool)(i:Nat):Option (List Bool):=(Qa i).foldl (FN b) (some had)
theorem GA{b:Int}{had:List Bool}{i:Nat}:marks b had (i+1)=FN b (marks b had i) i:=by simp[marks,Qj]
theorem Wa{b:Int}{had:List Bool}{i n:Nat}(h:marks b had i=none)(hk:i<=n):marks b had n=none:=by
 obtain⟨m,rfl⟩:=Nat.exists_eq_add_of_le hk
 induction m with
 |zero=>exact h
 |succ m ih=>rw[<-Nat.add_assoc,GA,ih (by omega)];rfl
theorem Vf{s:State}{k i N:Nat}{had:List Bool}(hI:Cs s k=some had)(h2:(s.AG k).ty=2)(hN:(p2 (s.AG k).bits).toNat=N)(hm:marks (s.AG k).base had (i+1)=none)(hi:i<N)(hk:k<s.AB.length):Cs s s.AB.length=none:=by
 refine MN (k:=k+1) ?_ hk
 rw[EL,hI]
 have:=Wa hm (n:=N) hi
 simp only[C8,h2,decide_true,cond_true,hN]
 exact this
theorem Vg{s:State}{k N:Nat}{had had':List Bool}(hI:Cs s k=some had)(h2:(s.AG k).ty=2)(hN:(p2 (s.AG k).bits).toNat=N)(hm:marks (s.AG k).base had N=some had'):Cs s (k+1)=some had':=by
 rw[EL,hI]
 simp only[C8,h2,decide_true,cond_true,hN]
 exact hm
theorem OC{b:Int}{had h:List Bool}{i:Nat}(e:marks b had i=some h):h.length=had.length:=by
 induction i generalizing h with
 |zero=>simp[marks]at e;rw[e]
 |succ i ih=>
  rw[GA]at e
  unfold FN at e
  split at e
  ·cases e
  ·rename_i h0 h1
   cases hc:(decide (b+i<h0.length)&&!h0.getD (b+i).toNat false)with
   |false=>rw[hc]at e;cases e
   |true=>rw[hc]at e;simp at e;rw[<-e,List.length_set];exact ih h1
def C6(l:List Bool):List (List AH):=l.map λx=>[.bool x]
@[go_sem] theorem sr {l:List Bool}:(C6 l).length=l.length:=by simp[C6]
theorem DJ{l:List Bool}{k:Nat}(h:k<l.length):(C6 l)[k]?=some [.bool (l.getD k false)]:=by simp[C6,h,Qb]
theorem Ey{l:List Bool}{k:Nat}{b:Bool}:(C6 l).set k [.bool b]=C6 (l.set k b):=by simp[C6,List.map_set]
theorem Lu{n:Nat}:C6 (Qf n false)=Qf n [.bool false]:=by simp[C6]
def BN(s:State):Bool:=
 Ee s.AS&&(decide ((s.AE.length:Int)=s.AS.AE)&&(decide ((s.AB.length:Int)=s.AS.AB)&&(Lb s&&(F5 s&&(Iz s&&(!Oy s&&(Cm (As s)&&Hh s)))))))
theorem Lk{s:State}(h:F5 s=true):DT s:=by
 intro k hk
 have:=Qc.1 (show(Qa s.AB.length).all (DE s)=true by simpa [F5] using h) k (Qk.2 hk)
 simp[DE]at this
 exact this.1
theorem A8{s:State}:(As s).length=s.AE.length:=by simp[As]
theorem EG{s:State}{k:Nat}(hk:k<s.AE.length):(As s).getD k 0=FE (s.slot k):=by simp[As,State.slot,hk,Qb]
theorem Ld{s:State}{k:Nat}(hk:k<s.AE.length):s.slot k∈s.AE:=by
 simp[State.slot,hk,Qb]
theorem uc{s:State}(hc:Lb s=true)(hf:Cm (As s)=true)(k:Nat)(hk:k<s.AE.length):(s.slot k).up<s.AE.length:=by
 have h1:=Qc.1 (show s.AE.all (Ic s)=true by simpa [Lb] using hc) _ (Ld hk)
 have h2:(As s).all (ZA (As s))=true:=by simp only[Cm,Qd]at hf;exact hf.2.1
 have h3:=Qc.1 h2 (FE (s.slot k)) (by simp[As];exact⟨_,Ld hk,rfl⟩)
 cases hn:Aq (s.slot k).cap with
 |true=>simp[Ic,hn]at h1;omega
 |false=>
  simp[FE,hn,ZA,E0,A8]at h3
  omega
structure Ft (s:State):Prop where
 AS:Ee s.AS=true
 AE:(s.AE.length:Int)=s.AS.AE
 AB:(s.AB.length:Int)=s.AS.AB
 Kj:Lb s=true
 Nn:F5 s=true
 nodes:Iz s=true
 ring:Oy s=false
 Ii:Cm (As s)=true
 allowed:Hh s=true
theorem F7{s:State}(h:BN s=true):Ft s:=by
 simp only[BN,Qd,decide_eq_true_eq,Qg]at h
 exact⟨h.1,h.2.1,h.2.2.1,h.2.2.2.1,h.2.2.2.2.1,h.2.2.2.2.2.1,h.2.2.2.2.2.2.1,h.2.2.2.2.2.2.2.1,h.2.2.2.2.2.2.2.2⟩
theorem Ft.DR{s:State}(h:Ft s):BN s=true:=by
 simp only[BN,Qd,decide_eq_true_eq,Qg]
 exact⟨h.AS,h.AE,h.AB,h.Kj,h.Nn,h.nodes,h.ring,h.Ii,h.allowed⟩
theorem Ft.ok{s:State}(h:Ft s):DT s:=Lk h.Nn
theorem Ft.lS{s:State}(h:Ft s):8<=s.AE.length/\s.AE.length<=96:=by have:=Hb h.AS;have:=h.AE;omega
theorem Ft.lT{s:State}(h:Ft s):3<=s.AB.length/\s.AB.length<=48:=by have:=Hb h.AS;have:=h.AB;omega
def Gt(a b:Slot):Bool:=decide (a.cap.ty=b.cap.ty)&&(decide (a.cap.th=b.cap.th)&&(decide (a.cap.ri=b.cap.ri)&&(decide (a.cap.ba=b.cap.ba)&&decide (a.up=b.up))))
@[go_sem high] theorem kh {x0 x1 x2 x3 x4 y0 y1 y2 y3 y4:Int}:Bp [0,0,0,0,0] [nS x0,nS x1,nS x2,nS x3,nS x4] [nS y0,nS y1,nS y2,nS y3,nS y4]=some (Gt ⟨⟨x0,x1,x2,x3⟩,x4⟩ ⟨⟨y0,y1,y2,y3⟩,y4⟩):=by
 simp[Bp,Ho,Gt]
def Dm{α:Type}(f:α->α->Bool)(d:α)(a b:List α):Bool:=decide (a.length=b.length)&&(Qa a.length).all λk=>f (a.getD k d) (b.getD k d)
def ZD(a b:SY):Bool:=decide (a.AI=b.AI)&&(decide (a.AE=b.AE)&&decide (a.AB=b.AB))
@[go_sem high] theorem l7 {x0 x1 x2 y0 y1 y2:Int}:Bp [0,0,0] [nS x0,nS x1,nS x2] [nS y0,nS y1,nS y2]=some (ZD ⟨x0,x1,x2⟩ ⟨y0,y1,y2⟩):=by
 simp[Bp,Ho,ZD]
def Gs(a b:State):Bool:=ZD a.AS b.AS&&(Dm Gt .zero a.AE b.AE&&Dm F4 .zero a.AB b.AB)
theorem JQ{l:List Slot}:∀x∈l.map Slot.cells,∀a∈x,a.plain=true:=by
 intro x hx a ha
 obtain⟨y,-,rfl⟩:=Qm.1 hx
 simp[Slot.cells]at ha
 rcases ha with rfl|rfl|rfl|rfl|rfl<;>rfl
theorem IH{l:List AN}:∀x∈l.map AN.cells,∀a∈x,a.plain=true:=by
 intro x hx a ha
 obtain⟨y,-,rfl⟩:=Qm.1 hx
 simp[AN.cells]at ha
 rcases ha with rfl|rfl|rfl|rfl|rfl|rfl|rfl|rfl|rfl|rfl|rfl|rfl|rfl<;>rfl
def BT(s:State)(o o':Nat)(f f':Bool):AH:= .agg [nS s.AS.AI,nS s.AS.AE,nS s.AS.AB,.slice o s.AE.length 0 s.AE.length f,.slice o' s.AB.length 0 s.AB.length f']
def AM(s:State):Au:= .AU 5 (s.AE.map Slot.cells) false
def AJ(s:State):Au:= .AU 13 (s.AB.map AN.cells) false
theorem Gc.state{H L:AP}{K:AH->AP->Prop}{i j:Nat}{s:State}{f f':Bool}(hi:L[i]?=some (AM s))(hj:L[j]?=some (AJ s))(hij:i≠j)(h:K (BT s H.length (H.length+1) f f') (H++[AM s,AJ s])):
 Gc H K (BT s (H.length+i) (H.length+j) f f') (H++L):=by
 refine⟨[i,j],L,[AM s,AJ s],_,rfl,Tf.two hi hj hij (.plain JQ) (.plain IH),?_,h⟩
 refine⟨_,rfl,_,_,rfl,rfl,_,_,rfl,rfl,_,_,rfl,rfl,_,_,rfl,⟨H.length,rfl,.inr ⟨i,0,rfl,rfl,rfl⟩⟩,_,_,rfl,⟨H.length+1,rfl,.inr ⟨j,1,rfl,rfl,rfl⟩⟩,rfl⟩
def CU(s:State):Int:=bif BN s then Gx (λk=>decide ((s.AG k).ty=0)) s.AB.length else-1
def FD(s:State)(n:Int):Int:=bif BN s&&(decide (0<=n)&&decide (n<s.AE.length))then A0 s n else-1
def Et(s:State)(node n:Int):Bool:=BN s&&(decide (0<=n)&&(decide (n<s.AE.length)&&Ch s node n))
def JH(s:State)(m:Int):Nat->Nat->Int->Int×Bool
 |0,_,_=>(0,false)
 |r+1,i,many=>let n:=bif decide (A0 s i=-1)then many+1 else 0
  bif decide (n=m)then((i:Int)+1-n,true)else JH s m r (i+1) n
def F3(s:State)(bits:Int):Int×Bool:=bif BN s&&(decide (1<=bits)&&decide (bits<=4))then JH s (p2 bits) s.AE.length 0 0 else(0,false)
theorem A4{s:State}{k:Nat}(h:k<s.AE.length):(s.AE.map Slot.cells)[k]?=some [nS (s.slot k).cap.ty,nS (s.slot k).cap.th,nS (s.slot k).cap.ri,nS (s.slot k).cap.ba,nS (s.slot k).up]:=by
 simp[State.slot,h,Qb,Slot.cells]
theorem BI{s:State}{k:Nat}(h:k<s.AB.length):(s.AB.map AN.cells)[k]?=some [nS (s.AG k).ty,nS (s.AG k).bits,nS (s.AG k).base,nS (s.AG k).size,nS (s.AG k).used,nS (s.AG k).from_,nS (s.AG k).BF,.bool (s.AG k).full,nT (s.AG k).word,nT (s.AG k).d0,nT (s.AG k).d1,nT (s.AG k).d2,nT (s.AG k).d3]:=by
 simp[State.AG,h,Qb,AN.cells]
theorem Dt{s:State}{t:Int}(h:BD s t=true):(0<=t)=True/\(t<(s.AB.length:Int))=True/\(s.AB.map AN.cells)[t.toNat]?=some [nS (s.AG t.toNat).ty,nS (s.AG t.toNat).bits,nS (s.AG t.toNat).base,nS (s.AG t.toNat).size,nS (s.AG t.toNat).used,nS (s.AG t.toNat).from_,nS (s.AG t.toNat).BF,.bool (s.AG t.toNat).full,nT (s.AG t.toNat).word,nT (s.AG t.toNat).d0,nT (s.AG t.toNat).d1,nT (s.AG t.toNat).d2,nT (s.AG t.toNat).d3]:=by
 simp[BD]at h
 exact⟨by simp[h],by simp[h],BI (by omega)⟩
theorem Vo{s:State}{p:Slot->Bool}{k:Nat}(hk:k<s.AE.length):(s.AE.take (k+1)).all p=((s.AE.take k).all p&&p (s.slot k)):=J6 hk
theorem Rq{s:State}{p:Slot->Bool}{k:Nat}(hk:k<s.AE.length)(h:p (s.slot k)=false):s.AE.all p=false:=all_false hk h
theorem Fk{s:State}{k:Nat}(hk:k<s.AE.length):s.AE.take (k+1)=s.AE.take k++[s.slot k]:=by rw[List.take_succ_eq_append_getElem hk];simp[State.slot,Qb,hk]
attribute [go_sem] List.length_map
attribute [irreducible] BD Ic Lb DV BM Bc Hs DE F5 Dv Hh FE Bx A0 Bk Ch Hg Oy Iz BN Gt Dm ZD Gs CU FD Et F3
@[reducible,simp,go_sem] def stA (s:State) (o p:Nat) (f g:Bool):AH:= .agg [nS s.AS.AI,nS s.AS.AE,nS s.AS.AB,.slice o s.AE.length 0 s.AE.length f,.slice p s.AB.length 0 s.AB.length g]
abbrev jI(H:AP)(o:Nat)(s:State)(r:Bool):Prop:=H[o]?=some (.AU 5 (s.AE.map Slot.cells) r)
abbrev jU(H:AP)(o:Nat)(s:State)(r:Bool):Prop:=H[o]?=some (.AU 13 (s.AB.map AN.cells) r)
end Go.Ax.M

/- Texts put behind one another: MFind, MOps, MLaw, MOps2. Conditions: none. -/
import Derived.Test.YtohgndhnndeijaaGreatMStateZ
set_option linter.all false
open List renaming getElem?_append_right -> Qa, set_append_right -> Qb, all_eq_true -> Qd, mem_cons_of_mem -> Qe, mem_cons_self -> Qf, range -> Qh, mem_range -> Qi, replicate -> Qj, map_set -> Qk, getD -> Ql
open Bool renaming and_eq_true -> Qc, not_eq_true' -> Qg
namespace Go.Ax.M
open Go Go.Ax
def BJ(p:List Int):Bool:=decide (1<=(p.length:Int))&&(decide ((p.length:Int)<=3)&&p.all λn=>decide (0<=n)&&decide (n<=15))
structure Call where
 op:Int
 a:List Int
 b:List Int
 x:Int
 y:Int
 w:Int
 deriving DecidableEq,Inhabited
def Ur(op:Int):List UInt8:=
 if op=1 then[109,97,107,101]else if op=2 then[99,111,112,121]else if op=3 then[109,105,110,116]else if op=4 then[109,111,118,101]else if op=5 then[100,101,108,101,116,101]
 else if op=6 then[114,101,118,111,107,101]else if op=7 then[115,101,110,100]else if op=8 then[114,101,99,118]else if op=9 then[114,105,110,103]else if op=10 then[112,111,108,108]
 else if op=11 then[119,114,105,116,101]else if op=12 then[114,101,97,100]else if op=13 then[116,101,108,108]else[]
def CB(op:Int):List UInt8:=
 if op=1 then[65,66,88,89]else if op=2 then[65,66,88]else if op=3 then[65,66,88,89]else if op=4 then[65,66]else if op=5 then[65]
 else if op=6 then[65]else if op=7 then[65,98,87]else if op=8 then[65,98]else if op=9 then[65]else if op=10 then[65]
 else if op=11 then[65,88,87]else if op=12 then[65,88]else if op=13 then[65]else[]
theorem Js(op:Int):(op=1\/op=2\/op=3\/op=4\/op=5\/op=6\/op=7\/op=8\/op=9\/op=10\/op=11\/op=12\/op=13)\/(op<1\/13<op):=by omega
theorem IJ{op:Int}(h:op<1\/13<op):Ur op=[]/\CB op=[]:=by
 unfold Ur CB
 repeat (first|rw[if_neg (by omega)])
 exact⟨rfl,rfl⟩
def C0(c:Call):Bool:=
 bif decide (c.op=1)then Bv c.x 1 5&&Bv c.y 0 4096
 else bif decide (c.op=2)then C2 c.x&&decide (c.y=0)
 else bif decide (c.op=3)then C2 c.x&&Bv c.y 1 65535
 else bif decide (c.op=11)||decide (c.op=12)then Bv c.x 0 3&&decide (c.y=0)
 else decide (c.x=0)&&decide (c.y=0)
def AT(c:Call):Bool:=
 !decide (CB c.op=[])&&(BJ c.a&&(((decide ((c.b.length:Int)=0)&&!(CB c.op).contains 66)||(BJ c.b&&((CB c.op).contains 66||(CB c.op).contains 98)))&&(C0 c&&(decide (c.w=0)||(CB c.op).contains 87))))
def CL(t:AN)(n:Int):Int:=bif decide (p2 t.bits<=n)then-1 else t.base+n
def CV(s:State)(i:Int):Bool:=decide ((s.slot i.toNat).cap.ty=2)&&Bd 1 (s.slot i.toNat).cap.ri
def DU(s:State):List Int->Int->Int×Int
 |[],i=>(i,0)
 |n::r,i=>bif CV s i&&!decide (CL (s.AG (s.slot i.toNat).cap.th.toNat) n<0)then DU s r (CL (s.AG (s.slot i.toNat).cap.th.toNat) n)else(0,3)
def Hq(s:State)(th:Int):List Int->Int×Int
 |[]=>(0,0)
 |n::r=>bif !decide (CL (s.AG (2+th).toNat) n<0)then DU s r (CL (s.AG (2+th).toNat) n)else(0,3)
def A7(s:State)(th:Int)(p:List Int):Int×Int:=bif BN s&&(Bv th 0 (s.AS.AI-1)&&BJ p)then Hq s th p else(0,1)
def AO(s:State)(th:Int)(p:List Int):Int×Bh×Int:=
 bif !decide ((A7 s th p).2=0)then(0,.zero,(A7 s th p).2)else bif Aq (s.slot (A7 s th p).1.toNat).cap then(0,.zero,4)else((A7 s th p).1,(s.slot (A7 s th p).1.toNat).cap,0)
def Ak(s:State)(th:Int)(p:List Int):Int×Int:=
 bif !decide ((A7 s th p).2=0)then(0,(A7 s th p).2)else bif !Aq (s.slot (A7 s th p).1.toNat).cap then(0,5)else((A7 s th p).1,0)
theorem ZQ{b:Int}{had h:List Bool}{i j:Nat}(e:marks b had i=some h)(hj:j<i):b+j<had.length:=by
 induction i generalizing h with
 |zero=>omega
 |succ i ih=>
  rw[GA]at e
  cases e1:marks b had i with
  |none=>rw[e1]at e;cases e
  |some h1=>
   rw[e1]at e
   by_cases hji:j=i
   ·subst hji
    simp only[FN]at e
    cases hc:(decide (b+j<h1.length)&&!h1.getD (b+j).toNat false)with
    |false=>rw[hc]at e;cases e
    |true=>simp at hc;rw[<-OC e1];exact hc.1
   ·exact ih e1 (by omega)
theorem UB{s:State}{k:Nat}{h:List Bool}(e:Cs s k=some h):h.length=s.AE.length:=by
 induction k generalizing h with
 |zero=>simp[Cs]at e;rw[<-e];simp
 |succ k ih=>
  rw[EL]at e
  cases e1:Cs s k with
  |none=>rw[e1]at e;simp only[C8]at e;rw[IK]at e;cases hd:decide ((s.AG k).ty=2)<;>rw[hd]at e<;>cases e
  |some h1=>
   rw[e1]at e
   simp only[C8]at e
   cases hd:decide ((s.AG k).ty=2)with
   |false=>rw[hd]at e;simp at e;rw[<-e];exact ih e1
   |true=>rw[hd]at e;simp only[cond_true]at e;exact(OC e).trans (ih e1)
theorem ZV{s:State}(hn:Iz s=true){k:Nat}(hk:k<s.AB.length)(h2:(s.AG k).ty=2)(hg:BB (s.AG k)=true):(s.AG k).base+p2 (s.AG k).bits<=s.AE.length:=by
 have hb:=(CO hg h2).1
 have hp:=C4 hb
 cases e:Cs s (k+1)with
 |none=>
  have:=MN e (n:=s.AB.length) hk
  simp only[Iz,this]at hn
  cases hn
 |some h=>
  rw[EL]at e
  cases e1:Cs s k with
  |none=>rw[e1]at e;simp only[C8]at e;rw[IK]at e;cases hd:decide ((s.AG k).ty=2)<;>rw[hd]at e<;>cases e
  |some h1=>
   rw[e1]at e
   simp only[C8,h2,decide_true,cond_true]at e
   have:=ZQ (b:=(s.AG k).base) (had:=h1) (i:=(p2 (s.AG k).bits).toNat) (j:=(p2 (s.AG k).bits).toNat-1) e (by omega)
   rw[UB e1]at this
   omega
theorem EZ{s:State}(h:Ft s){th:Int}(h0:0<=th)(h1:th<=s.AS.AI-1):(2+th).toNat<s.AB.length/\(s.AG (2+th).toNat).ty=2:=by
 have hg:=Hb h.AS
 have hl:=h.AB
 have hk:(2+th).toNat<s.AB.length:=by omega
 refine⟨hk,?_⟩
 have:=Qd.1 (show(Qh s.AB.length).all (DE s)=true by have:=h.Nn;simpa [F5] using this) _ (Qi.2 hk)
 have hr:Bc s (2+th).toNat=true:=by simp[Bc];omega
 simp only[DE,hr,cond_true,Qc,Er]at this
 rw[this.2.2];rfl
theorem N6{s:State}(h:Ft s){k:Nat}(hk:k<s.AE.length)(hn:Aq (s.slot k).cap=false):BD s (s.slot k).cap.th=true/\(s.AG (s.slot k).cap.th.toNat).ty=(s.slot k).cap.ty:=by
 have:=Qd.1 (show s.AE.all (Ic s)=true by have:=h.Kj;simpa [Lb] using this) _ (Ld hk)
 simp[Ic,hn]at this
 exact this.2.2
theorem Uq{c:Bh}(h:c.ty≠0):Aq c=false:=by simp[Aq,h]
theorem FW{s:State}(h:Ft s){k:Nat}(hk:k<s.AB.length)(h2:(s.AG k).ty=2){n:Int}(hn:0<=n):CL (s.AG k) n<0\/(0<=CL (s.AG k) n/\CL (s.AG k) n<s.AE.length):=by
 have hg:=h.ok k hk
 have:=ZV h.nodes hk h2 hg
 have hb:=CO hg h2
 unfold CL
 cases hd:decide (p2 (s.AG k).bits<=n)with
 |true=>left;simp
 |false=>right;simp at hd;simp;omega
theorem GN{p:List Int}(h:BJ p=true){k:Nat}(hk:k<p.length):0<=p.getD k 0/\p.getD k 0<=15:=by
 simp[BJ]at h
 have:=h.2.2 (p[k]) (List.getElem_mem hk)
 simpa [Ql,hk] using this
theorem G7{p:List Int}(h:BJ p=true):1<=p.length/\p.length<=3:=by
 simp[BJ]at h;omega
theorem Gw{s:State}(h:Ft s){i:Int}(h0:0<=i)(h1:i<s.AE.length)(hb:CV s i=true):(s.slot i.toNat).cap.th.toNat<s.AB.length/\(s.AG (s.slot i.toNat).cap.th.toNat).ty=2:=by
 simp[CV]at hb
 obtain⟨a,b⟩:=N6 h (k:=i.toNat) (by omega) (Uq (by omega))
 simp[BD]at a
 exact⟨by omega,by omega⟩
theorem OH{s:State}(h:Ft s){k:Nat}(hk:k<s.AB.length)(h2:(s.AG k).ty=2):Bv (s.AG k).bits 1 4=true/\0<=(s.AG k).base/\(s.AG k).base<=96:=by
 have hg:=CO (h.ok k hk) h2
 have:=C4 hg.1
 exact⟨hg.1,hg.2.1,by omega⟩
theorem U0{s:State}(h:Ft s):∀(p:List Int) (i:Int),(∀n∈p,0<=n)->0<=i->i<s.AE.length->(DU s p i).2=0->0<=(DU s p i).1/\(DU s p i).1<s.AE.length
 |[],i,_,h0,h1,_=>⟨h0,h1⟩
 |n::r,i,hp,h0,h1,he=>by
  rw[DU]at he ⊢
  cases hc:(CV s i&&!decide (CL (s.AG (s.slot i.toNat).cap.th.toNat) n<0))with
  |false=>rw[hc]at he;simp at he
  |true=>
   rw[hc]at he
   simp only[cond_true]at he ⊢
   simp only[Qc,Qg,decide_eq_false_iff_not]at hc
   obtain⟨q1,q2⟩:=Gw h h0 h1 hc.1
   have:=(FW h q1 q2 (n:=n) (hp n Qf)).resolve_left hc.2
   exact U0 h r _ (λm hm=>hp m (Qe _ hm)) this.1 this.2 he
theorem C7{s:State}{th:Int}{p:List Int}(he:(A7 s th p).2=0):Ft s/\Bv th 0 (s.AS.AI-1)=true/\BJ p=true/\0<=(A7 s th p).1/\(A7 s th p).1<s.AE.length:=by
 unfold A7 at he ⊢
 cases hc:(BN s&&(Bv th 0 (s.AS.AI-1)&&BJ p))with
 |false=>rw[hc]at he;simp at he
 |true=>
  rw[hc]at he
  simp only[cond_true]at he ⊢
  simp only[Qc]at hc
  obtain⟨c1,c2,c3⟩:=hc
  have ok:=F7 c1
  refine⟨ok,c2,c3,?_⟩
  have hpn:∀n∈p,0<=n:=by
   intro n hn
   obtain⟨k,hk,rfl⟩:=List.mem_iff_getElem.1 hn
   have:=(GN c3 hk).1
   simpa [Ql,hk] using this
  cases p with
  |nil=>simp[BJ]at c3
  |cons n r=>
   simp only[Hq]at he ⊢
   rw[BX]at c2
   obtain⟨q1,q2⟩:=EZ ok c2.1 c2.2
   cases hd:decide (CL (s.AG (2+th).toNat) n<0)with
   |true=>rw[hd]at he;simp at he
   |false=>
    rw[hd]at he
    simp only[Bool.not_false,cond_true]at he ⊢
    simp only[decide_eq_false_iff_not]at hd
    have:=(FW ok q1 q2 (n:=n) (hpn n Qf)).resolve_left hd
    exact U0 ok r _ (λm hm=>hpn m (Qe _ hm)) this.1 this.2 he
attribute [irreducible] BJ Ur CB C0 AT CL CV A7 AO Ak
theorem Gc.Cd{H L:AP}{K:AH->AP->Prop}{v:AH}(hv:v.refs λo=>o<H.length)(h:K v H):Gc H K v (H++L):=by
 refine⟨[],L,[],v,rfl,⟨rfl,by simp,fun{i j} h=>by simp at h⟩,Kr.refl ?_,by simpa using h⟩
 exact OP (λo ho=> .inl ⟨rfl,ho⟩) hv
theorem Gc.stateT{H L:AP}{K:AH->AP->Prop}{i j:Nat}{s:State}{f f':Bool}{l:List AH}(hi:L[i]?=some (AM s))(hj:L[j]?=some (AJ s))(hij:i≠j)(hl:∀a∈l,a.plain=true)
 (h:K (.Bj (BT s H.length (H.length+1) f f'::l)) (H++[AM s,AJ s])):Gc H K (.Bj (BT s (H.length+i) (H.length+j) f f'::l)) (H++L):=by
 refine⟨[i,j],L,[AM s,AJ s],_,rfl,Tf.two hi hj hij (.plain JQ) (.plain IH),?_,h⟩
 refine⟨_,rfl,_,_,rfl,?_,CY.refl (EF hl)⟩
 exact⟨_,rfl,_,_,rfl,rfl,_,_,rfl,rfl,_,_,rfl,rfl,_,_,rfl,⟨H.length,rfl,.inr ⟨i,0,rfl,rfl,rfl⟩⟩,_,_,rfl,⟨H.length+1,rfl,.inr ⟨j,1,rfl,rfl,rfl⟩⟩,rfl⟩
theorem Jx{l:List Slot}{k:Nat}{x:Slot}:(l.map Slot.cells).set k x.cells=(l.set k x).map Slot.cells:=by rw[Qk]
theorem DQ{l:List AN}{k:Nat}{x:AN}:(l.map AN.cells).set k x.cells=(l.set k x).map AN.cells:=by rw[Qk]
@[go_sem] theorem nr {n:Nat}:n+1+1=n+2:=rfl
@[go_sem] theorem ns {n:Nat}:n+2+1=n+3:=rfl
@[go_sem] theorem nu {n:Nat}:n+3+1=n+4:=rfl
@[go_sem] theorem nv {n:Nat}:n+4+1=n+5:=rfl
@[go_sem] theorem nw {n:Nat}:n+5+1=n+6:=rfl
@[go_sem] theorem ny {n:Nat}:n+6+1=n+7:=rfl
@[go_sem] theorem nz {n:Nat}:n+7+1=n+8:=rfl
section
variable {H L:AP}{a0 a1 a2 a3 a4 a5 a6 a7 a8 a9 a10 a11 a12 a13 a14 a15 a16 x:Au}
@[go_sem] theorem BY:(H++a0::a1::a2::a3::a4::a5::a6::L)[H.length+6]?=some a6:=by rw[Qa (by omega)];simp
@[go_sem] theorem o4:(H++a0::a1::a2::a3::a4::a5::a6::L).set (H.length+6) x=H++a0::a1::a2::a3::a4::a5::x::L:=by rw[Qb _ _ (by omega)];simp
@[go_sem] theorem BZ:(H++a0::a1::a2::a3::a4::a5::a6::a7::L)[H.length+7]?=some a7:=by rw[Qa (by omega)];simp
@[go_sem] theorem o6:(H++a0::a1::a2::a3::a4::a5::a6::a7::L).set (H.length+7) x=H++a0::a1::a2::a3::a4::a5::a6::x::L:=by rw[Qb _ _ (by omega)];simp
@[go_sem] theorem BW:(H++a0::a1::a2::a3::a4::a5::a6::a7::a8::L)[H.length+8]?=some a8:=by rw[Qa (by omega)];simp
@[go_sem] theorem o7:(H++a0::a1::a2::a3::a4::a5::a6::a7::a8::L).set (H.length+8) x=H++a0::a1::a2::a3::a4::a5::a6::a7::x::L:=by rw[Qb _ _ (by omega)];simp
@[go_sem] theorem Ba:(H++a0::a1::a2::a3::a4::a5::a6::a7::a8::a9::L)[H.length+9]?=some a9:=by rw[Qa (by omega)];simp
@[go_sem] theorem o8:(H++a0::a1::a2::a3::a4::a5::a6::a7::a8::a9::L).set (H.length+9) x=H++a0::a1::a2::a3::a4::a5::a6::a7::a8::x::L:=by rw[Qb _ _ (by omega)];simp
@[go_sem] theorem Ai:(H++a0::a1::a2::a3::a4::a5::a6::a7::a8::a9::a10::L)[H.length+10]?=some a10:=by rw[Qa (by omega)];simp
@[go_sem] theorem oD:(H++a0::a1::a2::a3::a4::a5::a6::a7::a8::a9::a10::L).set (H.length+10) x=H++a0::a1::a2::a3::a4::a5::a6::a7::a8::a9::x::L:=by rw[Qb _ _ (by omega)];simp
@[go_sem] theorem Ac:(H++a0::a1::a2::a3::a4::a5::a6::a7::a8::a9::a10::a11::L)[H.length+11]?=some a11:=by rw[Qa (by omega)];simp
@[go_sem] theorem oE:(H++a0::a1::a2::a3::a4::a5::a6::a7::a8::a9::a10::a11::L).set (H.length+11) x=H++a0::a1::a2::a3::a4::a5::a6::a7::a8::a9::a10::x::L:=by rw[Qb _ _ (by omega)];simp
@[go_sem] theorem Ad:(H++a0::a1::a2::a3::a4::a5::a6::a7::a8::a9::a10::a11::a12::L)[H.length+12]?=some a12:=by rw[Qa (by omega)];simp
@[go_sem] theorem oF:(H++a0::a1::a2::a3::a4::a5::a6::a7::a8::a9::a10::a11::a12::L).set (H.length+12) x=H++a0::a1::a2::a3::a4::a5::a6::a7::a8::a9::a10::a11::x::L:=by rw[Qb _ _ (by omega)];simp
@[go_sem] theorem Ae:(H++a0::a1::a2::a3::a4::a5::a6::a7::a8::a9::a10::a11::a12::a13::L)[H.length+13]?=some a13:=by rw[Qa (by omega)];simp
@[go_sem] theorem oG:(H++a0::a1::a2::a3::a4::a5::a6::a7::a8::a9::a10::a11::a12::a13::L).set (H.length+13) x=H++a0::a1::a2::a3::a4::a5::a6::a7::a8::a9::a10::a11::a12::x::L:=by rw[Qb _ _ (by omega)];simp
@[go_sem] theorem Af:(H++a0::a1::a2::a3::a4::a5::a6::a7::a8::a9::a10::a11::a12::a13::a14::L)[H.length+14]?=some a14:=by rw[Qa (by omega)];simp
@[go_sem] theorem oH:(H++a0::a1::a2::a3::a4::a5::a6::a7::a8::a9::a10::a11::a12::a13::a14::L).set (H.length+14) x=H++a0::a1::a2::a3::a4::a5::a6::a7::a8::a9::a10::a11::a12::a13::x::L:=by rw[Qb _ _ (by omega)];simp
@[go_sem] theorem Ag:(H++a0::a1::a2::a3::a4::a5::a6::a7::a8::a9::a10::a11::a12::a13::a14::a15::L)[H.length+15]?=some a15:=by rw[Qa (by omega)];simp
@[go_sem] theorem oI:(H++a0::a1::a2::a3::a4::a5::a6::a7::a8::a9::a10::a11::a12::a13::a14::a15::L).set (H.length+15) x=H++a0::a1::a2::a3::a4::a5::a6::a7::a8::a9::a10::a11::a12::a13::a14::x::L:=by rw[Qb _ _ (by omega)];simp
@[go_sem] theorem Aj:(H++a0::a1::a2::a3::a4::a5::a6::a7::a8::a9::a10::a11::a12::a13::a14::a15::a16::L)[H.length+16]?=some a16:=by rw[Qa (by omega)];simp
@[go_sem] theorem oJ:(H++a0::a1::a2::a3::a4::a5::a6::a7::a8::a9::a10::a11::a12::a13::a14::a15::a16::L).set (H.length+16) x=H++a0::a1::a2::a3::a4::a5::a6::a7::a8::a9::a10::a11::a12::a13::a14::a15::x::L:=by rw[Qb _ _ (by omega)];simp
end
theorem Am{H:AP}{o:Nat}{x:Au}(h:H[o]?=some x):o<H.length:=(List.getElem?_eq_some_iff.1 h).1
def FC(s:State)(c:Bh)(to:Int):Bool:=decide (c.ty=2)&&Et s c.th to
def Dj(s:State)(fr to:Int)(c:Bh):Int:=
 bif !BN s then 1
 else bif decide (fr<0)||(decide ((s.AE.length:Int)<=fr)||(decide (to<0)||(decide ((s.AE.length:Int)<=to)||(!Bq c||Aq c))))then 1
 else bif decide (FD s to<0)then 1
 else bif Aq (s.slot fr.toNat).cap then 4
 else bif !Aq (s.slot to.toNat).cap then 5
 else bif decide ((s.slot fr.toNat).cap.ty=1)then 7
 else bif !Dw c (s.slot fr.toNat).cap then 1
 else bif FC s c to then 1
 else 0
def CW(s:State)(fr to:Int)(c:Bh):State:={s with AE:=s.AE.set to.toNat ⟨c,fr⟩}
structure CD where
 err:Int
 w:Int
 n:Int
 st:Option State
def CD.bad(e:Int):CD:=⟨e,0,0,none⟩
def CD.Ap(r:CD):AH:= .agg [nS r.err,nT r.w,nS r.n]
theorem CA{s:State}{th:Int}{p:List Int}(h:(AO s th p).2.2=0):0<=(AO s th p).1/\(AO s th p).1<s.AE.length/\Ft s/\(AO s th p).2.1=(s.slot (AO s th p).1.toNat).cap/\Aq (AO s th p).2.1=false:=by
 unfold AO at h ⊢
 cases h1:decide ((A7 s th p).2=0)with
 |false=>rw[h1]at h;simp at h h1;exact absurd h h1
 |true=>
  rw[h1]at h
  simp only[Bool.not_true,cond_false]at h ⊢
  cases h2:Aq (s.slot (A7 s th p).1.toNat).cap with
  |true=>rw[h2]at h;simp at h
  |false=>
   simp only[cond_false]
   have:=C7 (of_decide_eq_true h1)
   exact⟨this.2.2.2.1,this.2.2.2.2,this.1,trivial,h2⟩
def Fo(fr ba w:Int):AN:=⟨3,0,0,0,0,fr,ba,true,w,0,0,0,0⟩
def boxed(s:State)(th:Int)(t:AN):State:={s with AB:=s.AB.set th.toNat t}
def Cu(s:State)(c:Call)(box:Bh)(fr:Int):CD:=
 bif (s.AG box.th.toNat).full then .bad 13 else⟨0,0,0,some (boxed s box.th (Fo fr box.ba c.w))⟩
def Cj(s:State)(th:Int)(c:Call)(box:Bh):CD:=
 bif decide (0<(c.b.length:Int))then
  bif !Bd 4 box.ri then .bad 6
  else bif !decide ((AO s th c.b).2.2=0)then .bad (AO s th c.b).2.2
  else bif decide ((AO s th c.b).2.1.ty=1)then .bad 7
  else Cu s c box ((AO s th c.b).1+1)
 else Cu s c box 0
theorem Lx{s:State}(h:Ft s){k:Nat}(hk:k<s.AB.length)(h0:0<(s.AG k).from_):(s.AG k).from_<=s.AE.length/\Aq (s.slot ((s.AG k).from_-1).toNat).cap=false:=by
 have:=Qd.1 (show(Qh s.AB.length).all (DE s)=true by have:=h.Nn;simpa [F5] using this) _ (Qi.2 hk)
 simp only[DE,Qc,Hs,Bool.or_eq_true,Qg,decide_eq_false_iff_not]at this
 rcases this.2.1 with h1|⟨h1,h2⟩
 ·exact absurd h0 h1
 ·exact⟨by omega,h2⟩
theorem Cx{s:State}{th:Int}{p:List Int}(h:(AO s th p).2.2=0):BD s (AO s th p).2.1.th=true:=by
 obtain⟨h0,h1,ok,e,hn⟩:=CA h
 rw[e]at hn ⊢
 exact(N6 ok (by omega) hn).1
def GK:AN:=⟨3,0,0,0,0,0,0,false,0,0,0,0,0⟩
def GB(s s':State)(box:Bh):CD:=⟨0,(s.AG box.th.toNat).word,(s.AG box.th.toNat).BF,some (boxed s' box.th GK)⟩
def CI(s:State)(th:Int)(c:Call)(box:Bh):CD:=
 let t:=s.AG box.th.toNat
 bif !t.full then .bad 14
 else bif decide (0<(c.b.length:Int))&&decide (0<t.from_)then
  bif !decide ((Ak s th c.b).2=0)then .bad (Ak s th c.b).2
  else bif !decide (Dj s (t.from_-1) (Ak s th c.b).1 (s.slot (t.from_-1).toNat).cap=0)then .bad (Dj s (t.from_-1) (Ak s th c.b).1 (s.slot (t.from_-1).toNat).cap)
  else GB s (CW s (t.from_-1) (Ak s th c.b).1 (s.slot (t.from_-1).toNat).cap) box
 else GB s s box
def BC(s:State)(th:Int)(c:Call):CD:=
 bif !AT c||(!decide (c.op=7)&&!decide (c.op=8))then .bad 1
 else bif !decide ((AO s th c.a).2.2=0)then .bad (AO s th c.a).2.2
 else bif !decide ((AO s th c.a).2.1.ty=3)then .bad 7
 else bif !Bd (bif decide (c.op=8)then 1 else 2) (AO s th c.a).2.1.ri then .bad 6
 else bif decide (c.op=7)then Cj s th c (AO s th c.a).2.1
 else CI s th c (AO s th c.a).2.1
attribute [irreducible] FC Dj Cu Cj CI BC
def Oz:Slot:=⟨.zero,-1⟩
def S0:State:=⟨⟨2,32,16⟩,[⟨⟨1,0,7,0⟩,-1⟩,⟨⟨3,1,7,0⟩,-1⟩,Oz,Oz,Oz,Oz,Oz,Oz,Oz,⟨⟨3,1,7,0⟩,1⟩]++Qj 22 Oz,
 [⟨1,0,0,64,0,0,0,false,0,0,0,0,0⟩,⟨3,0,0,0,0,0,0,false,0,0,0,0,0⟩,⟨2,3,0,0,0,0,0,false,0,0,0,0,0⟩,⟨2,3,8,0,0,0,0,false,0,0,0,0,0⟩]++Qj 12 .zero⟩
@[go_sem low] theorem oV {H L:AP} {n:Nat}:(H++L)[H.length+n]?=L[n]?:=by rw[Qa (by omega)];simp
@[go_sem low] theorem o9 {H L:AP} {n:Nat} {x:Au}:(H++L).set (H.length+n) x=H++L.set n x:=by rw[Qb _ _ (by omega)];simp
theorem Bb{H L:AP}{n:Nat}{x:Au}(h:L[n]?=some x):(H++L)[H.length+n]?=some x:=oV.trans h
def Sj(a b:Bh):Bool:=decide (a.ty=b.ty)&&(decide (a.th=b.th)&&(decide (a.ri=b.ri)&&decide (a.ba=b.ba)))
theorem Yv{a b:Bh}:Sj a b=true↔a=b:=by cases a;cases b;simp[Sj]
@[go_sem high] theorem gP {x0 x1 x2 x3 y0 y1 y2 y3:Int}:Bp [0,0,0,0] [nS x0,nS x1,nS x2,nS x3] [nS y0,nS y1,nS y2,nS y3]=some (Sj ⟨x0,x1,x2,x3⟩ ⟨y0,y1,y2,y3⟩):=by
 simp[Bp,Ho,Sj]
@[go_sem] theorem fF {a:Bh}:Sj a a=true:=Yv.2 rfl
attribute [irreducible] Sj
theorem UP{s:State}{u:Int}(h0:0<=u)(h1:u<s.AE.length):(u<0)=False/\((s.AE.length:Int)<=u)=False/\(0<=u)=True/\(u<(s.AE.length:Int))=True/\
 (s.AE.map Slot.cells)[u.toNat]?=some [nS (s.slot u.toNat).cap.ty,nS (s.slot u.toNat).cap.th,nS (s.slot u.toNat).cap.ri,nS (s.slot u.toNat).cap.ba,nS (s.slot u.toNat).up]:=
 ⟨eq_false (by omega),eq_false (by omega),eq_true h0,eq_true h1,A4 (by omega)⟩
def GU(up:List Int)(i:Int):Bool:=Cm up&&E0 up i
def GV(up:List Int)(i:Int):List Int:=pick (λk=>decide (up.getD k 0=i)) up.length
def Jk(up:List Int)(i:Int):List Int:=bif GU up i then GV up i else[]
def MJ(up:List Int)(fr to:Int):List Int:=
 (((GV up fr).foldl (λl k=>l.set k.toNat to) up).set to.toNat (((GV up fr).foldl (λl k=>l.set k.toNat to) up).getD fr.toNat 0)).set fr.toNat (-2)
def P2(up:List Int)(fr to:Int):Bool:=GU up fr&&(decide (0<=to)&&(decide (to<up.length)&&!E0 up to))
def EK(s:State)(fr to:Int)(k:Nat):Slot:=
 ⟨if(k:Int)=fr then .zero else if(k:Int)=to then(s.slot fr.toNat).cap else(s.slot k).cap,max ((MJ (As s) fr to).getD k 0) (-1)⟩
def C3(fr to:Int)(t:AN):AN:=bif decide (t.from_=fr+1)then{t with from_:=to+1}else t
def B9(s:State)(fr to:Int):State:={s with AE:=(Qh s.AE.length).map (EK s fr to),AB:=s.AB.map (C3 fr to)}
def Bo(s:State)(c:Call)(fr:Int)(x:Bh)(to:Int):CD:=
 bif !decide (c.op=4)then(bif decide (Dj s fr to x=0)then⟨0,0,0,some (CW s fr to x)⟩else .bad (Dj s fr to x))
 else bif FC s x to then .bad 1 else⟨0,0,0,some (B9 s fr to)⟩
def B4(c:Call)(x:Bh):Bh:=bif !decide (c.op=4)then ES x c.x else x
def A5(s:State)(th:Int)(c:Call):CD:=
 bif !AT c||(!decide (c.op=2)&&(!decide (c.op=3)&&!decide (c.op=4)))then .bad 1
 else bif !decide ((AO s th c.a).2.2=0)then .bad (AO s th c.a).2.2
 else bif decide (c.op=3)&&!decide ((CK (B4 c (AO s th c.a).2.1) c.y).2=0)then .bad (CK (B4 c (AO s th c.a).2.1) c.y).2
 else bif !decide ((Ak s th c.b).2=0)then .bad (Ak s th c.b).2
 else Bo s c (AO s th c.a).1 (bif decide (c.op=3)then(CK (B4 c (AO s th c.a).2.1) c.y).1 else B4 c (AO s th c.a).2.1) (Ak s th c.b).1
def Df(s:State)(i:Int):Int:=
 bif !BN s||(decide (i<0)||(decide ((s.AE.length:Int)<=i)||!decide ((s.slot i.toNat).cap.ty=1)))then 0
 else bif decide (((Jk (As s) i).length:Int)=0)then 0 else(s.AG (s.slot i.toNat).cap.th.toNat).used
def Bs(c:Call)(s:State):Int×Bool:=bif decide (c.x=2)then F3 s c.y else(0,true)
def Fq(s:State)(c:Call)(fr to used n base:Int)(room:Bh):State:=
 {s with
  AE:=s.AE.set to.toNat ⟨⟨c.x,n,7,0⟩,fr⟩,
  AB:=(s.AB.set n.toNat (HH c.x c.y base).1).set room.th.toNat {((s.AB.set n.toNat (HH c.x c.y base).1).getD room.th.toNat .zero)with used:=used}}
def Dc(s:State)(c:Call)(fr to:Int)(room:Bh):CD:=
 bif decide ((s.AG room.th.toNat).size<Df s fr+(CE c.x c.y).1)||(!(Bs c s).2||decide (CU s<0))then .bad 8
 else⟨0,0,CU s,some (Fq s c fr to (Df s fr+(CE c.x c.y).1) (CU s) (Bs c s).1 room)⟩
def Be(s:State)(th:Int)(c:Call):CD:=
 bif !AT c||!decide (c.op=1)then .bad 1
 else bif !decide ((AO s th c.a).2.2=0)then .bad (AO s th c.a).2.2
 else bif !decide ((AO s th c.a).2.1.ty=1)then .bad 7
 else bif !Bd 2 (AO s th c.a).2.1.ri then .bad 6
 else bif !decide ((Ak s th c.b).2=0)then .bad (Ak s th c.b).2
 else bif !(CE c.x c.y).2 then .bad 1
 else Dc s c (AO s th c.a).1 (Ak s th c.b).1 (AO s th c.a).2.1
def Ud(a b:Int):Int:=IntKind.wrap .u64 ((BitVec.ofInt (IntKind.bits .u64) a|||BitVec.ofInt (IntKind.bits .u64) b).toNat)
def BG(s:State)(th:Int)(c:Call):CD:=
 bif !AT c||(!decide (c.op=9)&&!decide (c.op=10))then .bad 1
 else bif !decide ((AO s th c.a).2.2=0)then .bad (AO s th c.a).2.2
 else bif !decide ((AO s th c.a).2.1.ty=4)then .bad 7
 else bif !Bd (bif decide (c.op=10)then 1 else 2) (AO s th c.a).2.1.ri then .bad 6
 else bif decide (c.op=10)&&decide ((s.AG (AO s th c.a).2.1.th.toNat).word=0)then .bad 14
 else bif decide (c.op=10)then⟨0,(s.AG (AO s th c.a).2.1.th.toNat).word,0,some (boxed s (AO s th c.a).2.1.th {s.AG (AO s th c.a).2.1.th.toNat with word:=0})⟩
 else⟨0,0,0,some (boxed s (AO s th c.a).2.1.th {s.AG (AO s th c.a).2.1.th.toNat with word:=Ud (s.AG (AO s th c.a).2.1.th.toNat).word (p2 ((AO s th c.a).2.1.ba.tmod 64))})⟩
def DK(up:List Int)(i:Int):Int:=bif GU up i then(stepsD up (up.length+1) (up.getD i.toNat 0):Nat)else-1
where
 /-- How many steps to a root. -/
 stepsD (up:List Int):Nat->Int->Nat
  |0,_=>0
  |n+1,i=>if i=-1 then 0 else stepsD up n (up.getD i.toNat 0)+1
def Hv(c:Bh):Int:=bif Bq c then c.ty+c.ri* 256+c.ba* 65536+c.th* 4294967296 else 0
def Lg(t:AN)(i:Int):Int:=bif decide (i=0)then t.d0 else bif decide (i=1)then t.d1 else bif decide (i=2)then t.d2 else t.d3
def My(t:AN)(i v:Int):AN:=bif decide (i=0)then{t with d0:=v}else bif decide (i=1)then{t with d1:=v}else bif decide (i=2)then{t with d2:=v}else{t with d3:=v}
def Bg(s:State)(th:Int)(c:Call):CD:=
 bif !AT c||(!decide (c.op=11)&&(!decide (c.op=12)&&!decide (c.op=13)))then .bad 1
 else bif !decide ((AO s th c.a).2.2=0)then .bad (AO s th c.a).2.2
 else bif decide (c.op=13)then⟨0,Hv (AO s th c.a).2.1,DK (As s) (AO s th c.a).1,none⟩
 else bif !decide ((AO s th c.a).2.1.ty=5)then .bad 7
 else bif !Bd (bif decide (c.op=12)then 1 else 2) (AO s th c.a).2.1.ri then .bad 6
 else bif decide (c.op=12)then⟨0,Lg (s.AG (AO s th c.a).2.1.th.toNat) c.x,0,none⟩
 else⟨0,0,0,some (boxed s (AO s th c.a).2.1.th (My (s.AG (AO s th c.a).2.1.th.toNat) c.x c.w))⟩
attribute [irreducible] GU GV Jk MJ P2 EK C3 Bo B4 A5 Df Bs Dc Be Ud BG DK Hv Lg My Bg
end Go.Ax.M

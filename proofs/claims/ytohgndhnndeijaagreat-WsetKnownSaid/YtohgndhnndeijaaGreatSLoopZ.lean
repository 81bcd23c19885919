/- Loops in walks. Conditions: none. -/
import Derived.Test.YtohgndhnndeijaaGreatAxLayZ
set_option linter.all false
open List renaming range -> Qa, getElem?_eq_some_iff -> Qb, length_set -> Qc, set_append_left -> Qd, getElem?_append_left -> Qe, getElem?_set_self -> Qf, range_succ -> Qg, all_eq_false -> Qh, append_assoc -> Qi, all_eq_true -> Qj, all_append -> Qk, mem_range -> Ql, getD -> Qm, mem_map -> Qn
namespace Go.Ax
open Go
theorem AK.Az{P:Program}{n0:Nat}{c:AD}{Q:Exit->St->Prop}{n:Nat}{l:List (Nat×AH)}{H:AP}(ts:List Nat)(h:AK P n0 c Q ⟨OF n (ts.map λt=>(t,Fs l t)),H⟩):AK P n0 c Q ⟨OF n l,H⟩:=
 AK.to (λp hp=>by
  obtain⟨t,-,rfl⟩:=Qn.1 hp
  exact .inl rfl) h
theorem AK.ind{P:Program}{n0:Nat}{c:AD}{Q:Exit->St->Prop}{α:Sort _}(st:Nat->α->St)(Inv:Nat->α->Prop)(N:Nat)
 (step:∀k a,k<=N->Inv k a->(∀a',k<N->Inv (k+1) a'->AK P n0 c Q (st (k+1) a'))->AK P n0 c Q (st k a)):∀k a,k<=N->Inv k a->AK P n0 c Q (st k a):=by
 have:∀m k a,N-k=m->k<=N->Inv k a->AK P n0 c Q (st k a):=by
  intro m
  induction m with
  |zero=>exact λk a e hk hI=>step k a hk hI λa' hlt _=>by omega
  |succ m ih=>exact λk a e hk hI=>step k a hk hI λa' hlt hI'=>ih (k+1) a' (by omega) (by omega) hI'
 exact λk a=>this _ k a rfl
theorem AK.aB{P:Program}{n0:Nat}{c:AD}{Q:Exit->St->Prop}{n d:Nat}{l:List (Nat×AH)}{H:AP}(Inv:Nat->Prop)(N:Nat)(h0:Inv 0)
 (step:∀k,k<=N->Inv k->(k<N->Inv (k+1)->AK P n0 c Q ⟨OF n ((d,nS ((k+1:Nat):Int))::l),H⟩)->AK P n0 c Q ⟨OF n ((d,nS (k:Int))::l),H⟩):AK P n0 c Q ⟨OF n ((d,nS 0)::l),H⟩:=
 AK.ind (α:=Unit) (λk _=>⟨OF n ((d,nS (k:Int))::l),H⟩) (λk _=>Inv k) N (λk _ hk hI nx=>step k hk hI λa b=>nx () a b) 0 () (Nat.zero_le _) h0
theorem AK.acc{P:Program}{n0:Nat}{c:AD}{Q:Exit->St->Prop}{α:Type}{n:Nat}{l:List (Nat×AH)}(v:Nat->α->List (Nat×AH))(hp:Nat->α->AP)(Inv:Nat->α->Prop)(N:Nat)
 (step:∀k a,k<=N->Inv k a->(∀a',k<N->Inv (k+1) a'->AK P n0 c Q ⟨OF n (v (k+1) a'++l),hp (k+1) a'⟩)->AK P n0 c Q ⟨OF n (v k a++l),hp k a⟩) {a0:α} (h0:Inv 0 a0):AK P n0 c Q ⟨OF n (v 0 a0++l),hp 0 a0⟩:=
 AK.ind (λk a=>⟨OF n (v k a++l),hp k a⟩) Inv N step 0 a0 (Nat.zero_le _) h0
def ints(l:List Int):List (List AH):=l.map λx=>[nS x]
@[go_sem] theorem LJ {l:List Int}:(ints l).length=l.length:=by simp[ints]
theorem Bt{l:List Int}{k:Nat}(h:k<l.length):(ints l)[k]?=some [nS (l.getD k 0)]:=by
 simp[ints,h,Qm]
theorem aM{α:Type}{l:List α}{p:α->Bool}{k:Nat}(hk:k<l.length):(l.take (k+1)).all p=((l.take k).all p&&p l[k]):=by
 rw[List.take_succ_eq_append_getElem hk,Qk];simp
theorem J6{α:Type}{l:List α}{p:α->Bool}{k:Nat}{d:α}(hk:k<l.length):(l.take (k+1)).all p=((l.take k).all p&&p (l.getD k d)):=by
 rw[aM hk];simp[Qm,hk]
theorem all_false{α:Type}{l:List α}{p:α->Bool}{k:Nat}{d:α}(hk:k<l.length)(h:p (l.getD k d)=false):l.all p=false:=by
 rw[Qh]
 refine⟨l[k],List.getElem_mem hk,?_⟩
 simp[Qm,hk]at h;simp[h]
theorem Da{N k:Nat}{p:Nat->Bool}:(Qa (k+1)).all p=((Qa k).all p&&p k):=by
 rw[Qg,Qk];simp
theorem Cv{N k:Nat}{p:Nat->Bool}(hk:k<N)(h:p k=false):(Qa N).all p=false:=by
 rw[Qh];exact⟨k,Ql.2 hk,by simp[h]⟩
theorem AY{k:Nat}(h:k<=1000000):IntKind.wrap .i64 ((k:Int)+1)=((k+1:Nat):Int):=by
 simp[IntKind.wrap,IntKind.bits,IntKind.signed];omega
theorem AR{a b:Nat}:((a:Int)<(b:Int))=(a<b):=by simp
theorem AX{a:Nat}:(0<=(a:Int))=True:=by simp
def Hid(p:Prop):Prop:=p
theorem NQ{α:Sort _}(a:α):∃x,Hid (x=a):=⟨a,rfl⟩
abbrev AL(W:AP)(o:Nat)(x:Au):Prop:=∀L,(W++L)[o]?=some x
theorem AL.of{W:AP}{o:Nat}{x:Au}(h:W[o]?=some x):AL W o x:=λL=>UD h
theorem AL.app{W:AP}{o:Nat}{x:Au}(h:AL W o x)(L:AP):AL (W++L) o x:=λL'=>by rw[Qi];exact h _
def Ex(H W:AP):Prop:=∃L,W=H++L
theorem Ex.mk{H:AP}(L:AP):Ex H (H++L):=⟨L,rfl⟩
theorem Ex.app{H W:AP}(h:Ex H W)(L:AP):Ex H (W++L):=by obtain⟨M,rfl⟩:=h;exact⟨M++L,Qi _ _ _⟩
theorem Ex.set{H W:AP}(h:Ex H W){o:Nat}(ho:H.length<=o)(x:Au):Ex H (W.set o x):=by obtain⟨L,rfl⟩:=h;exact⟨L.set (o-H.length) x,by rw[List.set_append_right _ _ ho]⟩
theorem Ex.trans{H W X:AP}(h:Ex H W)(g:Ex W X):Ex H X:=by obtain⟨L,rfl⟩:=g;exact h.app L
theorem AL.ex{H W:AP}{o:Nat}{x:Au}(h:AL H o x)(e:Ex H W):AL W o x:=by obtain⟨L,rfl⟩:=e;exact h.app L
theorem AL.at{W:AP}{o:Nat}{x:Au}(h:AL W o x):W[o]?=some x:=by simpa using h []
theorem AL.lt{W:AP}{o:Nat}{x:Au}(h:AL W o x):o<W.length:=(Qb.1 h.at).1
theorem AL.set{W:AP}{o:Nat}{x:Au}(h:AL W o x)(L:AP)(y:Au):(W++L).set o y=W.set o y++L:=Qd _ _ h.lt
section
variable {W H L:AP}{a b c d e f:Au}
theorem Hid.ex(h:Hid (W=H++L)):Ex H W:=⟨L,h⟩
theorem Hid.EQ(h:Hid (W=H++a::L)):AL W H.length a:=by have h:W=_:=h;rw[h];exact .of BH
theorem Hid.Hx(h:Hid (W=H++a::b::L)):AL W (H.length+1) b:=by have h:W=_:=h;rw[h];exact .of BP
theorem Hid.Hy(h:Hid (W=H++a::b::c::L)):AL W (H.length+2) c:=by have h:W=_:=h;rw[h];exact .of BO
theorem Hid.NS(h:Hid (W=H++a::b::c::d::L)):AL W (H.length+3) d:=by have h:W=_:=h;rw[h];exact .of BR
theorem Hid.n6(h:Hid (W=H++a::b::c::d::e::L)):AL W (H.length+4) e:=by have h:W=_:=h;rw[h];exact .of BU
end
theorem AK.Jn{P:Program}{n0:Nat}{c:AD}{Q:Exit->St->Prop}{T:List AH}{H:AP}(h:∀W,Hid (W=H)->AK P n0 c Q ⟨T,W⟩):AK P n0 c Q ⟨T,H⟩:=h H rfl
def pick(p:Nat->Bool)(n:Nat):List Int:=((Qa n).filter p).map Int.ofNat
theorem UG{p:Nat->Bool}{k:Nat}(h:p k=true):pick p (k+1)=pick p k++[(k:Int)]:=by simp[pick,Qg,h]
theorem OL{p:Nat->Bool}{k:Nat}(h:p k=false):pick p (k+1)=pick p k:=by simp[pick,Qg,h]
theorem GO{p:Nat->Bool}{k:Nat}:(pick p k).length<=k:=by
 simp only[pick,List.length_map]
 exact Nat.le_trans (List.length_filter_le _ _) (by simp)
theorem Dn{l r:List Int}:ints (l++r)=ints l++ints r:=by simp[ints]
theorem GI{a:Int}{l:List Int}:ints (a::l)=[nS a]::ints l:=rfl
@[go_sem] theorem U6:ints []=[]:=rfl
theorem Tf.one{n i:Nat}{L:AP}{x:Au}(h:L[i]?=some x)(hp:JW (MT n [i]) x x):Tf n [i] L [x]:=by
 refine⟨rfl,by simp,fun{a j} hj=> ?_⟩
 cases j with
 |zero=>simp at hj;subst hj;exact⟨x,x,h,rfl,hp⟩
 |succ j=>simp at hj
theorem Tf.two{n i j:Nat}{L:AP}{x y:Au}(h:L[i]?=some x)(h':L[j]?=some y)(hij:i≠j)(hp:JW (MT n [i,j]) x x)(hp':JW (MT n [i,j]) y y):Tf n [i,j] L [x,y]:=by
 refine⟨rfl,by simp[hij],fun{a k} hk=> ?_⟩
 match k with
 |0=>simp at hk;subst hk;exact⟨x,x,h,rfl,hp⟩
 |1=>simp at hk;subst hk;exact⟨y,y,h',rfl,hp'⟩
 |k+2=>simp at hk
theorem EF{p:Nat->Prop}{l:List AH}(h:∀a∈l,a.plain=true):Ay p l:=by
 rw[Dr]
 intro a ha
 exact F2 (h a ha)
theorem JW.plain{r:Ren}{s:Nat}{xs:List (List AH)}{ro:Bool}(h:∀x∈xs,∀a∈x,a.plain=true):JW r (.AU s xs ro) (.AU s xs ro):=
 JW.refl λx hx=>EF (h x hx)
theorem Ca{l:List Int}:∀x∈ints l,∀a∈x,a.plain=true:=by
 intro x hx a ha
 obtain⟨n,-,rfl⟩:=Qn.1 hx
 simp at ha;subst ha;rfl
theorem Gc.slice{H L:AP}{K:AH->AP->Prop}{i n s:Nat}{f ro:Bool}{xs:List (List AH)}(hi:L[i]?=some (.AU s xs ro))(hp:∀x∈xs,∀a∈x,a.plain=true)(h:K (.slice H.length n 0 n f) (H++[.AU s xs ro])):
 Gc H K (.slice (H.length+i) n 0 n f) (H++L):=
 ⟨[i],L,[.AU s xs ro],_,rfl,Tf.one hi (.plain hp),⟨H.length,rfl,.inr ⟨i,0,rfl,rfl,rfl⟩⟩,h⟩
theorem Gc.Uk{H L:AP}{K:AH->AP->Prop}{i n s:Nat}{f ro:Bool}{xs:List (List AH)}(hi:L[i]?=some (.AU s xs ro))(hp:∀x∈xs,∀a∈x,a.plain=true)(h:K (.agg [.slice H.length n 0 n f]) (H++[.AU s xs ro])):
 Gc H K (.agg [.slice (H.length+i) n 0 n f]) (H++L):=
 ⟨[i],L,[.AU s xs ro],_,rfl,Tf.one hi (.plain hp),⟨_,rfl,_,_,rfl,⟨H.length,rfl,.inr ⟨i,0,rfl,rfl,rfl⟩⟩,rfl⟩,h⟩
theorem AL.other{W:AP}{o i:Nat}{x:Au}(h:AL W o x)(ne:i≠o)(y:Au)(L:AP):(W.set i y++L)[o]?=some x:=by
 rw[Qe (by rw[Qc];exact h.lt),List.getElem?_set_ne ne];exact h.at
theorem AL.OR{W:AP}{o i:Nat}{x:Au}(h:AL W o x)(L:AP)(y z:Au):(W.set i y++L).set o z=(W.set i y).set o z++L:=Qd _ _ (by rw[Qc];exact h.lt)
theorem AL.FV{W:AP}{o:Nat}{x:Au}(h:AL W o x)(y:Au)(L:AP):(W.set o y++L)[o]?=some y:=by
 rw[Qe (by rw[Qc];exact h.lt)];exact Qf h.lt
theorem AL.Eu{W:AP}{o:Nat}{x:Au}(h:AL W o x)(y:Au):(W.set o y)[o]?=some y:=Qf h.lt
def Gx(p:Nat->Bool)(n:Nat):Int:=match(Qa n).find? p with
 |some k=>(k:Int)
 |none=>-1
theorem Jl{p:Nat->Bool}{n k:Nat}(hk:k<n)(h:(Qa k).all (λj=>!p j)=true)(hp:p k=true):Gx p n=(k:Int):=by
 have:(Qa n).find? p=some k:=by
  rw[List.find?_range_eq_some]
  exact⟨hp,by simpa using hk,λj hj=>by have:=Qj.1 h j (Ql.2 hj);simpa using this⟩
 simp[Gx,this]
theorem G4{p:Nat->Bool}{n:Nat}(h:(Qa n).all (λj=>!p j)=true):Gx p n=-1:=by
 have:(Qa n).find? p=none:=by
  rw[List.find?_eq_none]
  intro x hx;have:=Qj.1 h x hx;simpa using this
 simp[Gx,this]
@[go_sem] theorem mb {H L:AP} {m:Nat} {y a:Au}:(H.set m y++a::L)[H.length]?=some a:=by
 have:=BH (H:=H.set m y) (a:=a) (L:=L);rwa [Qc]at this
theorem I1{H:AP}{m:Nat}{x:Au}(h:H[m]?=some x):H.set m x=H:=by
 obtain⟨hl,hh⟩:=Qb.1 h;rw[<-hh];simp
theorem Hid.U9{W H L:AP}{m:Nat}{y a:Au}(h:Hid (W=H.set m y++a::L)):AL W H.length a:=by
 have h:W=_:=h;rw[h];exact .of mb
theorem Hid.U8{W H L:AP}{m:Nat}{x y:Au}(h:Hid (W=H.set m y++L))(hm:H[m]?=some x):AL W m y:=by
 have h:W=_:=h;rw[h];exact .of (AL.FV (.of hm) _ _)
theorem Hid.YU{W H L:AP}{m o:Nat}{x y:Au}(h:Hid (W=H.set m y++L))(ho:H[o]?=some x)(ne:m≠o):AL W o x:=by
 have h:W=_:=h;rw[h];exact .of (AL.other (.of ho) ne _ _)
theorem Hj{H:AP}{m:Nat}{x:Au}(h:H[m]?=some x)(L:AP)(a b:Au):(H.set m a++L).set m b=H.set m b++L:=by
 rw[Qd _ _ (by rw[Qc];exact(Qb.1 h).1),List.set_set]
theorem AK.heap{P:Program}{n0:Nat}{c:AD}{Q:Exit->St->Prop}{T:List AH}{H H':AP}(e:H=H')(h:AK P n0 c Q ⟨T,H'⟩):AK P n0 c Q ⟨T,H⟩:=e▸h
end Go.Ax

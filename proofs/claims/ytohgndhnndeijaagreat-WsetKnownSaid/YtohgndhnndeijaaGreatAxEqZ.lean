/- Structs and arrays of numbers, bools and strings, held against each other. Conditions: none. -/
import Derived.Test.YtohgndhnndeijaaGreatAxOpZ
import Derived.Laws.StructEq
import Derived.ChangeKeysEq
set_option linter.all false
open List renaming take_append_drop -> Qa, drop_drop -> Qb, headD_cons -> Qd, replicate -> Qe, drop_eq_nil_iff -> Qf
open Bool renaming false_eq_true -> Qc
namespace Go.Ax
open Go Go.RowKit
def RF(P:Program)(g:TypeId->Option (List Nat)):List Field->Nat->Option (List Nat)
 |[],_=>some []
 |f::fs,off=>if f.name≠ "_" /\f.offset=off then(match g f.type with
  |some l=>if P.cellsOf f.type=l.length/\0<l.length then(RF P g fs (off+l.length)).map (l++ ·)else none
  |none=>none)else none
def Fy(P:Program):Nat->TypeId->Option (List Nat)
 |0,_=>none
 |d+1,t=>match P.underlying t with
  |some (.int _)=>some [0]
  |some .bool=>some [1]
  |some .string=>some [2]
  |some (.struct fs)=>if P.stoodInHeld t then none else RF P (Fy P d) fs.toList 0
  |some (.array n e)=>match Fy P d e with
   |some l=>if P.cellsOf e=l.length then some (Qe n l).flatten else none
   |none=>none
  |_=>none
theorem Ie:∀{ks ks':List Nat} {a a' b b':List AH},ks.length=a.length->ks.length=b.length->
 Bp (ks++ks') (a++a') (b++b')=(match Bp ks a b,Bp ks' a' b' with|some x,some y=>some (x&&y)|_,_=>none)
 |[],ks',[],a',[],b',_,_=>by
  simp only[List.nil_append,Bp]
  cases Bp ks' a' b'<;>simp
 |k::ks,ks',x::a,a',y::b,b',h,h'=>by
  have ih:=Ie (ks:=ks) (ks':=ks') (a:=a) (a':=a') (b:=b) (b':=b') (by simpa using h) (by simpa using h')
  simp only[List.cons_append,Bp,ih]
  cases Ho k x y with
  |none=>simp
  |some u=>cases Bp ks a b with
   |none=>simp
   |some v=>cases Bp ks' a' b' with
    |none=>simp
    |some z=>simp[Bool.and_assoc]
 |[],_,_::_,_,_,_,h,_=>by simp at h
 |[],_,[],_,_::_,_,_,h=>by simp at h
 |_::_,_,[],_,_,_,h,_=>by simp at h
 |_::_,_,_::_,_,[],_,_,h=>by simp at h
theorem Gg:∀{ks:List Nat} {a b:List AH} {r:Bool},Bp ks a b=some r->ks.length=a.length/\ks.length=b.length
 |[],[],[],_,_=>by simp
 |k::ks,x::a,y::b,r,h=>by
  simp only[Bp]at h
  split at h
  ·rename_i hh
   have:=Gg hh
   simpa using this
  ·cases h
 |[],_::_,_,_,h=>by simp[Bp]at h
 |[],[],_::_,_,h=>by simp[Bp]at h
 |_::_,[],_,_,h=>by simp[Bp]at h
 |_::_,_::_,[],_,h=>by simp[Bp]at h
def valOf(agg:Bool)(cs:List Value):Value:=if agg then .agg cs.toArray else cs.headD undef
def Dy(P:Program)(t:TypeId):Bool:=match P.underlying t with
 |some (.struct _)|some (.array _ _)=>true
 |_=>false
theorem NU{P:Program}{d:Nat}{t:TypeId}{ks:List Nat}(h:Fy P d t=some ks)(hn:Dy P t=false):ks.length=1:=by
 cases d with
 |zero=>simp[Fy]at h
 |succ d=>
  simp only[Fy,Dy]at h hn
  split at h<;>simp_all<;>(subst h;rfl)
theorem IF{P:Program}(w:World)(t:TypeId)(cs:List Value)(off:Nat)(n:Nat)(hs:P.cellsOf t=n)(hd:∃d,P.underlying t=some d)(hi:∃i,P.info? t=some i)
 (hl:off+n<=cs.length) (hn:Dy P t=false->n=1):
 (part t cs.toArray off).run P w= .ok (valOf (Dy P t) ((cs.drop off).take n)) w:=by
 obtain⟨d,hd⟩:=hd
 obtain⟨i,hi⟩:=hi
 have hsz:i.size=n:=by simpa [Program.cellsOf,hi] using hs
 unfold part isAgg
 simp only[Sem.run_bind,run_underlying hd w,Result.andThen_ok]
 have hagg:Dy P t=(match d with| .struct _| .array _ _=>true|_=>false):=by simp only[Dy,hd];cases d<;>rfl
 cases d
 case struct fs=>simp[sizeOf,typeInfo,hi,hsz,valOf,hagg]
 case array m e=>simp[sizeOf,typeInfo,hi,hsz,valOf,hagg]
 all_goals
  have hn1:n=1:=hn (by simp[hagg])
  subst hn1
  have hlt:off<cs.length:=by omega
  have e1:(cs.drop off).take 1=[cs[off]]:=by
   rw[List.drop_eq_getElem_cons hlt];rfl
  rw[e1]
  simp[valOf,hagg,hlt]
theorem Ew{P:Program}{t:TypeId}{d:TypeDesc}(h:P.underlying t=some d):∃i,P.info? t=some i:=by
 cases hi:P.info? t with
 |none=>simp[Program.underlying,hi]at h
 |some i=>exact⟨i,rfl⟩
theorem OY{σ:B0}{H:AP}{k:Nat}{a b:AH}{r:Bool}{x y:Value}(hc:Ho k a b=some r)(hx:VR σ H a x)(hy:VR σ H b y):
 (k=0/\∃kk m n,x= .int kk m/\y= .int kk n/\r=decide (m=n))\/(k=1/\∃m n,x= .bool m/\y= .bool n/\r=decide (m=n))\/
 (k=2/\∃m n:List UInt8,x= .string ⟨m.toArray⟩/\y= .string ⟨n.toArray⟩/\r=decide (m=n)):=by
 unfold Ho at hc
 split at hc
 ·split at hc
  ·rename_i hk;subst hk
   simp only[VR]at hx hy
   injection hc with hc
   exact .inl ⟨rfl,_,_,_,hx,hy,hc.symm⟩
  ·cases hc
 ·simp only[VR]at hx hy
  injection hc with hc
  exact .inr (.inl ⟨rfl,_,_,hx,hy,hc.symm⟩)
 ·simp only[VR]at hx hy
  injection hc with hc
  exact .inr (.inr ⟨rfl,_,_,hx,hy,hc.symm⟩)
 ·cases hc
theorem M9(l:List UInt8):(⟨l.toArray⟩:ByteArray).toList=l:=by
 rw[ByteArray.toList_eq]
theorem BQ.split{σ:B0}{H:AP}{l:List AH}{r:List Value}(h:BQ σ H l r)(n:Nat):BQ σ H (l.take n) (r.take n)/\BQ σ H (l.drop n) (r.drop n):=⟨h.take n,h.drop n⟩
theorem Nc{P:Program}(w:World)(d:Nat)(xs ys:List Value){σ:B0}{H:AP}(la lb:List AH)(hx:BQ σ H la xs)(hy:BQ σ H lb ys)
 (
  ih:∀t ks,Fy P d t=some ks->∀(xs ys:List Value) (la lb:List AH) r,BQ σ H la xs->BQ σ H lb ys->Bp ks la lb=some r->
  (Op.equalIn d t (valOf (Dy P t) xs) (valOf (Dy P t) ys)).run P w= .ok r w):
 ∀(fs:List Field) (off:Nat) (ks:List Nat) r,RF P (Fy P d) fs off=some ks->Bp ks (la.drop off) (lb.drop off)=some r->
  (Op.eqFields d xs.toArray ys.toArray fs).run P w= .ok r w
 |[],off,ks,r,hl,hc=>by
  simp only[RF,Option.some.injEq]at hl;subst hl
  cases hla:la.drop off with
  |cons a l=>rw[hla]at hc;simp[Bp]at hc
  |nil=>cases hlb:lb.drop off with
   |cons a l=>rw[hla,hlb]at hc;simp[Bp]at hc
   |nil=>rw[hla,hlb]at hc;simp[Bp]at hc;subst hc;simp[Op.eqFields]
 |f::fs,off,ks,r,hl,hc=>by
  simp only[RF]at hl
  split at hl
  case isFalse=>cases hl
  rename_i hf
  obtain⟨hname,hoff⟩:=hf
  split at hl
  case h_2=>cases hl
  rename_i l hg
  split at hl
  case isFalse=>cases hl
  rename_i hsz
  obtain⟨hsz,hpos⟩:=hsz
  rw[Option.map_eq_some_iff]at hl
  obtain⟨ks',hl',rfl⟩:=hl
  obtain⟨e1,e2⟩:=Gg hc
  simp only[List.length_append,List.length_drop]at e1 e2
  have hla:la.drop off=(la.drop off).take l.length++la.drop (off+l.length):=by rw[<-Qb,Qa]
  have hlb:lb.drop off=(lb.drop off).take l.length++lb.drop (off+l.length):=by rw[<-Qb,Qa]
  rw[hla,hlb,Ie (by simp;omega) (by simp;omega)]at hc
  have hxl:=hx.length
  have hyl:=hy.length
  have hd:∃d',P.underlying f.type=some d':=by
   cases d with
   |zero=>simp[Fy]at hg
   |succ d=>
    simp only[Fy]at hg
    split at hg<;>first|exact⟨_,‹_›⟩|cases hg
  have hn1:Dy P f.type=false->l.length=1:=NU hg
  have p1:=IF w f.type xs off l.length hsz hd (Ew hd.choose_spec) (by omega) hn1
  have p2:=IF w f.type ys off l.length hsz hd (Ew hd.choose_spec) (by omega) hn1
  split at hc
  case h_2=>cases hc
  rename_i u v hu hv
  injection hc with hc
  have i1:=ih f.type l hg _ _ _ _ u ((hx.drop off).take l.length) ((hy.drop off).take l.length) hu
  have i2:=Nc w d xs ys la lb hx hy ih fs (off+l.length) ks' v hl' hv
  simp only[Op.eqFields,hname,hoff,ne_eq,not_false_eq_true,if_true,Sem.run_bind,p1,p2,Result.andThen_ok,i1]
  subst hc
  cases u
  ·simp
  ·simpa using i2
theorem G5{P:Program}{t:TypeId}{d:TypeDesc}(h:P.underlying t=some d):Dy P t=(match d with| .struct _| .array _ _=>true|_=>false):=by
 simp only[Dy,h];cases d<;>rfl
theorem TJ{P:Program}(w:World)(d e:Nat)(l:List Nat)(hg:Fy P d e=some l)(hsz:P.cellsOf e=l.length)(xs ys:List Value){σ:B0}{H:AP}(la lb:List AH)
 (hx:BQ σ H la xs) (hy:BQ σ H lb ys)
 (
  ih:∀t ks,Fy P d t=some ks->∀(xs ys:List Value) (la lb:List AH) r,BQ σ H la xs->BQ σ H lb ys->Bp ks la lb=some r->
  (Op.equalIn d t (valOf (Dy P t) xs) (valOf (Dy P t) ys)).run P w= .ok r w):
 ∀(n k:Nat) r,(k+n)* l.length=la.length->(k+n)* l.length=lb.length->Bp (Qe n l).flatten (la.drop (k* l.length)) (lb.drop (k* l.length))=some r->
  (Op.eqItems d e l.length xs.toArray ys.toArray (List.range' k n)).run P w= .ok r w
 |0,k,r,h1,h2,hc=>by
  have e1:la.drop (k* l.length)=[]:=by rw[Qf];simp at h1;omega
  have e2:lb.drop (k* l.length)=[]:=by rw[Qf];simp at h2;omega
  rw[e1,e2]at hc
  simp[Bp]at hc
  subst hc;simp[Op.eqItems]
 |n+1,k,r,h1,h2,hc=>by
  have hmul:(k+(n+1))* l.length=k* l.length+l.length+n* l.length:=by rw[<-Nat.add_assoc,Nat.add_right_comm];simp[Nat.add_mul]
  have hk1:(k+1)* l.length=k* l.length+l.length:=by simp[Nat.add_mul]
  have hxl:=hx.length
  have hyl:=hy.length
  have hla:la.drop (k* l.length)=(la.drop (k* l.length)).take l.length++la.drop ((k+1)* l.length):=by rw[hk1,<-Qb,Qa]
  have hlb:lb.drop (k* l.length)=(lb.drop (k* l.length)).take l.length++lb.drop ((k+1)* l.length):=by rw[hk1,<-Qb,Qa]
  rw[hla,hlb,List.replicate_succ,List.flatten_cons,Ie (by simp;omega) (by simp;omega)]at hc
  have hd:∃d',P.underlying e=some d':=by
   cases d with
   |zero=>simp[Fy]at hg
   |succ d=>
    simp only[Fy]at hg
    split at hg<;>first|exact⟨_,‹_›⟩|cases hg
  have hn1:Dy P e=false->l.length=1:=NU hg
  have p1:=IF w e xs (k* l.length) l.length hsz hd (Ew hd.choose_spec) (by omega) hn1
  have p2:=IF w e ys (k* l.length) l.length hsz hd (Ew hd.choose_spec) (by omega) hn1
  split at hc
  case h_2=>cases hc
  rename_i u v hu hv
  injection hc with hc
  have i1:=ih e l hg _ _ _ _ u ((hx.drop _).take l.length) ((hy.drop _).take l.length) hu
  have i2:=TJ w d e l hg hsz xs ys la lb hx hy ih n (k+1) v (by rw[show k+1+n=k+(n+1) by omega];exact h1) (by rw[show k+1+n=k+(n+1) by omega];exact h2) hv
  simp only[List.range'_succ,Op.eqItems,Sem.run_bind,p1,p2,Result.andThen_ok,i1]
  subst hc
  cases u
  ·simp
  ·simpa using i2
theorem JP{P:Program}(w:World){σ:B0}{H:AP}:∀(d:Nat) (t:TypeId) (ks:List Nat),Fy P d t=some ks->∀(xs ys:List Value) (la lb:List AH) (r:Bool),
 BQ σ H la xs->BQ σ H lb ys->Bp ks la lb=some r->(Op.equalIn d t (valOf (Dy P t) xs) (valOf (Dy P t) ys)).run P w= .ok r w
 |0,_,_,h,_,_,_,_,_,_,_,_=>by simp[Fy]at h
 |d+1,t,ks,h,xs,ys,la,lb,r,hx,hy,hc=>by
  have ih:∀t ks,Fy P d t=some ks->∀(xs ys:List Value) (la lb:List AH) r,BQ σ H la xs->BQ σ H lb ys->Bp ks la lb=some r->
   (Op.equalIn d t (valOf (Dy P t) xs) (valOf (Dy P t) ys)).run P w= .ok r w:=λt ks h xs ys la lb r hx hy hc=>JP w d t ks h xs ys la lb r hx hy hc
  have one:∀{k:Nat},Bp [k] la lb=some r->∃a b x y,la=[a]/\lb=[b]/\xs=[x]/\ys=[y]/\Ho k a b=some r/\VR σ H a x/\VR σ H b y:=by
   intro k hk
   obtain⟨l1,l2⟩:=Gg hk
   match la,lb,xs,ys,l1,l2,hx.length,hy.length with
   |[a],[b],[x],[y],_,_,_,_=>
    simp only[Bp]at hk
    rw[Bn]at hx hy
    cases hh:Ho k a b with
    |none=>simp[hh]at hk
    |some u=>simp[hh]at hk;subst hk;exact⟨a,b,x,y,rfl,rfl,rfl,rfl,hh,hx.1,hy.1⟩
  simp only[Fy]at h
  split at h
  case h_1 kk hu=>
   injection h with h;subst h
   obtain⟨a,b,x,y,rfl,rfl,rfl,rfl,hk,h1,h2⟩:=one hc
   rcases OY hk h1 h2 with⟨-,k',m,n,rfl,rfl,rfl⟩|⟨h,-⟩|⟨h,-⟩
   ·simp only[valOf,G5 hu,Qc,if_false,Qd]
    rw[run_equalIn_int w d t k' kk m n hu];rfl
   ·cases h
   ·cases h
  case h_2 hu=>
   injection h with h;subst h
   obtain⟨a,b,x,y,rfl,rfl,rfl,rfl,hk,h1,h2⟩:=one hc
   rcases OY hk h1 h2 with⟨h,-⟩|⟨-,m,n,rfl,rfl,rfl⟩|⟨h,-⟩
   ·cases h
   ·simp only[valOf,G5 hu,Qc,if_false,Qd]
    rw[run_equalIn_bool' w d t m n hu];rfl
   ·cases h
  case h_3 hu=>
   injection h with h;subst h
   obtain⟨a,b,x,y,rfl,rfl,rfl,rfl,hk,h1,h2⟩:=one hc
   rcases OY hk h1 h2 with⟨h,-⟩|⟨h,-⟩|⟨-,m,n,rfl,rfl,rfl⟩
   ·cases h
   ·cases h
   ·simp only[valOf,G5 hu,Qc,if_false,Qd]
    rw[run_equalIn_string w d t _ _ hu,M9,M9];congr 1;rw[Bool.eq_iff_iff];simp
  case h_4 fs hu=>
   split at h
   ·cases h
   ·rename_i hst
    have hf:P.fieldsOf t=fs:=by simp[Program.fieldsOf,hu]
    simp only[valOf,G5 hu,if_true]
    rw[run_equalIn_struct w d t _ _ (by rw[hf];exact hu) (by simpa using hst),hf]
    exact Nc w d xs ys la lb hx hy ih fs.toList 0 ks r h (by simpa using hc)
  case h_5 n e hu=>
   split at h
   case h_2=>cases h
   rename_i l hg
   split at h
   case isFalse=>cases h
   rename_i hsz
   injection h with h;subst h
   have hd:∃d',P.underlying e=some d':=by
    cases d with
    |zero=>simp[Fy]at hg
    |succ d=>
     simp only[Fy]at hg
     split at hg<;>first|exact⟨_,‹_›⟩|cases hg
   obtain⟨i,hi⟩:=Ew hd.choose_spec
   obtain⟨l1,l2⟩:=Gg hc
   have lf:∀n,((Qe n l).flatten).length=n* l.length:=λn=>by simp
   rw[lf]at l1 l2
   simp only[valOf,G5 hu,if_true]
   rw[run_equalIn_array w d _ _ hu hi,hsz,List.range_eq_range']
   exact TJ w d e l hg hsz xs ys la lb hx hy ih n 0 r (by rw[Nat.zero_add];exact l1) (by rw[Nat.zero_add];exact l2) (by simpa using hc)
  case h_6=>cases h
end Go.Ax

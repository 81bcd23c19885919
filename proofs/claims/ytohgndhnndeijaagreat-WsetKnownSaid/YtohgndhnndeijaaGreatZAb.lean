/- Texts put behind one another: AxNames, AxFill, AxCst. Conditions: none. -/
import Derived.Test.YtohgndhnndeijaaGreatAxStepZ
set_option linter.all false
open Option.some renaming injEq -> Qa
open Prod.mk renaming injEq -> Qb
open List renaming length_set -> Qc, flatMap_cons -> Qd, getElem?_set_ne -> Qf, map_cons -> Qg, set -> Qh
open Option renaming map_eq_some_iff -> Qe
namespace Go.Ax
open Go Go.RowKit
def Av.names:Av->List Nat
 | .t n=>[n]
 | .c _=>[]
def He:Option Av->List Nat
 |none=>[]
 |some a=>a.names
def GS.names:GS->List Nat
 | .mv x=>x.names
 | .pick c a b=>c.names++a.names++b.names
 | .bin _ x y=>x.names++y.names
 | .MG _ x y=>x.names++y.names
 | .cS _ x y=>x.names++y.names
 | .eqs _ _ x y=>x.names++y.names
 | .isNil _ _ x=>x.names
 | .un _ x=>x.names
 | .AQ _ x=>x.names
 | .ld _ x=>x.names
 | .st _ x y=>x.names++y.names
 | .Pb x=>x.names
 | .U7 _ _ x i=>x.names++i.names
 | .A9 _ x i=>x.names++i.names
 | .FA x i=>x.names++i.names
 | .NR _ _ _ x i=>x.names++i.names
 | .part _ _ x=>x.names
 | .len _ x=>x.names
 | .ext x _=>x.names
 | .build _ ps=>ps.flatMap λp=>p.2.2.names
 | .EO _ _ _ ps=>ps.flatMap λp=>p.2.names
 | .box x=>x.names
 | .new _=>[]
 | .MM _ _ _ l c=>l.names++c.names
 | .app _ _ s x=>s.names++x.names
 | .Yg x=>x.names
 | .Ya x=>x.names
 | .Yi _ x lo hi=>x.names++He lo++He hi
 | .Ue _ x lo hi mx=>x.names++He lo++He hi++He mx
 | .Km x lo hi=>x.names++He lo++He hi
 | .WB _ l=>l.flatMap Av.names
 | .Hp _ x=>x.names
 | .cU x=>x.names
 | .eo _ x y=>x.names++y.names
 | .dz x=>x.names
 | .eP x=>x.names
 | .call _ l=>l.flatMap Av.names
 | .Ha x l=>x.names++l.flatMap Av.names
 | .YY _ l=>l.flatMap Av.names
 | .Pa=>[]
 | .Wb _ x k=>x.names++k.names
 | .ZR x k v=>x.names++k.names++v.names
 | .aC _ d s=>d.names++s.names
 | .clr _ _ x=>x.names
 | .born _ b=>match b with
  | .new _=>[]
  | .box x=>x.names
  | .EO _ _ _ ps=>ps.flatMap λp=>p.2.names
  | .MM _ _ _ l c=>l.names++c.names
  | .Pa=>[]
def Cq(T T':List AH)(l:List Nat):Prop:=∀t∈l,T.getD t .Dk=T'.getD t .Dk
theorem Cq.arg{T T':List AH}:∀{x:Av},Cq T T' x.names->Bm T x=Bm T' x
 | .t n,h=>h n (by simp[Av.names])
 | .c _,_=>rfl
theorem Cq.left{T T':List AH}{l r:List Nat}(h:Cq T T' (l++r)):Cq T T' l:=λt ht=>h t (by simp[ht])
theorem Cq.right{T T':List AH}{l r:List Nat}(h:Cq T T' (l++r)):Cq T T' r:=λt ht=>h t (by simp[ht])
theorem Cq.args{T T':List AH}:∀{l:List Av},Cq T T' (l.flatMap Av.names)->l.map (Bm T)=l.map (Bm T')
 |[],_=>rfl
 |x::l,h=>by
  rw[Qd]at h
  rw[Qg,Qg,h.left.arg,Cq.args h.right]
theorem Cq.Dz{T T':List AH}:∀{ps:List (Nat×Nat×Av)} (cells:List AH),Cq T T' (ps.flatMap λp=>p.2.2.names)->Dz T cells ps=Dz T' cells ps
 |[],_,_=>rfl
 |(off,size,x)::ps,cells,h=>by
  rw[Qd]at h
  simp only[Ax.Dz,h.left.arg]
  split
  ·split
   ·exact Cq.Dz _ h.right
   ·rfl
  ·rfl
theorem Cq.DW{T T':List AH}(size:Nat):∀{ps:List (Nat×Av)} (xs:List (List AH)),Cq T T' (ps.flatMap λp=>p.2.names)->DW T size xs ps=DW T' size xs ps
 |[],_,_=>rfl
 |(i,x)::ps,xs,h=>by
  rw[Qd]at h
  simp only[Ax.DW,h.left.arg]
  split
  ·split
   ·exact Cq.DW size _ h.right
   ·rfl
  ·rfl
theorem Cq.EI{T T':List AH}{d:Nat}:∀{x:Option Av},Cq T T' (He x)->EI T d x=EI T' d x
 |none,_=>rfl
 |some x,h=>by simp only[Ax.EI,Cq.arg (x:=x) h]
theorem Cq.WA{T T':List AH}(mx:Bool):∀{l:List Av} (v:AH),Cq T T' (l.flatMap Av.names)->WA mx T v l=WA mx T' v l
 |[],v,_=>by cases v<;>simp[Ax.WA]
 |x::l,v,h=>by
  rw[Qd]at h
  cases v<;>simp only[Ax.WA]
  rw[h.left.arg]
  split
  ·exact Cq.WA mx _ h.right
  ·rfl
theorem HY{T T':List AH}{H:AP}{op:GS}(h:Cq T T' op.names):AV T H op=AV T' H op:=by
 cases op
 case len str x=>
  have h':Cq T T' x.names:=h
  cases str<;>simp only[AV,h'.arg]
 case Ue size x lo hi mx=>
  simp only[GS.names]at h
  have e1:=h.left.left.left.arg
  have e2:=λd=>h.left.left.right.EI (d:=d)
  have e3:=λd=>h.left.right.EI (d:=d)
  simp only[AV]
  rw[e1]
  cases mx with
  |none=>simp only[e2,e3]
  |some y=>
   have e4:=λd=>Cq.EI (d:=d) (x:=some y) h.right
   simp only[e2,e3,e4]
 case WB mx l=>
  simp only[GS.names]at h
  simp only[AV]
  cases l with
  |nil=>rfl
  |cons x r=>
   rw[Qd]at h
   simp only[h.left.arg,Cq.WA mx _ h.right]
 case Yi n x lo hi=>
  simp only[GS.names]at h
  have e1:=h.left.left.arg
  have e2:=λd=>h.left.right.EI (d:=d)
  have e3:=λd=>h.right.EI (d:=d)
  simp only[AV,e1,e2,e3]
 case Km x lo hi=>
  simp only[GS.names]at h
  have e1:=h.left.left.arg
  have e2:=λd=>h.left.right.EI (d:=d)
  have e3:=λd=>h.right.EI (d:=d)
  simp only[AV,e1,e2,e3]
 all_goals
  simp only[GS.names]at h
  simp only[AV]<;>first
  |rfl
  |rw[Cq.arg h]
  |rw[h.left.arg,h.right.arg]
  |rw[h.left.left.arg,h.left.right.arg,h.right.arg]
  |rw[Cq.Dz _ h]
  |rw[Cq.DW _ _ h]
  |rw[Cq.args h]
theorem IY{T T':List AH}{k j:Nat}{b:EH}(h:Cq T T' (GS.born j b).names):Cz T k b=Cz T' k b:=by
 cases b<;>simp only[GS.names]at h<;>simp only[Cz]
 case box=>rw[Cq.arg h]
 case EO=>rw[Cq.DW _ _ h]
 case MM=>rw[h.left.arg,h.right.arg]
def GS.quiet:GS->Bool
 | .st .. | .EO .. | .box .. | .new .. | .MM .. | .app .. | .Yg .. | .Ya .. | .call .. | .Ha .. | .Pa| .ZR .. | .aC .. | .clr .. | .born .. | .dz .. | .eP .. =>false
 |_=>true
def GS.pure:GS->Bool
 | .mv .. | .pick .. | .bin .. | .MG .. | .cS .. | .eqs .. | .isNil .. | .un .. | .AQ .. | .Pb .. | .U7 .. | .FA .. | .NR .. | .part .. | .len .. | .ext .. | .build .. | .Km .. | .WB .. | .Hp .. | .cU .. | .eo .. | .YY .. =>true
 |_=>false
theorem Iv{op:GS}(h:op.pure=true):op.quiet=true:=by cases op<;>first|rfl|(simp[GS.pure]at h)
theorem Yd{T:List AH}{H H2:AP}{op:GS}(hp:op.pure=true):AV T H2 op=(AV T H op).map λq=>(q.1,H2):=by
 cases op
 case len str x=>cases str<;>simp only[AV]<;>(split<;>simp)
 all_goals simp only[GS.pure,Bool.false_eq_true]at hp
 all_goals
  simp only[AV]
  (repeat' split)<;>simp[Option.map_map,Function.comp_def]
theorem TC{T:List AH}{H:AP}{op:GS}(hp:op.pure=true){v:AH}{H':AP}(h:AV T H op=some (v,H'))(H2:AP):AV T H2 op=some (v,H2):=by
 rw[Yd (H:=H) hp,h];rfl
theorem DF{H:AP}{k o:Nat}{x y:Au}(hk:H[k]?=some .A1)(ho:H[o]?=some y)(hy:y≠ .A1):(H.set k x)[o]?=some y:=by
 have:k≠o:=λe=>by subst e;rw[hk]at ho;injection ho with ho;exact hy ho.symm
 rw[Qf this];exact ho
theorem Lh{H:AP}{k size:Nat}{x:Au}(hk:H[k]?=some .A1){a:AH}{ys:List (List AH)}(h:Ds H size a=some ys):Ds (H.set k x) size a=some ys:=by
 unfold Ds at h ⊢
 split at h
 ·split at h
  case h_2=>cases h
  rename_i ho
  simp only[DF hk ho (by simp)];exact h
 ·split at h
  case h_2=>cases h
  rename_i ho
  simp only[DF hk ho (by simp)];exact h
 ·split at h
  case h_2=>cases h
  rename_i ho
  simp only[DF hk ho (by simp)];exact h
 ·exact h
 ·exact h
 ·cases h
theorem SV{H:AP}{k size:Nat}{x:Au}(hk:H[k]?=some .A1){a:AH}{ys:List (List AH)}(h:Gv H size a=some ys):Gv (H.set k x) size a=some ys:=by
 unfold Gv at h ⊢
 split at h
 ·cases h
 ·exact Lh hk h
theorem EM{T:List AH}{H H':AP}{op:GS}{v:AH}(hq:op.quiet=true)(h:AV T H op=some (v,H')):H'=H:=by
 cases op
 case Ue size x lo hi mx=>
  simp only[AV]at h
  repeat' split at h
  all_goals first
   |(cases h;done)
   |(simp only[Qa,Qb]at h;exact h.2.symm)
 case len str x=>
  cases str<;>simp only[AV]at h<;>(repeat' split at h)<;>first
   |(cases h;done)
   |(simp only[Qa,Qb]at h;exact h.2.symm)
 all_goals
  simp only[GS.quiet,Bool.false_eq_true]at hq
 all_goals
  simp only[AV]at h
  (
   repeat' split at h)<;>first
   |(cases h;done)
   |(simp only[Qa,Qb]at h;exact h.2.symm)
   |(simp only[Qe,Qb]at h;obtain⟨_,_,_,h⟩:=h;exact h.symm)
section
variable {T:List AH}{H H':AP}{v:AH}{k:Nat}{x:Au}
theorem GP(hk:H[k]?=some .A1)(y:Au):H.set k x++[y]=(H++[y]).set k x/\(H++[y])[k]?=some .A1:=by
 have hl:=(List.getElem?_eq_some_iff.1 hk).1
 exact⟨(List.set_append_left _ _ hl).symm,by rw[List.getElem?_append_left hl];exact hk⟩
theorem I0(hk:H[k]?=some .A1){o:Nat}{y:Au}(ho:H[o]?=some y)(hy:y≠ .A1)(z:Au):(H.set k x).set o z=(H.set o z).set k x/\(H.set o z)[k]?=some .A1:=by
 have hko:k≠o:=λe=>by subst e;rw[hk]at ho;injection ho with ho;exact hy ho.symm
 exact⟨List.set_comm _ _ hko,by rw[Qf (Ne.symm hko)];exact hk⟩
theorem G1{op:GS}(hk:H[k]?=some .A1)(h:AV T H op=some (v,H')):AV T (H.set k x) op=some (v,H'.set k x)/\H'[k]?=some .A1:=by
 by_cases hp:op.pure=true
 ·have e:=EM (Iv hp) h
  subst e
  exact⟨TC hp h _,hk⟩
 cases op<;>simp only[GS.pure,not_true_eq_false]at hp
 case ld n y=>
  simp only[AV]at h ⊢
  split at h
  case h_2=>cases h
  split at h
  case h_2=>cases h
  rename_i ho
  simp only[DF hk ho (by simp)]
  split at h
  case isFalse=>cases h
  rename_i hl
  simp only[hl,if_true]
  split at h
  case h_2=>cases h
  rename_i hc
  try simp only[hc]
  split at h
  ·split at h
   case h_2=>cases h
   rename_i ha
   simp only[Qa,Qb]at h;obtain⟨rfl,rfl⟩:=h
   exact⟨by simp only[ha],hk⟩
  ·split at h
   case isFalse=>cases h
   rename_i ha
   simp only[Qa,Qb]at h;obtain⟨rfl,rfl⟩:=h
   exact⟨by rw[if_pos ha],hk⟩
 case st size y z=>
  simp only[AV]at h ⊢
  split at h
  case h_2=>cases h
  rename_i e1 e2
  try simp only[e2]
  split at h
  case h_2=>cases h
  rename_i ho
  simp only[DF hk ho (by simp)]
  split at h
  case isFalse=>cases h
  rename_i hl
  simp only[hl,if_true]
  split at h
  case h_2=>cases h
  rename_i hc
  try simp only[hc]
  split at h
  case isFalse=>cases h
  rename_i hj
  simp only[Qa,Qb]at h;obtain⟨rfl,rfl⟩:=h
  obtain⟨g1,g2⟩:=I0 (x:=x) hk ho (by simp) (.AU _ (Qh _ _ (putAt _ _ _)) false)
  exact⟨by rw[if_pos hj,g1],g2⟩
 case A9 size y i=>
  simp only[AV]at h ⊢
  split at h
  ·split at h
   case h_2=>cases h
   rename_i ho
   simp only[DF hk ho (by simp)]
   split at h
   case isFalse=>cases h
   rename_i hl
   simp only[Qa,Qb]at h;obtain⟨rfl,rfl⟩:=h
   exact⟨by rw[if_pos hl],hk⟩
  ·split at h
   case h_2=>cases h
   rename_i ho
   simp only[DF hk ho (by simp)]
   split at h
   case isFalse=>cases h
   rename_i hl
   simp only[Qa,Qb]at h;obtain⟨rfl,rfl⟩:=h
   exact⟨by rw[if_pos hl],hk⟩
  ·split at h
   case h_2=>cases h
   rename_i ho
   simp only[DF hk ho (by simp)]
   split at h
   case isFalse=>cases h
   rename_i hl
   simp only[Qa,Qb]at h;obtain⟨rfl,rfl⟩:=h
   exact⟨by rw[if_pos hl],hk⟩
  ·cases h
 case EO size n zero parts=>
  simp only[AV,Qe,Qb]at h ⊢
  obtain⟨xs,h1,rfl,rfl⟩:=h
  obtain⟨g1,g2⟩:=GP (x:=x) hk (.AU size xs false)
  exact⟨⟨xs,h1,by rw[Qc],g1⟩,g2⟩
 case box y=>
  simp only[AV,Qe,Qb]at h ⊢
  obtain⟨l,h1,rfl,rfl⟩:=h
  obtain⟨g1,g2⟩:=GP (x:=x) hk (.AU l.length [l] false)
  exact⟨⟨l,h1,by rw[Qc],g1⟩,g2⟩
 case new zero=>
  simp only[AV,Qa,Qb]at h ⊢
  obtain⟨rfl,rfl⟩:=h
  obtain⟨g1,g2⟩:=GP (x:=x) hk (.AU zero.length [zero] false)
  exact⟨⟨by rw[Qc],g1⟩,g2⟩
 case Pa=>
  simp only[AV,Qa,Qb]at h ⊢
  obtain⟨rfl,rfl⟩:=h
  obtain⟨g1,g2⟩:=GP (x:=x) hk (.map [])
  exact⟨⟨by rw[Qc],g1⟩,g2⟩
 case MM size bytes zero l c=>
  simp only[AV]at h ⊢
  split at h
  case h_2=>cases h
  split at h
  case isFalse=>cases h
  rename_i hc
  simp only[Qa,Qb]at h;obtain⟨rfl,rfl⟩:=h
  obtain⟨g1,g2⟩:=GP (x:=x) hk (.AU size (List.replicate _ zero) false)
  exact⟨by rw[if_pos hc,Qc,g1],g2⟩
 case app size bytes s y=>
  simp only[AV]at h ⊢
  split at h
  case h_1=>cases h
  rename_i ys hy
  simp only[Lh hk hy]
  split at h
  ·split at h
   ·rename_i h0
    simp only[Qa,Qb]at h;obtain⟨rfl,rfl⟩:=h
    exact⟨by rw[if_pos h0],hk⟩
   ·rename_i h0
    split at h
    case isFalse=>cases h
    rename_i h1
    simp only[Qa,Qb]at h;obtain⟨rfl,rfl⟩:=h
    obtain⟨g1,g2⟩:=GP (x:=x) hk (.AU size ys false)
    exact⟨by rw[if_neg h0,if_pos h1,Qc,g1],g2⟩
  ·split at h
   case h_2=>cases h
   rename_i ho
   simp only[DF hk ho (by simp)]
   split at h
   case isFalse=>cases h
   rename_i hl
   simp only[Qa,Qb]at h;obtain⟨rfl,rfl⟩:=h
   obtain⟨g1,g2⟩:=I0 (x:=x) hk ho (by simp) (.AU size (_++ys) false)
   exact⟨by rw[if_pos hl,g1],g2⟩
  ·split at h
   case h_2=>cases h
   rename_i ho
   simp only[DF hk ho (by simp)]
   split at h
   case isFalse=>cases h
   rename_i hl
   simp only[hl,and_self,if_true]
   split at h
   ·rename_i h0
    simp only[Qa,Qb]at h;obtain⟨rfl,rfl⟩:=h
    exact⟨by rw[if_pos h0],hk⟩
   ·rename_i h0
    rw[if_neg h0]
    split at h
    ·rename_i h1
     simp only[Qa,Qb]at h;obtain⟨rfl,rfl⟩:=h
     obtain⟨g1,g2⟩:=GP (x:=x) hk (.AU size (List.take _ (List.drop _ _)++ys) false)
     exact⟨by rw[if_pos h1,Qc,g1],g2⟩
    ·rename_i h1
     rw[if_neg h1]
     split at h
     case isFalse=>cases h
     rename_i h2
     simp only[Qa,Qb]at h;obtain⟨rfl,rfl⟩:=h
     obtain⟨g1,g2⟩:=I0 (x:=x) hk ho (by simp) (.AU size (_++ys) false)
     exact⟨by rw[if_pos h2,g1],g2⟩
  ·cases h
 case Yg y=>
  simp only[AV]at h ⊢
  split at h
  case h_2=>cases h
  simp only[Qa,Qb]at h;obtain⟨rfl,rfl⟩:=h
  obtain⟨g1,g2⟩:=GP (x:=x) hk (.iter _ 0)
  exact⟨by rw[Qc,g1],g2⟩
 case Ya y=>
  simp only[AV]at h ⊢
  split at h
  case h_2=>cases h
  split at h
  case h_2=>cases h
  rename_i ho
  simp only[DF hk ho (by simp)]
  split at h
  ·rename_i h1
   simp only[Qa,Qb]at h;obtain⟨rfl,rfl⟩:=h
   obtain⟨g1,g2⟩:=I0 (x:=x) hk ho (by simp) (.iter _ _)
   exact⟨by rw[if_pos h1,g1],g2⟩
  ·rename_i h1
   simp only[Qa,Qb]at h;obtain⟨rfl,rfl⟩:=h
   exact⟨by rw[if_neg h1],hk⟩
 case Yi n y lo hi=>
  simp only[AV]at h ⊢
  split at h
  case h_2=>cases h
  split at h
  case h_2=>cases h
  rename_i ho
  simp only[DF hk ho (by simp)]
  split at h
  case isFalse=>cases h
  rename_i hl
  simp only[Qa,Qb]at h;obtain⟨rfl,rfl⟩:=h
  exact⟨by rw[if_pos hl],hk⟩
 case Ue size y lo hi mx=>
  have e:=EM (op:= .Ue size y lo hi mx) rfl h
  subst e
  refine⟨?_,hk⟩
  simp only[AV]at h ⊢
  split at h
  ·split at h
   case h_2=>cases h
   rename_i ho _ _
   simp only[DF hk ho (by simp)]
   (repeat' split at h)<;>simp_all
  ·split at h
   case h_2=>cases h
   rename_i ho _ _
   simp only[DF hk ho (by simp)]
   (repeat' split at h)<;>first|(simp_all;done)|(simp_all;omega)
  ·(repeat' split at h)<;>simp_all
  ·(repeat' split at h)<;>simp_all
  ·cases h
 case Wb zero y q=>
  have e:=EM (op:= .Wb zero y q) rfl h
  subst e
  refine⟨?_,hk⟩
  simp only[AV]at h ⊢
  split at h
  case h_2=>cases h
  split at h
  ·split at h
   case h_2=>cases h
   rename_i ho
   simp only[DF hk ho (by simp)]
   (repeat' split at h)<;>simp_all
  ·simp_all
  ·cases h
 case ZR y q z=>
  simp only[AV]at h ⊢
  split at h
  case h_2=>cases h
  split at h
  case h_2=>cases h
  rename_i ho
  simp only[DF hk ho (by simp)]
  split at h
  case h_2=>cases h
  rename_i hm
  try simp only[hm]
  split at h
  case isFalse=>cases h
  rename_i hc
  simp only[Qa,Qb]at h;obtain⟨rfl,rfl⟩:=h
  obtain⟨g1,g2⟩:=I0 (x:=x) hk ho (by simp) (.map (Jr _ _ (Bm T z) _))
  exact⟨by rw[if_pos hc,g1],g2⟩
 case aC size d s=>
  simp only[AV]at h ⊢
  split at h
  case h_1=>cases h
  rename_i ys hy
  simp only[SV hk hy]
  split at h
  ·split at h
   case h_2=>cases h
   rename_i ho
   simp only[DF hk ho (by simp)]
   split at h
   case isFalse=>cases h
   rename_i hl
   simp only[hl,and_self,if_true]
   split at h
   case h_2=>cases h
   rename_i hx
   try simp only[hx]
   simp only[Qa,Qb]at h;obtain⟨rfl,rfl⟩:=h
   obtain⟨g1,g2⟩:=I0 (x:=x) hk ho (by simp) (.AU _ (Qh _ _ (putAt _ _ _)) false)
   exact⟨by rw[g1],g2⟩
  ·split at h
   case h_2=>cases h
   rename_i ho
   simp only[DF hk ho (by simp)]
   split at h
   case isFalse=>cases h
   rename_i hl
   simp only[Qa,Qb]at h;obtain⟨rfl,rfl⟩:=h
   obtain⟨g1,g2⟩:=I0 (x:=x) hk ho (by simp) (.AU _ (Fh _ _ _) false)
   exact⟨by rw[if_pos hl,g1],g2⟩
  ·cases h
 case clr size zero y=>
  simp only[AV]at h ⊢
  split at h
  case h_2=>cases h
  split at h
  case h_2=>cases h
  rename_i ho
  simp only[DF hk ho (by simp)]
  split at h
  case isFalse=>cases h
  rename_i hl
  simp only[Qa,Qb]at h;obtain⟨rfl,rfl⟩:=h
  obtain⟨g1,g2⟩:=I0 (x:=x) hk ho (by simp) (.AU _ (Fh _ _ _) false)
  exact⟨by rw[if_pos hl,g1],g2⟩
 all_goals (simp only[AV]at h;cases h)
end
def Av.Du:Av->Bool
 | .t _=>true
 | .c (.func _ [])=>true
 | .c v=>v.plain
def Mp:Option Av->Bool
 |none=>true
 |some a=>a.Du
def EH.Du:EH->Bool
 | .new z=>Ah z
 | .box x=>x.Du
 | .EO _ _ z ps=>Ah z&&ps.all λp=>p.2.Du
 | .MM _ _ z l c=>Ah z&&l.Du&&c.Du
 | .Pa=>true
def GS.Du:GS->Bool
 | .mv x=>x.Du
 | .pick c a b=>c.Du&&a.Du&&b.Du
 | .bin _ x y=>x.Du&&y.Du
 | .MG _ x y=>x.Du&&y.Du
 | .cS _ x y=>x.Du&&y.Du
 | .eqs _ _ x y=>x.Du&&y.Du
 | .isNil _ _ x=>x.Du
 | .un _ x=>x.Du
 | .AQ _ x=>x.Du
 | .ld _ x=>x.Du
 | .st _ x y=>x.Du&&y.Du
 | .Pb x=>x.Du
 | .U7 _ _ x i=>x.Du&&i.Du
 | .A9 _ x i=>x.Du&&i.Du
 | .FA x i=>x.Du&&i.Du
 | .NR _ _ _ x i=>x.Du&&i.Du
 | .part _ _ x=>x.Du
 | .len _ x=>x.Du
 | .ext x _=>x.Du
 | .build z ps=>Ah z&&ps.all λp=>p.2.2.Du
 | .EO _ _ z ps=>Ah z&&ps.all λp=>p.2.Du
 | .box x=>x.Du
 | .new z=>Ah z
 | .MM _ _ z l c=>Ah z&&l.Du&&c.Du
 | .app _ _ s x=>s.Du&&x.Du
 | .Yg x=>x.Du
 | .Ya x=>x.Du
 | .Yi _ x lo hi=>x.Du&&Mp lo&&Mp hi
 | .Ue _ x lo hi mx=>x.Du&&Mp lo&&Mp hi&&Mp mx
 | .Km x lo hi=>x.Du&&Mp lo&&Mp hi
 | .WB _ l=>l.all Av.Du
 | .Hp _ x=>x.Du
 | .cU x=>x.Du
 | .eo _ x y=>x.Du&&y.Du
 | .dz x=>x.Du
 | .eP x=>x.Du
 | .call _ l=>l.all Av.Du
 | .Ha x l=>x.Du&&l.all Av.Du
 | .YY _ l=>l.all Av.Du
 | .Pa=>true
 | .Wb z x k=>z.plain&&x.Du&&k.Du
 | .ZR x k v=>x.Du&&k.Du&&v.Du
 | .aC _ d s=>d.Du&&s.Du
 | .clr _ z x=>Ah z&&x.Du
 | .born _ b=>b.Du
end Go.Ax

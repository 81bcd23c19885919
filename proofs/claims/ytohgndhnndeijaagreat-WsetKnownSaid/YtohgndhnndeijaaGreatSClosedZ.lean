/- Closed calls that yield a state, by a run. Conditions: none. -/
import Derived.Test.YtohgndhnndeijaaGreatAxLiftZ
import Derived.Test.YtohgndhnndeijaaGreatMStateZ
set_option linter.all false
open Bool renaming and_eq_true -> Qa
namespace Go.Ax.M
open Go Go.Ax
mutual
theorem Vn{n:Nat}:∀{a:AH},a.plain=true->a.shift n=a
 | .int ..,_=>rfl
 | .bool _,_=>rfl
 | .str _,_=>rfl
 | .lit _,_=>rfl
 | .Dk,_=>rfl
 | .agg l,h=>by simp only[AH.plain]at h;simp only[AH.shift,IG h]
 | .Bj l,h=>by simp only[AH.plain]at h;simp only[AH.shift,IG h]
 | .ptr ..,h=>by simp[AH.plain]at h
 | .slice ..,h=>by simp[AH.plain]at h
 | .acc ..,h=>by simp[AH.plain]at h
 | .Kl ..,h=>by simp[AH.plain]at h
 | .map ..,h=>by simp[AH.plain]at h
 | .M1 ..,h=>by simp[AH.plain]at h
 | .func ..,h=>by simp[AH.plain]at h
 | .iface ..,h=>by simp[AH.plain]at h
theorem IG{n:Nat}:∀{l:List AH},Ah l=true->I2 n l=l
 |[],_=>rfl
 |a::l,h=>by
  simp only[Ah,Qa]at h
  simp only[I2,Vn h.1,IG h.2]
end
def L7:List (List AH)->List (List AH)->Bool
 |[],[]=>true
 |x::l,y::r=>Nv x y&&L7 l r
 |_,_=>false
theorem Ri:∀{l r:List (List AH)},L7 l r=true->l=r
 |[],[],_=>rfl
 |[],_::_,h=>by simp[L7]at h
 |_::_,[],h=>by simp[L7]at h
 |x::l,y::r,h=>by
  simp only[L7,Qa]at h
  rw[Ln _ _ h.1,Ri h.2]
def UC:Option Au->Au->Bool
 |some (.AU s xs false),.AU s' ys false=>Nat.beq s s'&&L7 xs ys
 |_,_=>false
theorem S7{x:Option Au}{y:Au}(h:UC x y=true):x=some y:=by
 unfold UC at h
 split at h
 ·simp only[Qa]at h
  rw[Nat.eq_of_beq_eq_true h.1,Ri h.2]
 ·cases h
def Uv(s:State)(i j:Nat)(f f':Bool):Option (AH×AP)->Bool
 |some (v,H)=>KZ v (BT s i j f f')&&(UC H[i]? (AM s)&&UC H[j]? (AJ s))
 |none=>false
theorem Rp{n:Nat}{xs:List (List AH)}(h:∀x∈xs,∀a∈x,a.plain=true):xs.map (I2 n)=xs:=by
 conv=>rhs;rw[<-List.map_id xs]
 refine List.map_congr_left λx hx=> ?_
 have:Ah x=true:=by
  have hh:=h x hx
  clear h hx
  induction x with
  |nil=>rfl
  |cons a l ih=>simp only[Ah,Qa];exact⟨hh a List.mem_cons_self,ih λb hb=>hh b (List.mem_cons_of_mem _ hb)⟩
 exact IG this
theorem Gh{P:Program}{O0:FuncId->Option Kb}(ht:Kc P O0){fn:FuncId}{args:List AH}(ha:NK args=true){s:State}{loops k i j:Nat}{f f':Bool}(hij:i≠j)(hc:Uv s i j f f' (Wx O0 loops k fn args [])=true){H:AP}{K:AH->AP->Prop}
 (h:K (BT s H.length (H.length+1) f f') (H++[AM s,AJ s])):AF P fn args H K:=by
 unfold Uv at hc
 split at hc
 case h_2=>cases hc
 rename_i v H' hr
 simp only[Qa]at hc
 obtain⟨h1,h2,h3⟩:=hc
 have h1:=Ua _ _ h1
 have h2:=S7 h2
 have h3:=S7 h3
 subst h1
 refine AF.gc (AF.lift ha (λK hK=>(Iy ht loops k fn args [] _ _ hr).2 K hK) ?_)
 have e1:(AM s).shift H.length=AM s:=by simp only[AM,Au.shift,Rp JQ]
 have e2:(AJ s).shift H.length=AJ s:=by simp only[AJ,Au.shift,Rp IH]
 have e3:(BT s i j f f').shift H.length=BT s (H.length+i) (H.length+j) f f':=rfl
 rw[e3]
 exact Gc.state (by rw[List.getElem?_map,h2];simp[e1]) (by rw[List.getElem?_map,h3];simp[e2]) hij h
end Go.Ax.M

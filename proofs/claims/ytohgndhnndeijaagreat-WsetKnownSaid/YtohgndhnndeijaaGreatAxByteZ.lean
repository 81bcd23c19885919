/- internal/stringslite.IndexByte (off the shelf's template of that name), and its answers for our machine. Conditions: none. -/
import Derived.Test.YtohgndhnndeijaaGreatAxTacZ
import Derived.Test.YtohgndhnndeijaaGreatProg
import Derived.Lib.Strings
import Derived.Lib.Slices
import Derived.Lib.Walk
import Derived.Lib.Bytealg
set_option linter.all false
namespace Go.Proofs
set_option maxHeartbeats 1000000 in
set_option maxRecDepth 100000 in
theorem YtohgndhnndeijaaGreat.Ax.Kn(s:ByteArray)(c:Int)(w:World):
 Calls Tryz.prog 249 #[.string s,.int .u8 c] w λe w'=>e= .returned (.int .i64 (Lib.indexByte s.data.toList c.toNat.toUInt8))/\w'=w:=by
 go_enter Tryz.func249,Tryz.ntmps249
 go_wp2
 rw[run_callFunc_extern Tryz.func261 (by kernel_rfl) (by kernel_rfl) (by kernel_rfl) (e:=Extern.BytealgIndexByte.indexByte) (by kernel_rfl),Lib.run_indexByteString]
 simp only[Result.andThen]
 rw[Oper.upon_value]
 go_wp2
 go_ret
 exact⟨rfl,rfl⟩
end Go.Proofs
namespace Go.Proofs.YtohgndhnndeijaaGreat.Ax
open Go Go.Ax
def FK:List AH->Option AH
 |[.str s,.int .u8 c]=>some (.int .i64 (Lib.indexByte s c.toNat.toUInt8))
 |_=>none
theorem E3:aI Tryz.prog 249 FK:=by
 refine⟨by kernel_rfl,λargs v h H K hK=> ?_⟩
 unfold FK at h
 split at h
 ·rename_i s c
  simp only[Option.some.injEq]at h;subst h
  intro B σ w vs hR hV
  cases vs with
  |nil=>cases hV
  |cons x vs=>cases vs with
   |nil=>cases hV.2
   |cons y vs=>cases vs with
    |cons _ _=>cases hV.2.2
    |nil=>
     obtain⟨hx,hy,_⟩:=hV
     simp only[VR]at hx hy
     subst hx hy
     refine(Kn _ _ w).mono ?_
     rintro e w' ⟨rfl,rfl⟩
     exact⟨_,σ,_,H,rfl,hK,hR,by simp[VR],Ext.refl _ _,Kept.refl _ _⟩
 ·cases h
end Go.Proofs.YtohgndhnndeijaaGreat.Ax

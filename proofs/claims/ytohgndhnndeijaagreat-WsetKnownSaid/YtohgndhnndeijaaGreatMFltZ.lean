/- Whole numbers as floats, and as parts of complex numbers, on the abstract machine. Conditions: none. -/
import Derived.Test.YtohgndhnndeijaaGreatZPu
import Derived.KernelRfl
set_option linter.all false
namespace Go.Ax.M
open Go Go.Ax
def cP(n:Int):AH:= .lit (.float .f64 (fl n))
def cxV(a b:Int):AH:= .lit (.complex .f64 (fl a) (fl b))
theorem flo_of{k:IntKind}{n:Int}{y:AH}:wX .ofI (.int k n) y=some (cP n):=rfl
theorem flo_to{n:Int}{y:AH}(h:Sm n):wX (.toI .i64) (cP n) y=some (nS n):=by
 have h1:=toInt_fl h
 have h2:IntKind.min .i64<=n/\n<=IntKind.max .i64:=by
  unfold Sm at h;simp[IntKind.min,IntKind.max,IntKind.bits,IntKind.signed];omega
 simp only[wX,cP,h1,h2,and_self,if_true]
theorem flo_tr{n:Int}{y:AH}(h:Sm n):wX .pT (cP n) y=some (cP n):=by
 obtain⟨s,m,i,e⟩:=notNan_fl h
 have h1:=trunc_fl h
 rw[e]at h1
 simp only[wX,cP,e,h1]
theorem flo_re'{a b:Int}{y:AH}:wX .re (cxV a b) y=some (cP a):=rfl
theorem flo_im'{a b:Int}{y:AH}:wX .im (cxV a b) y=some (cP b):=rfl
theorem flo_cx'{a b:Int}:wX .cx (cP a) (cP b)=some (cxV a b):=rfl
theorem kp{y:AH}:wX .bits (cP 0) y=some (nT 0):=by
 simp only[wX,cP,mf];rfl
theorem cmp_lt{a b:Int}:(some (compare a b)==some Ordering.lt)=decide (a<b):=by
 simp only[compare,compareOfLessAndEq]
 split
 ·simp[*]
 ·split<;>simp[*]
theorem cmp_eq{a b:Int}:(some (compare a b)==some Ordering.eq)=decide (a=b):=by
 simp only[compare,compareOfLessAndEq]
 split
 ·have:¬a=b:=by omega
  simp[*]
 ·split<;>simp[*]
theorem cmp_gt{a b:Int}:(some (compare a b)==some Ordering.gt)=decide (b<a):=by
 simp only[compare,compareOfLessAndEq]
 split
 ·have:¬b<a:=by omega
  simp[*]
 ·split
  ·have:¬b<a:=by omega
   simp[*]
  ·have:b<a:=by omega
   simp[*]
theorem flo_leq{a b:Int}(ha:Sm a)(hb:Sm b):wX (.cmp .leq) (cP a) (cP b)=some (.bool (decide (a<=b))):=by
 simp only[wX,cP,c9 ha hb,iS,cmp_lt,cmp_eq]
 congr 2
 by_cases h:a<=b<;>by_cases h2:a=b<;>by_cases h3:a<b<;>simp[h,h2,h3]<;>omega
theorem flo_geq{a b:Int}(ha:Sm a)(hb:Sm b):wX (.cmp .geq) (cP a) (cP b)=some (.bool (decide (b<=a))):=by
 simp only[wX,cP,c9 ha hb,iS,cmp_gt,cmp_eq]
 congr 2
 by_cases h:b<=a<;>by_cases h2:a=b<;>by_cases h3:b<a<;>simp[h,h2,h3]<;>omega
theorem flo_eql{a b:Int}(ha:Sm a)(hb:Sm b):wX (.cmp .eql) (cP a) (cP b)=some (.bool (decide (a=b))):=by
 simp only[wX,cP,c9 ha hb,iS,cmp_eq]
theorem flo_neq{a b:Int}(ha:Sm a)(hb:Sm b):wX (.cmp .neq) (cP a) (cP b)=some (.bool (!decide (a=b))):=by
 simp only[wX,cP,c9 ha hb,iS]
 rw[show(some (compare a b) !=some Ordering.eq)=!(some (compare a b)==some Ordering.eq) from rfl,cmp_eq]
theorem sm_of{n:Int}(h0:-9007199254740992<n)(h:n<9007199254740992):Sm n:=by unfold Sm;omega
theorem fl_c0:AH.lit (.float .f64 0)=cP 0:=by kernel_rfl
theorem fl_cm:AH.lit (.float .f64 4787326403894837248)=cP 1099511627776:=by kernel_rfl
theorem fl_cn:AH.lit (.float .f64 14010698440749613056)=cP (-1099511627776):=by kernel_rfl
theorem cx_c0:AH.lit (.complex .f64 0 0)=cxV 0 0:=by kernel_rfl
attribute [irreducible] cP cxV
end Go.Ax.M

/- Equations by which a walk steps through a region that draws. Conditions: none. Printed by gendraw.py. -/
import Derived.Test.YtcdihghokoinhaaAxDrawS
namespace Go.Ax
open Go
section
variable {P : Program} {pre : Nat → Nat → Bool} {rest : List (Nat × AOper)} {log : List (Nat × (Heap → Prop))} {K : St → Prop} {T : List AVal} {H : Heap} {j : Nat} {dst : Option Nat}

theorem xd_mv {x : AArg} : xDrawnS P pre ((j, ⟨dst, .mv x, none⟩) :: rest) log K ⟨T, H⟩ = quietX P pre rest log K j dst (.mv x) T H (aStep T H (.mv x)) := xDrawnS_q rfl
theorem xd_pick {c a b : AArg} : xDrawnS P pre ((j, ⟨dst, .pick c a b, none⟩) :: rest) log K ⟨T, H⟩ = quietX P pre rest log K j dst (.pick c a b) T H (aStep T H (.pick c a b)) := xDrawnS_q rfl
theorem xd_bin {op : BinOp} {x y : AArg} : xDrawnS P pre ((j, ⟨dst, .bin op x y, none⟩) :: rest) log K ⟨T, H⟩ = quietX P pre rest log K j dst (.bin op x y) T H (aStep T H (.bin op x y)) := xDrawnS_q rfl
theorem xd_sbin {op : BinOp} {x y : AArg} : xDrawnS P pre ((j, ⟨dst, .sbin op x y, none⟩) :: rest) log K ⟨T, H⟩ = quietX P pre rest log K j dst (.sbin op x y) T H (aStep T H (.sbin op x y)) := xDrawnS_q rfl
theorem xd_eqb {neg : Bool} {x y : AArg} : xDrawnS P pre ((j, ⟨dst, .eqb neg x y, none⟩) :: rest) log K ⟨T, H⟩ = quietX P pre rest log K j dst (.eqb neg x y) T H (aStep T H (.eqb neg x y)) := xDrawnS_q rfl
theorem xd_eqs {neg : Bool} {ks : List Nat} {x y : AArg} : xDrawnS P pre ((j, ⟨dst, .eqs neg ks x y, none⟩) :: rest) log K ⟨T, H⟩ = quietX P pre rest log K j dst (.eqs neg ks x y) T H (aStep T H (.eqs neg ks x y)) := xDrawnS_q rfl
theorem xd_isNil {neg : Bool} {k : Nat} {x : AArg} : xDrawnS P pre ((j, ⟨dst, .isNil neg k x, none⟩) :: rest) log K ⟨T, H⟩ = quietX P pre rest log K j dst (.isNil neg k x) T H (aStep T H (.isNil neg k x)) := xDrawnS_q rfl
theorem xd_un {op : UnOp} {x : AArg} : xDrawnS P pre ((j, ⟨dst, .un op x, none⟩) :: rest) log K ⟨T, H⟩ = quietX P pre rest log K j dst (.un op x) T H (aStep T H (.un op x)) := xDrawnS_q rfl
theorem xd_fld {off : Nat} {x : AArg} : xDrawnS P pre ((j, ⟨dst, .fld off x, none⟩) :: rest) log K ⟨T, H⟩ = quietX P pre rest log K j dst (.fld off x) T H (aStep T H (.fld off x)) := xDrawnS_q rfl
theorem xd_ld {n : Option Nat} {x : AArg} : xDrawnS P pre ((j, ⟨dst, .ld n x, none⟩) :: rest) log K ⟨T, H⟩ = quietX P pre rest log K j dst (.ld n x) T H (aStep T H (.ld n x)) := xDrawnS_q rfl
theorem xd_st {size : Nat} {x y : AArg} : xDrawnS P pre ((j, ⟨dst, .st size x y, none⟩) :: rest) log K ⟨T, H⟩ = xOne P ⟨dst, .st size x y, none⟩ (loudX P pre rest log K j) ⟨T, H⟩ := xDrawnS_l rfl
theorem xd_nck {x : AArg} : xDrawnS P pre ((j, ⟨dst, .nck x, none⟩) :: rest) log K ⟨T, H⟩ = quietX P pre rest log K j dst (.nck x) T H (aStep T H (.nck x)) := xDrawnS_q rfl
theorem xd_ixa {n : Nat} {size : Nat} {x i : AArg} : xDrawnS P pre ((j, ⟨dst, .ixa n size x i, none⟩) :: rest) log K ⟨T, H⟩ = quietX P pre rest log K j dst (.ixa n size x i) T H (aStep T H (.ixa n size x i)) := xDrawnS_q rfl
theorem xd_ixs {size : Nat} {x i : AArg} : xDrawnS P pre ((j, ⟨dst, .ixs size x i, none⟩) :: rest) log K ⟨T, H⟩ = quietX P pre rest log K j dst (.ixs size x i) T H (aStep T H (.ixs size x i)) := xDrawnS_q rfl
theorem xd_ixstr {x i : AArg} : xDrawnS P pre ((j, ⟨dst, .ixstr x i, none⟩) :: rest) log K ⟨T, H⟩ = quietX P pre rest log K j dst (.ixstr x i) T H (aStep T H (.ixstr x i)) := xDrawnS_q rfl
theorem xd_ixagg {n size : Nat} {agg : Bool} {x i : AArg} : xDrawnS P pre ((j, ⟨dst, .ixagg n size agg x i, none⟩) :: rest) log K ⟨T, H⟩ = quietX P pre rest log K j dst (.ixagg n size agg x i) T H (aStep T H (.ixagg n size agg x i)) := xDrawnS_q rfl
theorem xd_part {off : Nat} {n : Option Nat} {x : AArg} : xDrawnS P pre ((j, ⟨dst, .part off n x, none⟩) :: rest) log K ⟨T, H⟩ = quietX P pre rest log K j dst (.part off n x) T H (aStep T H (.part off n x)) := xDrawnS_q rfl
theorem xd_len {str : Bool} {x : AArg} : xDrawnS P pre ((j, ⟨dst, .len str x, none⟩) :: rest) log K ⟨T, H⟩ = quietX P pre rest log K j dst (.len str x) T H (aStep T H (.len str x)) := xDrawnS_q rfl
theorem xd_ext {x : AArg} {i : Nat} : xDrawnS P pre ((j, ⟨dst, .ext x i, none⟩) :: rest) log K ⟨T, H⟩ = quietX P pre rest log K j dst (.ext x i) T H (aStep T H (.ext x i)) := xDrawnS_q rfl
theorem xd_build {zero : List AVal} {parts : List (Nat × Nat × AArg)} : xDrawnS P pre ((j, ⟨dst, .build zero parts, none⟩) :: rest) log K ⟨T, H⟩ = quietX P pre rest log K j dst (.build zero parts) T H (aStep T H (.build zero parts)) := xDrawnS_q rfl
theorem xd_bsl {size n : Nat} {zero : List AVal} {parts : List (Nat × AArg)} : xDrawnS P pre ((j, ⟨dst, .bsl size n zero parts, none⟩) :: rest) log K ⟨T, H⟩ = xOne P ⟨dst, .bsl size n zero parts, none⟩ (loudX P pre rest log K j) ⟨T, H⟩ := xDrawnS_l rfl
theorem xd_box {x : AArg} : xDrawnS P pre ((j, ⟨dst, .box x, none⟩) :: rest) log K ⟨T, H⟩ = xOne P ⟨dst, .box x, none⟩ (loudX P pre rest log K j) ⟨T, H⟩ := xDrawnS_l rfl
theorem xd_new {zero : List AVal} : xDrawnS P pre ((j, ⟨dst, .new zero, none⟩) :: rest) log K ⟨T, H⟩ = xOne P ⟨dst, .new zero, none⟩ (loudX P pre rest log K j) ⟨T, H⟩ := xDrawnS_l rfl
theorem xd_mks {size bytes : Nat} {zero : List AVal} {l c : AArg} : xDrawnS P pre ((j, ⟨dst, .mks size bytes zero l c, none⟩) :: rest) log K ⟨T, H⟩ = xOne P ⟨dst, .mks size bytes zero l c, none⟩ (loudX P pre rest log K j) ⟨T, H⟩ := xDrawnS_l rfl
theorem xd_app {size bytes : Nat} {s x : AArg} : xDrawnS P pre ((j, ⟨dst, .app size bytes s x, none⟩) :: rest) log K ⟨T, H⟩ = xOne P ⟨dst, .app size bytes s x, none⟩ (loudX P pre rest log K j) ⟨T, H⟩ := xDrawnS_l rfl
theorem xd_rng {x : AArg} : xDrawnS P pre ((j, ⟨dst, .rng x, none⟩) :: rest) log K ⟨T, H⟩ = xOne P ⟨dst, .rng x, none⟩ (loudX P pre rest log K j) ⟨T, H⟩ := xDrawnS_l rfl
theorem xd_nxt {x : AArg} : xDrawnS P pre ((j, ⟨dst, .nxt x, none⟩) :: rest) log K ⟨T, H⟩ = xOne P ⟨dst, .nxt x, none⟩ (loudX P pre rest log K j) ⟨T, H⟩ := xDrawnS_l rfl
theorem xd_sla {n : Nat} {x : AArg} {lo hi : Option AArg} : xDrawnS P pre ((j, ⟨dst, .sla n x lo hi, none⟩) :: rest) log K ⟨T, H⟩ = quietX P pre rest log K j dst (.sla n x lo hi) T H (aStep T H (.sla n x lo hi)) := xDrawnS_q rfl
theorem xd_sls {size : Nat} {x : AArg} {lo hi mx : Option AArg} : xDrawnS P pre ((j, ⟨dst, .sls size x lo hi mx, none⟩) :: rest) log K ⟨T, H⟩ = quietX P pre rest log K j dst (.sls size x lo hi mx) T H (aStep T H (.sls size x lo hi mx)) := xDrawnS_q rfl
theorem xd_sstr {x : AArg} {lo hi : Option AArg} : xDrawnS P pre ((j, ⟨dst, .sstr x lo hi, none⟩) :: rest) log K ⟨T, H⟩ = quietX P pre rest log K j dst (.sstr x lo hi) T H (aStep T H (.sstr x lo hi)) := xDrawnS_q rfl
theorem xd_mxn {mx : Bool} {l : List AArg} : xDrawnS P pre ((j, ⟨dst, .mxn mx l, none⟩) :: rest) log K ⟨T, H⟩ = quietX P pre rest log K j dst (.mxn mx l) T H (aStep T H (.mxn mx l)) := xDrawnS_q rfl
theorem xd_cvt {k : IntKind} {x : AArg} : xDrawnS P pre ((j, ⟨dst, .cvt k x, none⟩) :: rest) log K ⟨T, H⟩ = quietX P pre rest log K j dst (.cvt k x) T H (aStep T H (.cvt k x)) := xDrawnS_q rfl
theorem xd_i2s {x : AArg} : xDrawnS P pre ((j, ⟨dst, .i2s x, none⟩) :: rest) log K ⟨T, H⟩ = quietX P pre rest log K j dst (.i2s x) T H (aStep T H (.i2s x)) := xDrawnS_q rfl
theorem xd_b2s {x : AArg} : xDrawnS P pre ((j, ⟨dst, .b2s x, none⟩) :: rest) log K ⟨T, H⟩ = xOne P ⟨dst, .b2s x, none⟩ (loudX P pre rest log K j) ⟨T, H⟩ := xDrawnS_l rfl
theorem xd_s2b {x : AArg} : xDrawnS P pre ((j, ⟨dst, .s2b x, none⟩) :: rest) log K ⟨T, H⟩ = xOne P ⟨dst, .s2b x, none⟩ (loudX P pre rest log K j) ⟨T, H⟩ := xDrawnS_l rfl
theorem xd_call {f : FuncId} {args : List AArg} : xDrawnS P pre ((j, ⟨dst, .call f args, none⟩) :: rest) log K ⟨T, H⟩ = xOne P ⟨dst, .call f args, none⟩ (loudX P pre rest log K j) ⟨T, H⟩ := xDrawnS_l rfl
end
end Go.Ax

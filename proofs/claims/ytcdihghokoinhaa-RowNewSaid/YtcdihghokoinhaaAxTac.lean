/- Equations by which a walk steps, one operation at a time. Conditions: none. Printed by gentac.py. -/
import Derived.Test.YtcdihghokoinhaaAxRun
namespace Go.Ax
open Go
set_option linter.unusedVariables false

/-- On behind a call. -/
def contX (K : St → Prop) (dst : Option Nat) (T : List AVal) (v : AVal) (H : Heap) : Prop := K ⟨setDst T dst v, H⟩

/-- On behind another operation. -/
def stepX (r : Option (AVal × Heap)) (K : St → Prop) (dst : Option Nat) (T : List AVal) : Prop := match r with
  | some (v, H) => K ⟨setDst T dst v, H⟩
  | none => False

section
variable {P : Program} {n0 : Nat} {Q : Exit → St → Prop} {K : St → Prop} {T : List AVal} {H : Heap} {s X : St} {dst : Option Nat} {g : Option (Nat × Bool)} {l : List AOper}

theorem contX_put {v : AVal} : contX K dst T v H = K ⟨setDst T dst v, H⟩ := propext Iff.rfl
theorem stepX_some {v : AVal} : stepX (some (v, H)) K dst T = K ⟨setDst T dst v, H⟩ := propext Iff.rfl
theorem wpx_skip : wpx P n0 .skip Q s = Q .normal s := propext Iff.rfl
theorem wpx_region : wpx P n0 (.region l) Q s = xOps P l (Q .normal) s := propext Iff.rfl
theorem wpx_drawn {aft : List (List Nat)} {ord : List Nat} : wpx P n0 (.drawn l aft ord) Q s = xDrawn P l (preOf (befs aft [])) ord [] (Q .normal) s := propext Iff.rfl
theorem wpx_seq {a b : ACode} : wpx P n0 (.seq a b) Q s = wpx P n0 a (thenX (wpx P n0 b Q) Q) s := propext Iff.rfl
theorem wpx_block {i : Nat} {c : ACode} : wpx P n0 (.block i c) Q s = wpx P n0 c (blockX i Q) s := propext Iff.rfl
theorem wpx_loop {c : ACode} : wpx P n0 (.loop c) Q s = ALoop P n0 c Q s := propext Iff.rfl
theorem wpx_exit {i : Nat} : wpx P n0 (.exit i) Q s = Q (.exit i) s := propext Iff.rfl
theorem wpx_ret : wpx P n0 .ret Q s = Q .ret s := propext Iff.rfl
theorem wpx_t {c : AArg} {t e : ACode} (h : aget T c = .bool true) : wpx P n0 (.cond c t e) Q ⟨T, H⟩ = wpx P n0 t Q ⟨T, H⟩ := by simp [wpx, h]
theorem wpx_f {c : AArg} {t e : ACode} (h : aget T c = .bool false) : wpx P n0 (.cond c t e) Q ⟨T, H⟩ = wpx P n0 e Q ⟨T, H⟩ := by simp [wpx, h]
theorem wpx_if {c : AArg} {t e : ACode} {b : Bool} (h : aget T c = .bool b) (ht : b = true → wpx P n0 t Q ⟨T, H⟩) (he : b = false → wpx P n0 e Q ⟨T, H⟩) : wpx P n0 (.cond c t e) Q ⟨T, H⟩ := by simp only [wpx, h]; exact ⟨ht, he⟩
theorem thenX_n {R : Exit → St → Prop} : thenX K R .normal s = K s := propext Iff.rfl
theorem thenX_e {R : Exit → St → Prop} {i : Nat} : thenX K R (.exit i) s = R (.exit i) s := propext Iff.rfl
theorem thenX_r {R : Exit → St → Prop} : thenX K R .ret s = R .ret s := propext Iff.rfl
theorem blockX_n {i : Nat} : blockX i Q .normal s = Q .normal s := propext Iff.rfl
theorem blockX_r {i : Nat} : blockX i Q .ret s = Q .ret s := propext Iff.rfl
theorem blockX_e {i j : Nat} : blockX i Q (.exit j) s = if j = i then Q .normal s else Q (.exit j) s := propext Iff.rfl
theorem xOps_nil : xOps P [] K s = K s := propext Iff.rfl
theorem xOps_go {op : AOp} : xOps P (⟨dst, op, none⟩ :: l) K s = xOne P ⟨dst, op, none⟩ (xOps P l K) s := propext Iff.rfl
theorem xOps_tt {op : AOp} {d : Nat} (h : T.getD d .top = .bool true) : xOps P (⟨dst, op, some (d, true)⟩ :: l) K ⟨T, H⟩ = xOne P ⟨dst, op, none⟩ (xOps P l K) ⟨T, H⟩ := by simp only [xOps, xOp, xOne, aget, h]; simp
theorem xOps_ff {op : AOp} {d : Nat} (h : T.getD d .top = .bool false) : xOps P (⟨dst, op, some (d, false)⟩ :: l) K ⟨T, H⟩ = xOne P ⟨dst, op, none⟩ (xOps P l K) ⟨T, H⟩ := by simp only [xOps, xOp, xOne, aget, h]; simp
theorem xOps_tf {op : AOp} {d : Nat} (h : T.getD d .top = .bool true) : xOps P (⟨dst, op, some (d, false)⟩ :: l) K ⟨T, H⟩ = xOps P l K ⟨setDst T dst .top, H⟩ := by simp only [xOps, xOp, aget, h]; simp
theorem xOps_ft {op : AOp} {d : Nat} (h : T.getD d .top = .bool false) : xOps P (⟨dst, op, some (d, true)⟩ :: l) K ⟨T, H⟩ = xOps P l K ⟨setDst T dst .top, H⟩ := by simp only [xOps, xOp, aget, h]; simp
theorem bodyX_n {rs : List ARes} {R : AVal → Heap → Prop} {vs : List AVal} (h : aRes ⟨T, H⟩ rs = some vs) : bodyX rs R .normal ⟨T, H⟩ = R (aTuple vs) H := by simp [bodyX, h]
theorem bodyX_r {rs : List ARes} {R : AVal → Heap → Prop} {vs : List AVal} (h : aRes ⟨T, H⟩ rs = some vs) : bodyX rs R .ret ⟨T, H⟩ = R (aTuple vs) H := by simp [bodyX, h]
theorem setDst_n {v : AVal} : setDst T none v = T := rfl
theorem setDst_s {d : Nat} {v : AVal} : setDst T (some d) v = T.set d v := rfl
theorem aget_t {i : Nat} : aget T (.t i) = T.getD i .top := rfl
theorem aget_c {v : AVal} : aget T (.c v) = v := rfl
theorem xOne_mv {x : AArg} : xOne P ⟨dst, .mv x, g⟩ K X = stepX (aStep X.T X.H (.mv x)) K dst X.T := propext Iff.rfl
theorem xOne_pick {c a b : AArg} : xOne P ⟨dst, .pick c a b, g⟩ K X = stepX (aStep X.T X.H (.pick c a b)) K dst X.T := propext Iff.rfl
theorem xOne_bin {op : BinOp} {x y : AArg} : xOne P ⟨dst, .bin op x y, g⟩ K X = stepX (aStep X.T X.H (.bin op x y)) K dst X.T := propext Iff.rfl
theorem xOne_sbin {op : BinOp} {x y : AArg} : xOne P ⟨dst, .sbin op x y, g⟩ K X = stepX (aStep X.T X.H (.sbin op x y)) K dst X.T := propext Iff.rfl
theorem xOne_eqb {neg : Bool} {x y : AArg} : xOne P ⟨dst, .eqb neg x y, g⟩ K X = stepX (aStep X.T X.H (.eqb neg x y)) K dst X.T := propext Iff.rfl
theorem xOne_eqs {neg : Bool} {ks : List Nat} {x y : AArg} : xOne P ⟨dst, .eqs neg ks x y, g⟩ K X = stepX (aStep X.T X.H (.eqs neg ks x y)) K dst X.T := propext Iff.rfl
theorem xOne_isNil {neg : Bool} {k : Nat} {x : AArg} : xOne P ⟨dst, .isNil neg k x, g⟩ K X = stepX (aStep X.T X.H (.isNil neg k x)) K dst X.T := propext Iff.rfl
theorem xOne_un {op : UnOp} {x : AArg} : xOne P ⟨dst, .un op x, g⟩ K X = stepX (aStep X.T X.H (.un op x)) K dst X.T := propext Iff.rfl
theorem xOne_fld {off : Nat} {x : AArg} : xOne P ⟨dst, .fld off x, g⟩ K X = stepX (aStep X.T X.H (.fld off x)) K dst X.T := propext Iff.rfl
theorem xOne_ld {n : Option Nat} {x : AArg} : xOne P ⟨dst, .ld n x, g⟩ K X = stepX (aStep X.T X.H (.ld n x)) K dst X.T := propext Iff.rfl
theorem xOne_st {size : Nat} {x y : AArg} : xOne P ⟨dst, .st size x y, g⟩ K X = stepX (aStep X.T X.H (.st size x y)) K dst X.T := propext Iff.rfl
theorem xOne_nck {x : AArg} : xOne P ⟨dst, .nck x, g⟩ K X = stepX (aStep X.T X.H (.nck x)) K dst X.T := propext Iff.rfl
theorem xOne_ixa {n : Nat} {size : Nat} {x i : AArg} : xOne P ⟨dst, .ixa n size x i, g⟩ K X = stepX (aStep X.T X.H (.ixa n size x i)) K dst X.T := propext Iff.rfl
theorem xOne_ixs {size : Nat} {x i : AArg} : xOne P ⟨dst, .ixs size x i, g⟩ K X = stepX (aStep X.T X.H (.ixs size x i)) K dst X.T := propext Iff.rfl
theorem xOne_ixstr {x i : AArg} : xOne P ⟨dst, .ixstr x i, g⟩ K X = stepX (aStep X.T X.H (.ixstr x i)) K dst X.T := propext Iff.rfl
theorem xOne_ixagg {n size : Nat} {agg : Bool} {x i : AArg} : xOne P ⟨dst, .ixagg n size agg x i, g⟩ K X = stepX (aStep X.T X.H (.ixagg n size agg x i)) K dst X.T := propext Iff.rfl
theorem xOne_part {off : Nat} {n : Option Nat} {x : AArg} : xOne P ⟨dst, .part off n x, g⟩ K X = stepX (aStep X.T X.H (.part off n x)) K dst X.T := propext Iff.rfl
theorem xOne_len {str : Bool} {x : AArg} : xOne P ⟨dst, .len str x, g⟩ K X = stepX (aStep X.T X.H (.len str x)) K dst X.T := propext Iff.rfl
theorem xOne_ext {x : AArg} {i : Nat} : xOne P ⟨dst, .ext x i, g⟩ K X = stepX (aStep X.T X.H (.ext x i)) K dst X.T := propext Iff.rfl
theorem xOne_build {zero : List AVal} {parts : List (Nat × Nat × AArg)} : xOne P ⟨dst, .build zero parts, g⟩ K X = stepX (aStep X.T X.H (.build zero parts)) K dst X.T := propext Iff.rfl
theorem xOne_bsl {size n : Nat} {zero : List AVal} {parts : List (Nat × AArg)} : xOne P ⟨dst, .bsl size n zero parts, g⟩ K X = stepX (aStep X.T X.H (.bsl size n zero parts)) K dst X.T := propext Iff.rfl
theorem xOne_box {x : AArg} : xOne P ⟨dst, .box x, g⟩ K X = stepX (aStep X.T X.H (.box x)) K dst X.T := propext Iff.rfl
theorem xOne_new {zero : List AVal} : xOne P ⟨dst, .new zero, g⟩ K X = stepX (aStep X.T X.H (.new zero)) K dst X.T := propext Iff.rfl
theorem xOne_mks {size bytes : Nat} {zero : List AVal} {l c : AArg} : xOne P ⟨dst, .mks size bytes zero l c, g⟩ K X = stepX (aStep X.T X.H (.mks size bytes zero l c)) K dst X.T := propext Iff.rfl
theorem xOne_app {size bytes : Nat} {s x : AArg} : xOne P ⟨dst, .app size bytes s x, g⟩ K X = stepX (aStep X.T X.H (.app size bytes s x)) K dst X.T := propext Iff.rfl
theorem xOne_rng {x : AArg} : xOne P ⟨dst, .rng x, g⟩ K X = stepX (aStep X.T X.H (.rng x)) K dst X.T := propext Iff.rfl
theorem xOne_nxt {x : AArg} : xOne P ⟨dst, .nxt x, g⟩ K X = stepX (aStep X.T X.H (.nxt x)) K dst X.T := propext Iff.rfl
theorem xOne_sla {n : Nat} {x : AArg} {lo hi : Option AArg} : xOne P ⟨dst, .sla n x lo hi, g⟩ K X = stepX (aStep X.T X.H (.sla n x lo hi)) K dst X.T := propext Iff.rfl
theorem xOne_sls {size : Nat} {x : AArg} {lo hi mx : Option AArg} : xOne P ⟨dst, .sls size x lo hi mx, g⟩ K X = stepX (aStep X.T X.H (.sls size x lo hi mx)) K dst X.T := propext Iff.rfl
theorem xOne_sstr {x : AArg} {lo hi : Option AArg} : xOne P ⟨dst, .sstr x lo hi, g⟩ K X = stepX (aStep X.T X.H (.sstr x lo hi)) K dst X.T := propext Iff.rfl
theorem xOne_mxn {mx : Bool} {l : List AArg} : xOne P ⟨dst, .mxn mx l, g⟩ K X = stepX (aStep X.T X.H (.mxn mx l)) K dst X.T := propext Iff.rfl
theorem xOne_cvt {k : IntKind} {x : AArg} : xOne P ⟨dst, .cvt k x, g⟩ K X = stepX (aStep X.T X.H (.cvt k x)) K dst X.T := propext Iff.rfl
theorem xOne_i2s {x : AArg} : xOne P ⟨dst, .i2s x, g⟩ K X = stepX (aStep X.T X.H (.i2s x)) K dst X.T := propext Iff.rfl
theorem xOne_b2s {x : AArg} : xOne P ⟨dst, .b2s x, g⟩ K X = stepX (aStep X.T X.H (.b2s x)) K dst X.T := propext Iff.rfl
theorem xOne_s2b {x : AArg} : xOne P ⟨dst, .s2b x, g⟩ K X = stepX (aStep X.T X.H (.s2b x)) K dst X.T := propext Iff.rfl
theorem xOne_call {f : FuncId} {args : List AArg} : xOne P ⟨dst, .call f args, g⟩ K X = ACalls P f (args.map (aget X.T)) X.H (contX K dst X.T) := propext Iff.rfl
theorem quiet_mv {x : AArg} : (AOp.mv x).quiet = true := rfl
theorem quiet_pick {c a b : AArg} : (AOp.pick c a b).quiet = true := rfl
theorem quiet_bin {op : BinOp} {x y : AArg} : (AOp.bin op x y).quiet = true := rfl
theorem quiet_sbin {op : BinOp} {x y : AArg} : (AOp.sbin op x y).quiet = true := rfl
theorem quiet_eqb {neg : Bool} {x y : AArg} : (AOp.eqb neg x y).quiet = true := rfl
theorem quiet_eqs {neg : Bool} {ks : List Nat} {x y : AArg} : (AOp.eqs neg ks x y).quiet = true := rfl
theorem quiet_isNil {neg : Bool} {k : Nat} {x : AArg} : (AOp.isNil neg k x).quiet = true := rfl
theorem quiet_un {op : UnOp} {x : AArg} : (AOp.un op x).quiet = true := rfl
theorem quiet_fld {off : Nat} {x : AArg} : (AOp.fld off x).quiet = true := rfl
theorem quiet_ld {n : Option Nat} {x : AArg} : (AOp.ld n x).quiet = true := rfl
theorem quiet_st {size : Nat} {x y : AArg} : (AOp.st size x y).quiet = false := rfl
theorem quiet_nck {x : AArg} : (AOp.nck x).quiet = true := rfl
theorem quiet_ixa {n : Nat} {size : Nat} {x i : AArg} : (AOp.ixa n size x i).quiet = true := rfl
theorem quiet_ixs {size : Nat} {x i : AArg} : (AOp.ixs size x i).quiet = true := rfl
theorem quiet_ixstr {x i : AArg} : (AOp.ixstr x i).quiet = true := rfl
theorem quiet_ixagg {n size : Nat} {agg : Bool} {x i : AArg} : (AOp.ixagg n size agg x i).quiet = true := rfl
theorem quiet_part {off : Nat} {n : Option Nat} {x : AArg} : (AOp.part off n x).quiet = true := rfl
theorem quiet_len {str : Bool} {x : AArg} : (AOp.len str x).quiet = true := rfl
theorem quiet_ext {x : AArg} {i : Nat} : (AOp.ext x i).quiet = true := rfl
theorem quiet_build {zero : List AVal} {parts : List (Nat × Nat × AArg)} : (AOp.build zero parts).quiet = true := rfl
theorem quiet_bsl {size n : Nat} {zero : List AVal} {parts : List (Nat × AArg)} : (AOp.bsl size n zero parts).quiet = false := rfl
theorem quiet_box {x : AArg} : (AOp.box x).quiet = false := rfl
theorem quiet_new {zero : List AVal} : (AOp.new zero).quiet = false := rfl
theorem quiet_mks {size bytes : Nat} {zero : List AVal} {l c : AArg} : (AOp.mks size bytes zero l c).quiet = false := rfl
theorem quiet_app {size bytes : Nat} {s x : AArg} : (AOp.app size bytes s x).quiet = false := rfl
theorem quiet_rng {x : AArg} : (AOp.rng x).quiet = false := rfl
theorem quiet_nxt {x : AArg} : (AOp.nxt x).quiet = false := rfl
theorem quiet_sla {n : Nat} {x : AArg} {lo hi : Option AArg} : (AOp.sla n x lo hi).quiet = true := rfl
theorem quiet_sls {size : Nat} {x : AArg} {lo hi mx : Option AArg} : (AOp.sls size x lo hi mx).quiet = true := rfl
theorem quiet_sstr {x : AArg} {lo hi : Option AArg} : (AOp.sstr x lo hi).quiet = true := rfl
theorem quiet_mxn {mx : Bool} {l : List AArg} : (AOp.mxn mx l).quiet = true := rfl
theorem quiet_cvt {k : IntKind} {x : AArg} : (AOp.cvt k x).quiet = true := rfl
theorem quiet_i2s {x : AArg} : (AOp.i2s x).quiet = true := rfl
theorem quiet_b2s {x : AArg} : (AOp.b2s x).quiet = false := rfl
theorem quiet_s2b {x : AArg} : (AOp.s2b x).quiet = false := rfl
theorem quiet_call {f : FuncId} {args : List AArg} : (AOp.call f args).quiet = false := rfl
end
end Go.Ax

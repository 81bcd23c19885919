/- Equations by which a walk steps, one operation at a time. Conditions: none. Printed by gentac.py. -/
import Derived.Test.YtlaipllgmddkiaaGreatAxRunZ
import Derived.Test.YtlaipllgmddkiaaGreatAxGcZ
import Derived.Attr
set_option linter.all false
namespace Go.Ax
open Go
def tget : List (Nat × AVal) → Nat → AVal
 | [], _ => .top
 | (d, v) :: l, t => if d = t then v else tget l t
def mkT (n : Nat) (l : List (Nat × AVal)) : List AVal := (List.range n).map (tget l)
def argL : List AVal → Nat → List (Nat × AVal)
 | [], _ => []
 | a :: l, k => (k, a) :: argL l (k + 1)
theorem mkT_getD (n : Nat) (l : List (Nat × AVal)) (t : Nat) : (mkT n l).getD t .top = if t < n then tget l t else .top := by
 by_cases h : t < n <;> simp [mkT, List.getD, h]
@[go_sem] theorem tget_nil {t : Nat} : tget [] t = .top := rfl
@[go_sem] theorem tget_hit {t : Nat} {v : AVal} {l : List (Nat × AVal)} : tget ((t, v) :: l) t = v := by simp [tget]
@[go_sem] theorem tget_miss {d t : Nat} {v : AVal} {l : List (Nat × AVal)} (h : (d = t) = False) : tget ((d, v) :: l) t = tget l t := by simp [tget, h]
@[go_sem] theorem mkT_get {n t : Nat} {l : List (Nat × AVal)} (h : (t < n) = True) : (mkT n l).getD t .top = tget l t := by rw [mkT_getD]; simp [h]
@[go_sem] theorem mkT_set {n d : Nat} {v : AVal} {l : List (Nat × AVal)} : (mkT n l).set d v = mkT n ((d, v) :: l) := by
 apply List.ext_getElem?
 intro i
 rw [List.getElem?_set]
 simp only [mkT, List.length_map, List.length_range, List.getElem?_map]
 by_cases hd : d = i
 ·subst hd
  by_cases hl : d < n
  ·simp [hl, tget]
  ·simp [hl]
 ·by_cases hl : i < n <;> simp [hl, hd, tget]
@[go_sem] theorem argL_nil {k : Nat} : argL [] k = [] := rfl
@[go_sem] theorem argL_cons {k : Nat} {a : AVal} {l : List AVal} : argL (a :: l) k = (k, a) :: argL l (k + 1) := rfl
theorem tget_argL : ∀ (l : List AVal) (k t : Nat), tget (argL l k) t = if k ≤ t then l.getD (t - k) .top else .top
 | [], k, t => by simp [argL, tget]
 | a :: l, k, t => by
  rw [argL, tget, tget_argL l (k + 1) t]
  by_cases h : k = t
  ·subst h; simp
  ·rw [if_neg h]
   by_cases h1 : k ≤ t
   ·rw [if_pos (by omega), if_pos h1, show t - k = (t - (k + 1)) + 1 by omega]; simp
   ·rw [if_neg (by omega), if_neg h1]
theorem ACalls.into {P : Program} {f : FuncId} {c : ACode} {nt : Nat} {rs : List ARes} (hok : fnOk P f c nt rs = true) {args : List AVal} {H : Heap} {K : AVal → Heap → Prop} (hl : args.length ≤ nt)
 (h : wpx P H.length c (bodyX rs K) ⟨mkT nt (argL args 0), H⟩) : ACalls P f args H K := by
 refine ACalls.enter hok ?_
 have : args ++ List.replicate (nt - args.length) .top = mkT nt (argL args 0) := by
  apply List.ext_getElem?
  intro i
  simp only [mkT, List.getElem?_map]
  by_cases hi : i < nt
  ·rw [List.getElem?_range hi, Option.map_some, tget_argL, if_pos (Nat.zero_le _), Nat.sub_zero, List.getElem?_append]
   split
   ·rename_i h1; simp [List.getD, h1]
   ·rename_i h1; rw [List.getElem?_replicate, if_pos (by omega)]; simp [List.getD, List.getElem?_eq_none (by omega : args.length ≤ i)]
  ·rw [List.getElem?_eq_none (by simp; omega), List.getElem?_eq_none (by simp; omega)]; rfl
 rw [this]; exact h
theorem weaker_mkT {n : Nat} {l l' : List (Nat × AVal)} (h : ∀ p ∈ l', tget l p.1 = p.2 ∨ p.2 = .top) : weaker (mkT n l) (mkT n l') := by
 have key : ∀ t, tget l' t = .top ∨ tget l t = tget l' t := by
  intro t
  induction l' with
  | nil => exact .inl rfl
  | cons p l' ih =>
   obtain ⟨d, v⟩ := p
   by_cases hd : d = t
   ·subst hd
    have := h (d, v) List.mem_cons_self
    simp only at this
    rw [tget_hit]
    exact this.symm
   ·rw [tget, if_neg hd]
    exact ih fun p hp => h p (List.mem_cons_of_mem _ hp)
 have : ∀ (L : List Nat), weaker (L.map (tget l)) (L.map (tget l')) := by
  intro L
  induction L with
  | nil => simp [weaker]
  | cons t L ih =>
   simp only [List.map_cons, weaker]
   exact ⟨(key t).imp id fun h => h.symm, ih⟩
 exact this _
theorem ALoop.to {P : Program} {n0 : Nat} {c : ACode} {Q : Exit → St → Prop} {n : Nat} {l l' : List (Nat × AVal)} {H : Heap} (hw : ∀ p ∈ l', tget l p.1 = p.2 ∨ p.2 = .top) (h : ALoop P n0 c Q ⟨mkT n l', H⟩) : ALoop P n0 c Q ⟨mkT n l, H⟩ :=
 ALoop.weaken (weaker_mkT hw) h
def contX (K : St → Prop) (dst : Option Nat) (T : List AVal) (v : AVal) (H : Heap) : Prop := K ⟨setDst T dst v, H⟩
def stepX (r : Option (AVal × Heap)) (K : St → Prop) (dst : Option Nat) (T : List AVal) : Prop := match r with
 | some (v, H) => K ⟨setDst T dst v, H⟩
 | none => False
def condX (P : Program) (n0 : Nat) (Q : Exit → St → Prop) (s : St) (t e : ACode) (a : AVal) : Prop := match a with
 | .bool b => (b = true → wpx P n0 t Q s) ∧ (b = false → wpx P n0 e Q s)
 | _ => False
def guardX (P : Program) (dst : Option Nat) (op : AOp) (l : List AOper) (K : St → Prop) (T : List AVal) (H : Heap) (b : Bool) (a : AVal) : Prop := match gof a with
 | some g => (g = some b → xOne P ⟨dst, op, none⟩ (xOps P l K) ⟨T, H⟩) ∧ (g ≠ some b → xOps P l K ⟨setDst T dst skipV, H⟩)
 | none => False
def guardD (P : Program) (n0 : Nat) (pre : Nat → Nat → Bool) (j : Nat) (dst : Option Nat) (op : AOp) (rest : List (Nat × AOper)) (log : PLog) (K : St → Prop) (T : List AVal) (H : Heap) (b : Bool) (a : AVal) : Prop := match gof a with
 | some g => (g = some b → xDrawn P n0 pre ((j, ⟨dst, op, none⟩) :: rest) log K ⟨T, H⟩) ∧ (g ≠ some b → xDrawn P n0 pre rest log K ⟨setDst T dst skipV, H⟩)
 | none => False
section
variable {P : Program} {n0 : Nat} {Q : Exit → St → Prop} {s : St} {t e : ACode} {dst : Option Nat} {op : AOp} {l : List AOper} {K : St → Prop} {T : List AVal} {H : Heap} {pre : Nat → Nat → Bool} {rest : List (Nat × AOper)} {log : PLog} {j : Nat}
@[go_sem] theorem condX_t : condX P n0 Q s t e (.bool true) = wpx P n0 t Q s := by simp [condX]
@[go_sem] theorem condX_f : condX P n0 Q s t e (.bool false) = wpx P n0 e Q s := by simp [condX]
theorem condX_if {b : Bool} (hp : b = true → wpx P n0 t Q s) (hq : b = false → wpx P n0 e Q s) : condX P n0 Q s t e (.bool b) := ⟨hp, hq⟩
@[go_sem] theorem guardX_tt : guardX P dst op l K T H true (.bool true) = (xOne P ⟨dst, op, none⟩ (xOps P l K) ⟨T, H⟩) := by simp [guardX, gof]
@[go_sem] theorem guardX_ff : guardX P dst op l K T H false (.bool false) = (xOne P ⟨dst, op, none⟩ (xOps P l K) ⟨T, H⟩) := by simp [guardX, gof]
@[go_sem] theorem guardX_tf : guardX P dst op l K T H false (.bool true) = (xOps P l K ⟨setDst T dst skipV, H⟩) := by simp [guardX, gof]
@[go_sem] theorem guardX_ft : guardX P dst op l K T H true (.bool false) = (xOps P l K ⟨setDst T dst skipV, H⟩) := by simp [guardX, gof]
@[go_sem] theorem guardX_skip {b : Bool} : guardX P dst op l K T H b (.tup []) = xOps P l K ⟨setDst T dst skipV, H⟩ := by simp [guardX, gof]
theorem guardX_it {g : Bool} (hp : g = true → xOne P ⟨dst, op, none⟩ (xOps P l K) ⟨T, H⟩) (hq : g = false → xOps P l K ⟨setDst T dst skipV, H⟩) : guardX P dst op l K T H true (.bool g) := ⟨fun h => hp (by simpa using h), fun h => hq (by simpa using h)⟩
theorem guardX_fi {g : Bool} (hp : g = false → xOne P ⟨dst, op, none⟩ (xOps P l K) ⟨T, H⟩) (hq : g = true → xOps P l K ⟨setDst T dst skipV, H⟩) : guardX P dst op l K T H false (.bool g) := ⟨fun h => hp (by simpa using h), fun h => hq (by simpa using h)⟩
theorem guardX_t {r : Prop} [Decidable r] (hp : r → xOne P ⟨dst, op, none⟩ (xOps P l K) ⟨T, H⟩) (hq : ¬ r → xOps P l K ⟨setDst T dst skipV, H⟩) : guardX P dst op l K T H true (.bool (decide r)) := ⟨fun h => hp (by simpa using h), fun h => hq (by simpa using h)⟩
@[go_sem] theorem guardD_tt : guardD P n0 pre j dst op rest log K T H true (.bool true) = (xDrawn P n0 pre ((j, ⟨dst, op, none⟩) :: rest) log K ⟨T, H⟩) := by simp [guardD, gof]
@[go_sem] theorem guardD_ff : guardD P n0 pre j dst op rest log K T H false (.bool false) = (xDrawn P n0 pre ((j, ⟨dst, op, none⟩) :: rest) log K ⟨T, H⟩) := by simp [guardD, gof]
@[go_sem] theorem guardD_tf : guardD P n0 pre j dst op rest log K T H false (.bool true) = (xDrawn P n0 pre rest log K ⟨setDst T dst skipV, H⟩) := by simp [guardD, gof]
@[go_sem] theorem guardD_ft : guardD P n0 pre j dst op rest log K T H true (.bool false) = (xDrawn P n0 pre rest log K ⟨setDst T dst skipV, H⟩) := by simp [guardD, gof]
@[go_sem] theorem guardD_skip {b : Bool} : guardD P n0 pre j dst op rest log K T H b (.tup []) = xDrawn P n0 pre rest log K ⟨setDst T dst skipV, H⟩ := by simp [guardD, gof]
theorem guardD_it {g : Bool} (hp : g = true → xDrawn P n0 pre ((j, ⟨dst, op, none⟩) :: rest) log K ⟨T, H⟩) (hq : g = false → xDrawn P n0 pre rest log K ⟨setDst T dst skipV, H⟩) : guardD P n0 pre j dst op rest log K T H true (.bool g) := ⟨fun h => hp (by simpa using h), fun h => hq (by simpa using h)⟩
theorem guardD_fi {g : Bool} (hp : g = false → xDrawn P n0 pre ((j, ⟨dst, op, none⟩) :: rest) log K ⟨T, H⟩) (hq : g = true → xDrawn P n0 pre rest log K ⟨setDst T dst skipV, H⟩) : guardD P n0 pre j dst op rest log K T H false (.bool g) := ⟨fun h => hp (by simpa using h), fun h => hq (by simpa using h)⟩
end
section
variable {P : Program} {n0 : Nat} {Q : Exit → St → Prop} {K : St → Prop} {T : List AVal} {H : Heap} {s X : St} {dst : Option Nat} {g : Option (Nat × Bool)} {l : List AOper} {pre : Nat → Nat → Bool} {rest : List (Nat × AOper)} {log : PLog} {j : Nat}
@[go_sem] theorem contX_put {v : AVal} : contX K dst T v H = K ⟨setDst T dst v, H⟩ := propext Iff.rfl
@[go_sem] theorem stepX_some {v : AVal} : stepX (some (v, H)) K dst T = K ⟨setDst T dst v, H⟩ := propext Iff.rfl
@[go_sem] theorem wpx_skip : wpx P n0 .skip Q s = Q .normal s := propext Iff.rfl
@[go_sem] theorem wpx_region : wpx P n0 (.region l) Q s = xOps P l (Q .normal) s := propext Iff.rfl
@[go_sem] theorem wpx_drawn {wl : List (Nat × AOper)} {aft : List (List Nat)} {nb : Nat} : wpx P n0 (.drawn wl aft nb) Q ⟨T, H⟩ = xDrawn P H.length (preOf (befs aft [])) wl [] (Q .normal) ⟨T, H ++ List.replicate nb .ghost⟩ := propext Iff.rfl
@[go_sem] theorem wpx_seq {a b : ACode} : wpx P n0 (.seq a b) Q s = wpx P n0 a (thenX (wpx P n0 b Q) Q) s := propext Iff.rfl
@[go_sem] theorem wpx_block {i : Nat} {c : ACode} : wpx P n0 (.block i c) Q s = wpx P n0 c (blockX i Q) s := propext Iff.rfl
@[go_sem] theorem wpx_loop {c : ACode} : wpx P n0 (.loop c) Q s = ALoop P n0 c Q s := propext Iff.rfl
@[go_sem] theorem wpx_exit {i : Nat} : wpx P n0 (.exit i) Q s = Q (.exit i) s := propext Iff.rfl
@[go_sem] theorem wpx_ret : wpx P n0 .ret Q s = Q .ret s := propext Iff.rfl
@[go_sem] theorem wpx_cond {c : AArg} {t e : ACode} : wpx P n0 (.cond c t e) Q ⟨T, H⟩ = condX P n0 Q ⟨T, H⟩ t e (aget T c) := propext Iff.rfl
@[go_sem] theorem thenX_n {R : Exit → St → Prop} : thenX K R .normal s = K s := propext Iff.rfl
@[go_sem] theorem thenX_e {R : Exit → St → Prop} {i : Nat} : thenX K R (.exit i) s = R (.exit i) s := propext Iff.rfl
@[go_sem] theorem thenX_r {R : Exit → St → Prop} : thenX K R .ret s = R .ret s := propext Iff.rfl
@[go_sem] theorem blockX_n {i : Nat} : blockX i Q .normal s = Q .normal s := propext Iff.rfl
@[go_sem] theorem blockX_r {i : Nat} : blockX i Q .ret s = Q .ret s := propext Iff.rfl
@[go_sem] theorem blockX_e {i : Nat} : blockX i Q (.exit i) s = Q .normal s := by simp [blockX]
@[go_sem] theorem blockX_x {i j : Nat} (h : (j = i) = False) : blockX i Q (.exit j) s = Q (.exit j) s := by simp [blockX, h]
@[go_sem] theorem xOps_nil : xOps P [] K s = K s := propext Iff.rfl
@[go_sem] theorem xOps_go {op : AOp} : xOps P (⟨dst, op, none⟩ :: l) K s = xOne P ⟨dst, op, none⟩ (xOps P l K) s := propext Iff.rfl
@[go_sem] theorem xOps_gd {op : AOp} {d : Nat} {b : Bool} : xOps P (⟨dst, op, some (d, b)⟩ :: l) K ⟨T, H⟩ = guardX P dst op l K T H b (T.getD d .top) := propext Iff.rfl
@[go_sem] theorem setDst_n {v : AVal} : setDst T none v = T := rfl
@[go_sem] theorem setDst_s {d : Nat} {v : AVal} : setDst T (some d) v = T.set d v := rfl
@[go_sem] theorem aget_t {i : Nat} : aget T (.t i) = T.getD i .top := rfl
@[go_sem] theorem aget_c {v : AVal} : aget T (.c v) = v := rfl
attribute [go_sem] skipV aBin aNil mfind mput putRows bornStep bodyX aRes aTuple aStep asCells putParts putElems aEnd aMx AVal.cell
def quietX (P : Program) (n0 : Nat) (pre : Nat → Nat → Bool) (rest : List (Nat × AOper)) (log : PLog) (K : St → Prop) (i : Nat) (dst : Option Nat) (op : AOp) (T : List AVal) (H : Heap) (r : Option (AVal × Heap)) : Prop :=
 match r with
 | some (v, _) => xDrawn P n0 pre rest ((i, fun H => aStep T H op = some (v, H)) :: log) K ⟨setDst T dst v, H⟩
 | none => False
def loudX (P : Program) (n0 : Nat) (pre : Nat → Nat → Bool) (rest : List (Nat × AOper)) (log : PLog) (K : St → Prop) (i : Nat) (s : St) : Prop := chkS (pre i) s.H log ∧ xDrawn P n0 pre rest log K s
def bornX (P : Program) (n0 : Nat) (pre : Nat → Nat → Bool) (rest : List (Nat × AOper)) (log : PLog) (K : St → Prop) (dst : Option Nat) (k : Nat) (T : List AVal) (H : Heap) (r : Option (AVal × AObj)) : Prop :=
 match r with
 | some (v, x) => xDrawn P n0 pre rest log K ⟨setDst T dst v, H.set (n0 + k) x⟩
 | none => False
@[go_sem] theorem loudX_go : loudX P n0 pre rest log K j ⟨T, H⟩ = (chkS (pre j) H log ∧ xDrawn P n0 pre rest log K ⟨T, H⟩) := propext Iff.rfl
@[go_sem] theorem quietX_some {i : Nat} {op : AOp} {v : AVal} {H' : Heap} : quietX P n0 pre rest log K i dst op T H (some (v, H')) = xDrawn P n0 pre rest ((i, fun H => aStep T H op = some (v, H)) :: log) K ⟨setDst T dst v, H⟩ := propext Iff.rfl
@[go_sem] theorem bornX_some {k : Nat} {v : AVal} {x : AObj} : bornX P n0 pre rest log K dst k T H (some (v, x)) = xDrawn P n0 pre rest log K ⟨setDst T dst v, H.set (n0 + k) x⟩ := propext Iff.rfl
@[go_sem] theorem xDrawn_nil : xDrawn P n0 pre [] log K s = K s := propext Iff.rfl
@[go_sem] theorem chkS_nil {pre : Nat → Bool} : chkS pre H [] = True := propext Iff.rfl
@[go_sem] theorem chkS_cons {pre : Nat → Bool} {p : Heap → Prop} {i : Nat} : chkS pre H ((i, p) :: log) = ((p H ∨ pre i = true) ∧ chkS pre H log) := propext Iff.rfl
@[go_sem] theorem xDrawn_gd {op : AOp} {d : Nat} {b : Bool} : xDrawn P n0 pre ((j, ⟨dst, op, some (d, b)⟩) :: rest) log K ⟨T, H⟩ = guardD P n0 pre j dst op rest log K T H b (T.getD d .top) := by
 show stepD P n0 (pre j) j _ log _ _ = _
 simp only [stepD, aget]
 rfl
theorem xDrawn_p {op : AOp} (hp : op.pure = true) : xDrawn P n0 pre ((j, ⟨dst, op, none⟩) :: rest) log K ⟨T, H⟩ = stepX (aStep T H op) (xDrawn P n0 pre rest log K) dst T := by
 have hnb : ∀ k b, op ≠ .born k b := fun k b e => by rw [e] at hp; cases hp
 show stepD P n0 (pre j) j ⟨dst, op, none⟩ log (fun log' s' => xDrawn P n0 pre rest log' K s') ⟨T, H⟩ = _
 simp only [stepD]
 rw [actD_nb (o := ⟨dst, op, none⟩) hnb]
 simp only [pure_quiet hp, if_true, hp]
 cases hs : aStep T H op with
 | none => rfl
 | some q =>
  obtain ⟨v, H'⟩ := q
  have := quiet_heap (pure_quiet hp) hs
  subst this
  rfl
theorem xDrawn_q {op : AOp} (hq : op.quiet = true) (hp : op.pure = false) : xDrawn P n0 pre ((j, ⟨dst, op, none⟩) :: rest) log K ⟨T, H⟩ = quietX P n0 pre rest log K j dst op T H (aStep T H op) := by
 have hnb : ∀ k b, op ≠ .born k b := fun k b e => by rw [e] at hq; cases hq
 show stepD P n0 (pre j) j ⟨dst, op, none⟩ log (fun log' s' => xDrawn P n0 pre rest log' K s') ⟨T, H⟩ = _
 simp only [stepD]
 rw [actD_nb (o := ⟨dst, op, none⟩) hnb]
 simp only [hq, if_true, hp, Bool.false_eq_true, if_false]
 rfl
theorem xDrawn_l {op : AOp} (hq : op.quiet = false) (hnb : ∀ k b, op ≠ .born k b) : xDrawn P n0 pre ((j, ⟨dst, op, none⟩) :: rest) log K ⟨T, H⟩ = xOne P ⟨dst, op, none⟩ (loudX P n0 pre rest log K j) ⟨T, H⟩ := by
 show stepD P n0 (pre j) j ⟨dst, op, none⟩ log (fun log' s' => xDrawn P n0 pre rest log' K s') ⟨T, H⟩ = _
 simp only [stepD]
 rw [actD_nb (o := ⟨dst, op, none⟩) hnb]
 simp only [hq, Bool.false_eq_true, if_false]
 rfl
@[go_sem] theorem xd_born {k : Nat} {b : ABirth} : xDrawn P n0 pre ((j, ⟨dst, .born k b, none⟩) :: rest) log K ⟨T, H⟩ = bornX P n0 pre rest log K dst k T H (bornStep T (n0 + k) b) := propext Iff.rfl
def callvX (P : Program) (K : St → Prop) (dst : Option Nat) (T : List AVal) (H : Heap) (args : List AVal) (v : AVal) : Prop := match v with
 | .func f cap => callable P f = true ∧ ACalls P f (args ++ cap) H (contX K dst T)
 | _ => False
@[go_sem] theorem callvX_go {args : List AVal} {f : FuncId} {cap : List AVal} : callvX P K dst T H args (.func f cap) = (callable P f = true ∧ ACalls P f (args ++ cap) H (contX K dst T)) := propext Iff.rfl
@[go_sem] theorem xOne_callv {x : AArg} {args : List AArg} : xOne P ⟨dst, .callv x args, g⟩ K ⟨T, H⟩ = callvX P K dst T H (args.map (aget T)) (aget T x) := by
 unfold xOne callvX
 simp only
 cases aget T x <;> rfl
@[go_sem] theorem xOne_mv {x : AArg} : xOne P ⟨dst, .mv x, g⟩ K ⟨T, H⟩ = stepX (aStep T H (.mv x)) K dst T := propext Iff.rfl
@[go_sem] theorem xd_mv {x : AArg} : xDrawn P n0 pre ((j, ⟨dst, .mv x, none⟩) :: rest) log K ⟨T, H⟩ = stepX (aStep T H (.mv x)) (xDrawn P n0 pre rest log K) dst T := xDrawn_p rfl
@[go_sem] theorem xOne_pick {c a b : AArg} : xOne P ⟨dst, .pick c a b, g⟩ K ⟨T, H⟩ = stepX (aStep T H (.pick c a b)) K dst T := propext Iff.rfl
@[go_sem] theorem xd_pick {c a b : AArg} : xDrawn P n0 pre ((j, ⟨dst, .pick c a b, none⟩) :: rest) log K ⟨T, H⟩ = stepX (aStep T H (.pick c a b)) (xDrawn P n0 pre rest log K) dst T := xDrawn_p rfl
@[go_sem] theorem xOne_bin {op : BinOp} {x y : AArg} : xOne P ⟨dst, .bin op x y, g⟩ K ⟨T, H⟩ = stepX (aStep T H (.bin op x y)) K dst T := propext Iff.rfl
@[go_sem] theorem xd_bin {op : BinOp} {x y : AArg} : xDrawn P n0 pre ((j, ⟨dst, .bin op x y, none⟩) :: rest) log K ⟨T, H⟩ = stepX (aStep T H (.bin op x y)) (xDrawn P n0 pre rest log K) dst T := xDrawn_p rfl
@[go_sem] theorem xOne_sbin {op : BinOp} {x y : AArg} : xOne P ⟨dst, .sbin op x y, g⟩ K ⟨T, H⟩ = stepX (aStep T H (.sbin op x y)) K dst T := propext Iff.rfl
@[go_sem] theorem xd_sbin {op : BinOp} {x y : AArg} : xDrawn P n0 pre ((j, ⟨dst, .sbin op x y, none⟩) :: rest) log K ⟨T, H⟩ = stepX (aStep T H (.sbin op x y)) (xDrawn P n0 pre rest log K) dst T := xDrawn_p rfl
@[go_sem] theorem xOne_eqb {neg : Bool} {x y : AArg} : xOne P ⟨dst, .eqb neg x y, g⟩ K ⟨T, H⟩ = stepX (aStep T H (.eqb neg x y)) K dst T := propext Iff.rfl
@[go_sem] theorem xd_eqb {neg : Bool} {x y : AArg} : xDrawn P n0 pre ((j, ⟨dst, .eqb neg x y, none⟩) :: rest) log K ⟨T, H⟩ = stepX (aStep T H (.eqb neg x y)) (xDrawn P n0 pre rest log K) dst T := xDrawn_p rfl
@[go_sem] theorem xOne_eqs {neg : Bool} {ks : List Nat} {x y : AArg} : xOne P ⟨dst, .eqs neg ks x y, g⟩ K ⟨T, H⟩ = stepX (aStep T H (.eqs neg ks x y)) K dst T := propext Iff.rfl
@[go_sem] theorem xd_eqs {neg : Bool} {ks : List Nat} {x y : AArg} : xDrawn P n0 pre ((j, ⟨dst, .eqs neg ks x y, none⟩) :: rest) log K ⟨T, H⟩ = stepX (aStep T H (.eqs neg ks x y)) (xDrawn P n0 pre rest log K) dst T := xDrawn_p rfl
@[go_sem] theorem xOne_isNil {neg : Bool} {k : Nat} {x : AArg} : xOne P ⟨dst, .isNil neg k x, g⟩ K ⟨T, H⟩ = stepX (aStep T H (.isNil neg k x)) K dst T := propext Iff.rfl
@[go_sem] theorem xd_isNil {neg : Bool} {k : Nat} {x : AArg} : xDrawn P n0 pre ((j, ⟨dst, .isNil neg k x, none⟩) :: rest) log K ⟨T, H⟩ = stepX (aStep T H (.isNil neg k x)) (xDrawn P n0 pre rest log K) dst T := xDrawn_p rfl
@[go_sem] theorem xOne_un {op : UnOp} {x : AArg} : xOne P ⟨dst, .un op x, g⟩ K ⟨T, H⟩ = stepX (aStep T H (.un op x)) K dst T := propext Iff.rfl
@[go_sem] theorem xd_un {op : UnOp} {x : AArg} : xDrawn P n0 pre ((j, ⟨dst, .un op x, none⟩) :: rest) log K ⟨T, H⟩ = stepX (aStep T H (.un op x)) (xDrawn P n0 pre rest log K) dst T := xDrawn_p rfl
@[go_sem] theorem xOne_fld {off : Nat} {x : AArg} : xOne P ⟨dst, .fld off x, g⟩ K ⟨T, H⟩ = stepX (aStep T H (.fld off x)) K dst T := propext Iff.rfl
@[go_sem] theorem xd_fld {off : Nat} {x : AArg} : xDrawn P n0 pre ((j, ⟨dst, .fld off x, none⟩) :: rest) log K ⟨T, H⟩ = stepX (aStep T H (.fld off x)) (xDrawn P n0 pre rest log K) dst T := xDrawn_p rfl
@[go_sem] theorem xOne_ld {n : Option Nat} {x : AArg} : xOne P ⟨dst, .ld n x, g⟩ K ⟨T, H⟩ = stepX (aStep T H (.ld n x)) K dst T := propext Iff.rfl
@[go_sem] theorem xd_ld {n : Option Nat} {x : AArg} : xDrawn P n0 pre ((j, ⟨dst, .ld n x, none⟩) :: rest) log K ⟨T, H⟩ = quietX P n0 pre rest log K j dst (.ld n x) T H (aStep T H (.ld n x)) := xDrawn_q rfl rfl
@[go_sem] theorem xOne_st {size : Nat} {x y : AArg} : xOne P ⟨dst, .st size x y, g⟩ K ⟨T, H⟩ = stepX (aStep T H (.st size x y)) K dst T := propext Iff.rfl
@[go_sem] theorem xd_st {size : Nat} {x y : AArg} : xDrawn P n0 pre ((j, ⟨dst, .st size x y, none⟩) :: rest) log K ⟨T, H⟩ = xOne P ⟨dst, .st size x y, none⟩ (loudX P n0 pre rest log K j) ⟨T, H⟩ := xDrawn_l rfl (fun _ _ e => by cases e)
@[go_sem] theorem xOne_nck {x : AArg} : xOne P ⟨dst, .nck x, g⟩ K ⟨T, H⟩ = stepX (aStep T H (.nck x)) K dst T := propext Iff.rfl
@[go_sem] theorem xd_nck {x : AArg} : xDrawn P n0 pre ((j, ⟨dst, .nck x, none⟩) :: rest) log K ⟨T, H⟩ = stepX (aStep T H (.nck x)) (xDrawn P n0 pre rest log K) dst T := xDrawn_p rfl
@[go_sem] theorem xOne_ixa {n : Nat} {size : Nat} {x i : AArg} : xOne P ⟨dst, .ixa n size x i, g⟩ K ⟨T, H⟩ = stepX (aStep T H (.ixa n size x i)) K dst T := propext Iff.rfl
@[go_sem] theorem xd_ixa {n : Nat} {size : Nat} {x i : AArg} : xDrawn P n0 pre ((j, ⟨dst, .ixa n size x i, none⟩) :: rest) log K ⟨T, H⟩ = stepX (aStep T H (.ixa n size x i)) (xDrawn P n0 pre rest log K) dst T := xDrawn_p rfl
@[go_sem] theorem xOne_ixs {size : Nat} {x i : AArg} : xOne P ⟨dst, .ixs size x i, g⟩ K ⟨T, H⟩ = stepX (aStep T H (.ixs size x i)) K dst T := propext Iff.rfl
@[go_sem] theorem xd_ixs {size : Nat} {x i : AArg} : xDrawn P n0 pre ((j, ⟨dst, .ixs size x i, none⟩) :: rest) log K ⟨T, H⟩ = quietX P n0 pre rest log K j dst (.ixs size x i) T H (aStep T H (.ixs size x i)) := xDrawn_q rfl rfl
@[go_sem] theorem xOne_ixstr {x i : AArg} : xOne P ⟨dst, .ixstr x i, g⟩ K ⟨T, H⟩ = stepX (aStep T H (.ixstr x i)) K dst T := propext Iff.rfl
@[go_sem] theorem xd_ixstr {x i : AArg} : xDrawn P n0 pre ((j, ⟨dst, .ixstr x i, none⟩) :: rest) log K ⟨T, H⟩ = stepX (aStep T H (.ixstr x i)) (xDrawn P n0 pre rest log K) dst T := xDrawn_p rfl
@[go_sem] theorem xOne_ixagg {n size : Nat} {agg : Bool} {x i : AArg} : xOne P ⟨dst, .ixagg n size agg x i, g⟩ K ⟨T, H⟩ = stepX (aStep T H (.ixagg n size agg x i)) K dst T := propext Iff.rfl
@[go_sem] theorem xd_ixagg {n size : Nat} {agg : Bool} {x i : AArg} : xDrawn P n0 pre ((j, ⟨dst, .ixagg n size agg x i, none⟩) :: rest) log K ⟨T, H⟩ = stepX (aStep T H (.ixagg n size agg x i)) (xDrawn P n0 pre rest log K) dst T := xDrawn_p rfl
@[go_sem] theorem xOne_part {off : Nat} {n : Option Nat} {x : AArg} : xOne P ⟨dst, .part off n x, g⟩ K ⟨T, H⟩ = stepX (aStep T H (.part off n x)) K dst T := propext Iff.rfl
@[go_sem] theorem xd_part {off : Nat} {n : Option Nat} {x : AArg} : xDrawn P n0 pre ((j, ⟨dst, .part off n x, none⟩) :: rest) log K ⟨T, H⟩ = stepX (aStep T H (.part off n x)) (xDrawn P n0 pre rest log K) dst T := xDrawn_p rfl
@[go_sem] theorem xOne_len {str : Bool} {x : AArg} : xOne P ⟨dst, .len str x, g⟩ K ⟨T, H⟩ = stepX (aStep T H (.len str x)) K dst T := propext Iff.rfl
@[go_sem] theorem xd_len {str : Bool} {x : AArg} : xDrawn P n0 pre ((j, ⟨dst, .len str x, none⟩) :: rest) log K ⟨T, H⟩ = stepX (aStep T H (.len str x)) (xDrawn P n0 pre rest log K) dst T := xDrawn_p rfl
@[go_sem] theorem xOne_ext {x : AArg} {i : Nat} : xOne P ⟨dst, .ext x i, g⟩ K ⟨T, H⟩ = stepX (aStep T H (.ext x i)) K dst T := propext Iff.rfl
@[go_sem] theorem xd_ext {x : AArg} {i : Nat} : xDrawn P n0 pre ((j, ⟨dst, .ext x i, none⟩) :: rest) log K ⟨T, H⟩ = stepX (aStep T H (.ext x i)) (xDrawn P n0 pre rest log K) dst T := xDrawn_p rfl
@[go_sem] theorem xOne_build {zero : List AVal} {parts : List (Nat × Nat × AArg)} : xOne P ⟨dst, .build zero parts, g⟩ K ⟨T, H⟩ = stepX (aStep T H (.build zero parts)) K dst T := propext Iff.rfl
@[go_sem] theorem xd_build {zero : List AVal} {parts : List (Nat × Nat × AArg)} : xDrawn P n0 pre ((j, ⟨dst, .build zero parts, none⟩) :: rest) log K ⟨T, H⟩ = stepX (aStep T H (.build zero parts)) (xDrawn P n0 pre rest log K) dst T := xDrawn_p rfl
@[go_sem] theorem xOne_bsl {size n : Nat} {zero : List AVal} {parts : List (Nat × AArg)} : xOne P ⟨dst, .bsl size n zero parts, g⟩ K ⟨T, H⟩ = stepX (aStep T H (.bsl size n zero parts)) K dst T := propext Iff.rfl
@[go_sem] theorem xd_bsl {size n : Nat} {zero : List AVal} {parts : List (Nat × AArg)} : xDrawn P n0 pre ((j, ⟨dst, .bsl size n zero parts, none⟩) :: rest) log K ⟨T, H⟩ = xOne P ⟨dst, .bsl size n zero parts, none⟩ (loudX P n0 pre rest log K j) ⟨T, H⟩ := xDrawn_l rfl (fun _ _ e => by cases e)
@[go_sem] theorem xOne_box {x : AArg} : xOne P ⟨dst, .box x, g⟩ K ⟨T, H⟩ = stepX (aStep T H (.box x)) K dst T := propext Iff.rfl
@[go_sem] theorem xd_box {x : AArg} : xDrawn P n0 pre ((j, ⟨dst, .box x, none⟩) :: rest) log K ⟨T, H⟩ = xOne P ⟨dst, .box x, none⟩ (loudX P n0 pre rest log K j) ⟨T, H⟩ := xDrawn_l rfl (fun _ _ e => by cases e)
@[go_sem] theorem xOne_new {zero : List AVal} : xOne P ⟨dst, .new zero, g⟩ K ⟨T, H⟩ = stepX (aStep T H (.new zero)) K dst T := propext Iff.rfl
@[go_sem] theorem xd_new {zero : List AVal} : xDrawn P n0 pre ((j, ⟨dst, .new zero, none⟩) :: rest) log K ⟨T, H⟩ = xOne P ⟨dst, .new zero, none⟩ (loudX P n0 pre rest log K j) ⟨T, H⟩ := xDrawn_l rfl (fun _ _ e => by cases e)
@[go_sem] theorem xOne_mks {size bytes : Nat} {zero : List AVal} {l c : AArg} : xOne P ⟨dst, .mks size bytes zero l c, g⟩ K ⟨T, H⟩ = stepX (aStep T H (.mks size bytes zero l c)) K dst T := propext Iff.rfl
@[go_sem] theorem xd_mks {size bytes : Nat} {zero : List AVal} {l c : AArg} : xDrawn P n0 pre ((j, ⟨dst, .mks size bytes zero l c, none⟩) :: rest) log K ⟨T, H⟩ = xOne P ⟨dst, .mks size bytes zero l c, none⟩ (loudX P n0 pre rest log K j) ⟨T, H⟩ := xDrawn_l rfl (fun _ _ e => by cases e)
@[go_sem] theorem xOne_app {size bytes : Nat} {s x : AArg} : xOne P ⟨dst, .app size bytes s x, g⟩ K ⟨T, H⟩ = stepX (aStep T H (.app size bytes s x)) K dst T := propext Iff.rfl
@[go_sem] theorem xd_app {size bytes : Nat} {s x : AArg} : xDrawn P n0 pre ((j, ⟨dst, .app size bytes s x, none⟩) :: rest) log K ⟨T, H⟩ = xOne P ⟨dst, .app size bytes s x, none⟩ (loudX P n0 pre rest log K j) ⟨T, H⟩ := xDrawn_l rfl (fun _ _ e => by cases e)
@[go_sem] theorem xOne_rng {x : AArg} : xOne P ⟨dst, .rng x, g⟩ K ⟨T, H⟩ = stepX (aStep T H (.rng x)) K dst T := propext Iff.rfl
@[go_sem] theorem xd_rng {x : AArg} : xDrawn P n0 pre ((j, ⟨dst, .rng x, none⟩) :: rest) log K ⟨T, H⟩ = xOne P ⟨dst, .rng x, none⟩ (loudX P n0 pre rest log K j) ⟨T, H⟩ := xDrawn_l rfl (fun _ _ e => by cases e)
@[go_sem] theorem xOne_nxt {x : AArg} : xOne P ⟨dst, .nxt x, g⟩ K ⟨T, H⟩ = stepX (aStep T H (.nxt x)) K dst T := propext Iff.rfl
@[go_sem] theorem xd_nxt {x : AArg} : xDrawn P n0 pre ((j, ⟨dst, .nxt x, none⟩) :: rest) log K ⟨T, H⟩ = xOne P ⟨dst, .nxt x, none⟩ (loudX P n0 pre rest log K j) ⟨T, H⟩ := xDrawn_l rfl (fun _ _ e => by cases e)
@[go_sem] theorem xOne_sla {n : Nat} {x : AArg} {lo hi : Option AArg} : xOne P ⟨dst, .sla n x lo hi, g⟩ K ⟨T, H⟩ = stepX (aStep T H (.sla n x lo hi)) K dst T := propext Iff.rfl
@[go_sem] theorem xd_sla {n : Nat} {x : AArg} {lo hi : Option AArg} : xDrawn P n0 pre ((j, ⟨dst, .sla n x lo hi, none⟩) :: rest) log K ⟨T, H⟩ = quietX P n0 pre rest log K j dst (.sla n x lo hi) T H (aStep T H (.sla n x lo hi)) := xDrawn_q rfl rfl
@[go_sem] theorem xOne_sls {size : Nat} {x : AArg} {lo hi mx : Option AArg} : xOne P ⟨dst, .sls size x lo hi mx, g⟩ K ⟨T, H⟩ = stepX (aStep T H (.sls size x lo hi mx)) K dst T := propext Iff.rfl
@[go_sem] theorem xd_sls {size : Nat} {x : AArg} {lo hi mx : Option AArg} : xDrawn P n0 pre ((j, ⟨dst, .sls size x lo hi mx, none⟩) :: rest) log K ⟨T, H⟩ = quietX P n0 pre rest log K j dst (.sls size x lo hi mx) T H (aStep T H (.sls size x lo hi mx)) := xDrawn_q rfl rfl
@[go_sem] theorem xOne_sstr {x : AArg} {lo hi : Option AArg} : xOne P ⟨dst, .sstr x lo hi, g⟩ K ⟨T, H⟩ = stepX (aStep T H (.sstr x lo hi)) K dst T := propext Iff.rfl
@[go_sem] theorem xd_sstr {x : AArg} {lo hi : Option AArg} : xDrawn P n0 pre ((j, ⟨dst, .sstr x lo hi, none⟩) :: rest) log K ⟨T, H⟩ = stepX (aStep T H (.sstr x lo hi)) (xDrawn P n0 pre rest log K) dst T := xDrawn_p rfl
@[go_sem] theorem xOne_mxn {mx : Bool} {l : List AArg} : xOne P ⟨dst, .mxn mx l, g⟩ K ⟨T, H⟩ = stepX (aStep T H (.mxn mx l)) K dst T := propext Iff.rfl
@[go_sem] theorem xd_mxn {mx : Bool} {l : List AArg} : xDrawn P n0 pre ((j, ⟨dst, .mxn mx l, none⟩) :: rest) log K ⟨T, H⟩ = stepX (aStep T H (.mxn mx l)) (xDrawn P n0 pre rest log K) dst T := xDrawn_p rfl
@[go_sem] theorem xOne_cvt {k : IntKind} {x : AArg} : xOne P ⟨dst, .cvt k x, g⟩ K ⟨T, H⟩ = stepX (aStep T H (.cvt k x)) K dst T := propext Iff.rfl
@[go_sem] theorem xd_cvt {k : IntKind} {x : AArg} : xDrawn P n0 pre ((j, ⟨dst, .cvt k x, none⟩) :: rest) log K ⟨T, H⟩ = stepX (aStep T H (.cvt k x)) (xDrawn P n0 pre rest log K) dst T := xDrawn_p rfl
@[go_sem] theorem xOne_i2s {x : AArg} : xOne P ⟨dst, .i2s x, g⟩ K ⟨T, H⟩ = stepX (aStep T H (.i2s x)) K dst T := propext Iff.rfl
@[go_sem] theorem xd_i2s {x : AArg} : xDrawn P n0 pre ((j, ⟨dst, .i2s x, none⟩) :: rest) log K ⟨T, H⟩ = stepX (aStep T H (.i2s x)) (xDrawn P n0 pre rest log K) dst T := xDrawn_p rfl
@[go_sem] theorem xOne_b2s {x : AArg} : xOne P ⟨dst, .b2s x, g⟩ K ⟨T, H⟩ = stepX (aStep T H (.b2s x)) K dst T := propext Iff.rfl
@[go_sem] theorem xd_b2s {x : AArg} : xDrawn P n0 pre ((j, ⟨dst, .b2s x, none⟩) :: rest) log K ⟨T, H⟩ = xOne P ⟨dst, .b2s x, none⟩ (loudX P n0 pre rest log K j) ⟨T, H⟩ := xDrawn_l rfl (fun _ _ e => by cases e)
@[go_sem] theorem xOne_s2b {x : AArg} : xOne P ⟨dst, .s2b x, g⟩ K ⟨T, H⟩ = stepX (aStep T H (.s2b x)) K dst T := propext Iff.rfl
@[go_sem] theorem xd_s2b {x : AArg} : xDrawn P n0 pre ((j, ⟨dst, .s2b x, none⟩) :: rest) log K ⟨T, H⟩ = xOne P ⟨dst, .s2b x, none⟩ (loudX P n0 pre rest log K j) ⟨T, H⟩ := xDrawn_l rfl (fun _ _ e => by cases e)
@[go_sem] theorem xOne_call {f : FuncId} {args : List AArg} : xOne P ⟨dst, .call f args, g⟩ K ⟨T, H⟩ = ACalls P f (args.map (aget T)) H (contX K dst T) := propext Iff.rfl
@[go_sem] theorem xd_call {f : FuncId} {args : List AArg} : xDrawn P n0 pre ((j, ⟨dst, .call f args, none⟩) :: rest) log K ⟨T, H⟩ = xOne P ⟨dst, .call f args, none⟩ (loudX P n0 pre rest log K j) ⟨T, H⟩ := xDrawn_l rfl (fun _ _ e => by cases e)
@[go_sem] theorem xd_callv {x : AArg} {args : List AArg} : xDrawn P n0 pre ((j, ⟨dst, .callv x args, none⟩) :: rest) log K ⟨T, H⟩ = xOne P ⟨dst, .callv x args, none⟩ (loudX P n0 pre rest log K j) ⟨T, H⟩ := xDrawn_l rfl (fun _ _ e => by cases e)
@[go_sem] theorem xOne_mkf {f : FuncId} {caps : List AArg} : xOne P ⟨dst, .mkf f caps, g⟩ K ⟨T, H⟩ = stepX (aStep T H (.mkf f caps)) K dst T := propext Iff.rfl
@[go_sem] theorem xd_mkf {f : FuncId} {caps : List AArg} : xDrawn P n0 pre ((j, ⟨dst, .mkf f caps, none⟩) :: rest) log K ⟨T, H⟩ = stepX (aStep T H (.mkf f caps)) (xDrawn P n0 pre rest log K) dst T := xDrawn_p rfl
@[go_sem] theorem xOne_mkm  : xOne P ⟨dst, .mkm, g⟩ K ⟨T, H⟩ = stepX (aStep T H (.mkm)) K dst T := propext Iff.rfl
@[go_sem] theorem xd_mkm  : xDrawn P n0 pre ((j, ⟨dst, .mkm, none⟩) :: rest) log K ⟨T, H⟩ = xOne P ⟨dst, .mkm, none⟩ (loudX P n0 pre rest log K j) ⟨T, H⟩ := xDrawn_l rfl (fun _ _ e => by cases e)
@[go_sem] theorem xOne_mlk {zero : AVal} {x k : AArg} : xOne P ⟨dst, .mlk zero x k, g⟩ K ⟨T, H⟩ = stepX (aStep T H (.mlk zero x k)) K dst T := propext Iff.rfl
@[go_sem] theorem xd_mlk {zero : AVal} {x k : AArg} : xDrawn P n0 pre ((j, ⟨dst, .mlk zero x k, none⟩) :: rest) log K ⟨T, H⟩ = quietX P n0 pre rest log K j dst (.mlk zero x k) T H (aStep T H (.mlk zero x k)) := xDrawn_q rfl rfl
@[go_sem] theorem xOne_mup {x k v : AArg} : xOne P ⟨dst, .mup x k v, g⟩ K ⟨T, H⟩ = stepX (aStep T H (.mup x k v)) K dst T := propext Iff.rfl
@[go_sem] theorem xd_mup {x k v : AArg} : xDrawn P n0 pre ((j, ⟨dst, .mup x k v, none⟩) :: rest) log K ⟨T, H⟩ = xOne P ⟨dst, .mup x k v, none⟩ (loudX P n0 pre rest log K j) ⟨T, H⟩ := xDrawn_l rfl (fun _ _ e => by cases e)
@[go_sem] theorem xOne_cpy {size : Nat} {d s : AArg} : xOne P ⟨dst, .cpy size d s, g⟩ K ⟨T, H⟩ = stepX (aStep T H (.cpy size d s)) K dst T := propext Iff.rfl
@[go_sem] theorem xd_cpy {size : Nat} {d s : AArg} : xDrawn P n0 pre ((j, ⟨dst, .cpy size d s, none⟩) :: rest) log K ⟨T, H⟩ = xOne P ⟨dst, .cpy size d s, none⟩ (loudX P n0 pre rest log K j) ⟨T, H⟩ := xDrawn_l rfl (fun _ _ e => by cases e)
end
attribute [go_sem] List.length_cons List.length_nil List.replicate List.cons_append List.nil_append List.append_nil List.append_assoc List.length_append List.getD_cons_zero List.getD_cons_succ List.getElem?_cons_zero List.getElem?_cons_succ List.getElem?_nil List.set_cons_zero List.set_cons_succ List.map_cons List.map_nil Nat.zero_add Option.map_some Option.map_none true_implies false_implies and_true true_and and_self and_false false_and ne_eq eq_self not_true_eq_false not_false_eq_true if_true if_false Int.natCast_zero Int.natCast_one Int.cast_ofNat_Int Int.toNat_natCast Int.toNat_zero decide_true decide_false Bool.false_eq_true Bool.not_true Bool.not_false cellB List.take List.drop List.drop_zero Nat.le_refl Nat.mul_one Nat.add_zero Bool.and_self Bool.and_true Bool.true_and Bool.or_self true_or or_true or_false false_or putAt_cons putAt_nil cellsEq cellEq takeCells srcCells List.set_set List.length_set
attribute [go_sem] Nat.reduceAdd Nat.reduceSub Nat.reduceMul Nat.reduceLT Nat.reduceLeDiff Nat.reduceEqDiff Int.reduceToNat Int.reduceLE Int.reduceLT Int.reduceEq Int.reduceNe Int.reduceNeg Int.reduceAdd Int.reduceMul reduceCtorEq reduceIte
class Br (a : AVal) (p q : outParam Prop) : Prop where
 br : ∃ b, a = .bool b ∧ (b = true → p) ∧ (b = false → q)
instance (priority := 2000) brD {r : Prop} [Decidable r] : Br (.bool (decide r)) r (¬ r) := ⟨_, rfl, of_decide_eq_true, of_decide_eq_false⟩
instance (priority := 2000) brN {r : Prop} [Decidable r] : Br (.bool (!decide r)) (¬ r) r := ⟨_, rfl, by simp, by simp⟩
instance (priority := 1500) brB {b : Bool} : Br (.bool (!b)) (b = false) (b = true) := ⟨_, rfl, by simp, by simp⟩
instance (priority := 1000) brA {b : Bool} : Br (.bool b) (b = true) (b = false) := ⟨_, rfl, id, id⟩
section
variable {P : Program} {n0 : Nat} {Q : Exit → St → Prop} {s : St} {t e : ACode} {dst : Option Nat} {op : AOp} {l : List AOper} {K : St → Prop} {T : List AVal} {H : Heap} {pre : Nat → Nat → Bool} {rest : List (Nat × AOper)} {log : PLog} {j : Nat} {a : AVal} {p q : Prop}
theorem cB [h : Br a p q] (hp : p → wpx P n0 t Q s) (hq : q → wpx P n0 e Q s) : condX P n0 Q s t e a := by
 obtain ⟨b, rfl, h1, h2⟩ := h.br
 exact condX_if (fun h => hp (h1 h)) (fun h => hq (h2 h))
theorem gT [h : Br a p q] (hp : p → xOne P ⟨dst, op, none⟩ (xOps P l K) ⟨T, H⟩) (hq : q → xOps P l K ⟨setDst T dst skipV, H⟩) : guardX P dst op l K T H true a := by
 obtain ⟨b, rfl, h1, h2⟩ := h.br
 exact guardX_it (fun h => hp (h1 h)) (fun h => hq (h2 h))
theorem gF [h : Br a p q] (hq : q → xOne P ⟨dst, op, none⟩ (xOps P l K) ⟨T, H⟩) (hp : p → xOps P l K ⟨setDst T dst skipV, H⟩) : guardX P dst op l K T H false a := by
 obtain ⟨b, rfl, h1, h2⟩ := h.br
 exact guardX_fi (fun h => hq (h2 h)) (fun h => hp (h1 h))
theorem dT [h : Br a p q] (hp : p → xDrawn P n0 pre ((j, ⟨dst, op, none⟩) :: rest) log K ⟨T, H⟩) (hq : q → xDrawn P n0 pre rest log K ⟨setDst T dst skipV, H⟩) : guardD P n0 pre j dst op rest log K T H true a := by
 obtain ⟨b, rfl, h1, h2⟩ := h.br
 exact guardD_it (fun h => hp (h1 h)) (fun h => hq (h2 h))
theorem dF [h : Br a p q] (hq : q → xDrawn P n0 pre ((j, ⟨dst, op, none⟩) :: rest) log K ⟨T, H⟩) (hp : p → xDrawn P n0 pre rest log K ⟨setDst T dst skipV, H⟩) : guardD P n0 pre j dst op rest log K T H false a := by
 obtain ⟨b, rfl, h1, h2⟩ := h.br
 exact guardD_fi (fun h => hq (h2 h)) (fun h => hp (h1 h))
end
section
variable {H : Heap} {a b c d e f x : AObj} {L : Heap}
@[go_sem] theorem at0 : (H ++ a :: L)[H.length]? = some a := by rw [List.getElem?_append_right (Nat.le_refl _)]; simp
@[go_sem] theorem at1 : (H ++ a :: b :: L)[H.length + 1]? = some b := by rw [List.getElem?_append_right (by omega)]; simp
@[go_sem] theorem at2 : (H ++ a :: b :: c :: L)[H.length + 2]? = some c := by rw [List.getElem?_append_right (by omega)]; simp
@[go_sem] theorem at3 : (H ++ a :: b :: c :: d :: L)[H.length + 3]? = some d := by rw [List.getElem?_append_right (by omega)]; simp
@[go_sem] theorem at4 : (H ++ a :: b :: c :: d :: e :: L)[H.length + 4]? = some e := by rw [List.getElem?_append_right (by omega)]; simp
@[go_sem] theorem at5 : (H ++ a :: b :: c :: d :: e :: f :: L)[H.length + 5]? = some f := by rw [List.getElem?_append_right (by omega)]; simp
@[go_sem] theorem set0 : (H ++ a :: L).set H.length x = H ++ x :: L := by rw [List.set_append_right _ _ (Nat.le_refl _)]; simp
@[go_sem] theorem set1 : (H ++ a :: b :: L).set (H.length + 1) x = H ++ a :: x :: L := by rw [List.set_append_right _ _ (by omega)]; simp
@[go_sem] theorem set2 : (H ++ a :: b :: c :: L).set (H.length + 2) x = H ++ a :: b :: x :: L := by rw [List.set_append_right _ _ (by omega)]; simp
@[go_sem] theorem set3 : (H ++ a :: b :: c :: d :: L).set (H.length + 3) x = H ++ a :: b :: c :: x :: L := by rw [List.set_append_right _ _ (by omega)]; simp
@[go_sem] theorem set4 : (H ++ a :: b :: c :: d :: e :: L).set (H.length + 4) x = H ++ a :: b :: c :: d :: x :: L := by rw [List.set_append_right _ _ (by omega)]; simp
@[go_sem] theorem set5 : (H ++ a :: b :: c :: d :: e :: f :: L).set (H.length + 5) x = H ++ a :: b :: c :: d :: e :: x :: L := by rw [List.set_append_right _ _ (by omega)]; simp
theorem old_get {o : Nat} (h : H[o]? = some a) : (H ++ L)[o]? = some a := by rw [List.getElem?_append_left (List.getElem?_eq_some_iff.1 h).1]; exact h
end
theorem ACalls.tidy {P : Program} {f : FuncId} {args : List AVal} {H : Heap} {K : AVal → Heap → Prop} (h : ACalls P f args H fun v H' => v.plain = true ∧ (∃ L, H' = H ++ L) ∧ K v H) : ACalls P f args H K :=
 ACalls.clean (h.mono fun v H' ⟨hv, ⟨L, e⟩, hk⟩ => ⟨hv, H, L, e, Nat.le_refl _, id, hk⟩)
class Sp (G : Prop) (p q A B : outParam Prop) : Prop where
 out : (p → A) → (q → B) → G
section
variable {P : Program} {n0 : Nat} {Q : Exit → St → Prop} {s : St} {t e : ACode} {dst : Option Nat} {op : AOp} {l : List AOper} {K : St → Prop} {T : List AVal} {H : Heap} {pre : Nat → Nat → Bool} {rest : List (Nat × AOper)} {log : PLog} {j : Nat} {a : AVal} {p q : Prop}
instance [Br a p q] : Sp (condX P n0 Q s t e a) p q (wpx P n0 t Q s) (wpx P n0 e Q s) := ⟨cB⟩
instance [Br a p q] : Sp (guardX P dst op l K T H true a) p q (xOne P ⟨dst, op, none⟩ (xOps P l K) ⟨T, H⟩) (xOps P l K ⟨setDst T dst skipV, H⟩) := ⟨gT⟩
instance [Br a p q] : Sp (guardX P dst op l K T H false a) q p (xOne P ⟨dst, op, none⟩ (xOps P l K) ⟨T, H⟩) (xOps P l K ⟨setDst T dst skipV, H⟩) := ⟨gF⟩
instance [Br a p q] : Sp (guardD P n0 pre j dst op rest log K T H true a) p q (xDrawn P n0 pre ((j, ⟨dst, op, none⟩) :: rest) log K ⟨T, H⟩) (xDrawn P n0 pre rest log K ⟨setDst T dst skipV, H⟩) := ⟨dT⟩
instance [Br a p q] : Sp (guardD P n0 pre j dst op rest log K T H false a) q p (xDrawn P n0 pre ((j, ⟨dst, op, none⟩) :: rest) log K ⟨T, H⟩) (xDrawn P n0 pre rest log K ⟨setDst T dst skipV, H⟩) := ⟨dF⟩
end
theorem orR {α : Sort _} {a : α} {p q : Prop} (h : q) : (p ∨ a = a) ∧ q := ⟨.inr rfl, h⟩
theorem mpC : (∀ {α β : Type} {f : α → β} {a : α} {l : List α}, (a :: l).map f = f a :: l.map f) ∧ ∀ {α β : Type} {f : α → β}, [].map f = [] := ⟨rfl, rfl⟩
theorem apC : (∀ {α : Type} {a : α} {l r : List α}, a :: l ++ r = a :: (l ++ r)) ∧ ∀ {α : Type} {l : List α}, [] ++ l = l := ⟨rfl, rfl⟩
theorem sp {G p q A B : Prop} [h : Sp G p q A B] (x : p → A) (y : q → B) : G := h.out x y
theorem bs : (∀ {α : Type} {a b : α}, (bif true then a else b) = a) ∧ (∀ {α : Type} {a b : α}, (bif false then a else b) = b) ∧ (∀ b : Bool, (b && true) = b) ∧ (∀ b : Bool, (true && b) = b) ∧ (∀ b : Bool, (b && false) = false) ∧ (∀ b : Bool, (false && b) = false) ∧ (∀ b : Bool, (b || true) = true) ∧ (∀ b : Bool, (true || b) = true) ∧ (∀ b : Bool, (b || false) = b) ∧ (∀ b : Bool, (false || b) = b) ∧ (!true) = false ∧ (!false) = true ∧ decide True = true ∧ decide False = false := by
 refine ⟨rfl, rfl, ?_, ?_, ?_, ?_, ?_, ?_, ?_, ?_, rfl, rfl, ?_, ?_⟩ <;> simp
theorem into {P : Program} {f : FuncId} {c : ACode} {nt : Nat} {rs : List ARes} (hok : fnOk P f c nt rs = true) {args : List AVal} {H : Heap} {K : AVal → Heap → Prop}
 (h : wpx P H.length c (bodyX rs K) ⟨mkT nt (argL args 0), H⟩) (hl : Nat.ble args.length nt = true := by rfl) : ACalls P f args H K := ACalls.into hok (Nat.le_of_ble_eq_true hl) h
end Go.Ax

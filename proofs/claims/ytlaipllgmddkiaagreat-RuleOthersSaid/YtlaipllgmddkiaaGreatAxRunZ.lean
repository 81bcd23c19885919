/- The abstract machine run on closed inputs; what a run yields holds of the program's calls. Conditions: none. -/
import Derived.Test.YtlaipllgmddkiaaGreatAxEnterZ
set_option linter.all false
namespace Go.Ax
open Go Go.RowKit
def litBeq : Value → Value → Bool
 | .pointer none, .pointer none => true
 | .slice none 0 0, .slice none 0 0 => true
 | .map none, .map none => true
 | .nilFunc, .nilFunc => true
 | .nilIface, .nilIface => true
 | .float k a, .float k' b => k == k' && a == b
 | .complex k a c, .complex k' b d => k == k' && a == b && c == d
 | _, _ => false
theorem litBeq_eq {x y : Value} (h : litBeq x y = true) : x = y := by
 unfold litBeq at h
 split at h <;> simp_all
mutual
def vBeq : AVal → AVal → Bool
 | .int k n, b => (match b with | .int k' m => k == k' && n == m | _ => false)
 | .bool a, b => (match b with | .bool c => a == c | _ => false)
 | .str a, b => (match b with | .str c => a == c | _ => false)
 | .lit x, b => (match b with | .lit y => litBeq x y | _ => false)
 | .ptr o n i j, b => (match b with | .ptr o' n' i' j' => o == o' && n == n' && i == i' && j == j' | _ => false)
 | .slice o n st len full, b => (match b with | .slice o' n' st' len' full' => o == o' && n == n' && st == st' && len == len' && full == full' | _ => false)
 | .acc o n, b => (match b with | .acc o' n' => o == o' && n == n' | _ => false)
 | .isl o n i j len, b => (match b with | .isl o' n' i' j' len' => o == o' && n == n' && i == i' && j == j' && len == len' | _ => false)
 | .map o, b => (match b with | .map o' => o == o' | _ => false)
 | .itr o, b => (match b with | .itr o' => o == o' | _ => false)
 | .agg l, b => (match b with | .agg r => vBeqs l r | _ => false)
 | .tup l, b => (match b with | .tup r => vBeqs l r | _ => false)
 | .top, _ => false
 | .func f l, b => (match b with | .func g r => f == g && vBeqs l r | _ => false)
 | .iface _ _, _ => false
def vBeqs : List AVal → List AVal → Bool
 | [], r => (match r with | [] => true | _ => false)
 | a :: l, r => (match r with | b :: r => vBeq a b && vBeqs l r | [] => false)
end
mutual
theorem vBeq_eq : ∀ (a b : AVal), vBeq a b = true → a = b
 | .int k n, b, h => by cases b <;> simp [vBeq] at h; simp [h]
 | .bool a, b, h => by cases b <;> simp [vBeq] at h; simp [h]
 | .str a, b, h => by cases b <;> simp [vBeq] at h; simp [h]
 | .lit x, b, h => by cases b <;> simp [vBeq] at h; rw [litBeq_eq h]
 | .ptr o n i j, b, h => by cases b <;> simp [vBeq] at h; simp [h]
 | .slice o n st len full, b, h => by cases b <;> simp [vBeq] at h; simp [h]
 | .acc o n, b, h => by cases b <;> simp [vBeq] at h; simp [h]
 | .isl o n i j len, b, h => by cases b <;> simp [vBeq] at h; simp [h]
 | .map o, b, h => by cases b <;> simp [vBeq] at h; simp [h]
 | .itr o, b, h => by cases b <;> simp [vBeq] at h; simp [h]
 | .agg l, b, h => by cases b <;> simp [vBeq] at h; rw [vBeqs_eq _ _ h]
 | .tup l, b, h => by cases b <;> simp [vBeq] at h; rw [vBeqs_eq _ _ h]
 | .top, b, h => by simp [vBeq] at h
 | .func f l, b, h => by
  cases b <;> simp [vBeq] at h
  rw [h.1, vBeqs_eq _ _ h.2]
 | .iface _ _, b, h => by simp [vBeq] at h
theorem vBeqs_eq : ∀ (l r : List AVal), vBeqs l r = true → l = r
 | [], r, h => by cases r <;> simp [vBeqs] at h; rfl
 | a :: l, r, h => by
  cases r with
  | nil => simp [vBeqs] at h
  | cons b r =>
   simp only [vBeqs, Bool.and_eq_true] at h
   rw [vBeq_eq _ _ h.1, vBeqs_eq _ _ h.2]
end
abbrev CallF := FuncId → List AVal → Heap → Option (AVal × Heap)
def exOne (call : CallF) (o : AOper) (s : St) : Option St :=
 match o.op with
 | .call f args => match call f (args.map (aget s.T)) s.H with
  | some (v, H') => some ⟨setDst s.T o.dst v, H'⟩
  | none => none
 | .callv x args => match aget s.T x with
  | .func f cap => match call f (args.map (aget s.T) ++ cap) s.H with
   | some (v, H') => some ⟨setDst s.T o.dst v, H'⟩
   | none => none
  | _ => none
 | op => match aStep s.T s.H op with
  | some (v, H') => some ⟨setDst s.T o.dst v, H'⟩
  | none => none
def exOps (call : CallF) : List AOper → St → Option St
 | [], s => some s
 | o :: l, s => match o.guard with
  | none => match exOne call o s with
   | some s' => exOps call l s'
   | none => none
  | some (d, b) => match gof (aget s.T (.t d)) with
   | some g => if g = some b then (match exOne call o s with
    | some s' => exOps call l s'
    | none => none) else exOps call l ⟨setDst s.T o.dst skipV, s.H⟩
   | none => none
structure Log where
 idx : Nat
 op : AOp
 T : List AVal
 v : AVal
def exChk (pre : Nat → Bool) (H : Heap) : List Log → Bool
 | [] => true
 | l :: r => (pre l.idx || (match aStep l.T H l.op with
  | some (v, _) => l.op.quiet && vBeq v l.v
  | none => false)) && exChk pre H r
def exDrawn (call : CallF) (n0 : Nat) (pre : Nat → Nat → Bool) : List (Nat × AOper) → List Log → St → Option St
 | [], _, s => some s
 | (i, o) :: rest, log, s => match (match o.guard with
  | none => some true
  | some (d, b) => match gof (aget s.T (.t d)) with
   | some g => some (g == some b)
   | none => none) with
  | some true => (match o.op with
   | .born k b => (match bornStep s.T (n0 + k) b with
    | some (v, x) => exDrawn call n0 pre rest log ⟨setDst s.T o.dst v, s.H.set (n0 + k) x⟩
    | none => none)
   | op => if op.quiet then (match aStep s.T s.H op with
    | some (v, _) => exDrawn call n0 pre rest (if op.pure then log else ⟨i, op, s.T, v⟩ :: log) ⟨setDst s.T o.dst v, s.H⟩
    | none => none)
    else (match exOne call o s with
     | some s' => if exChk (pre i) s'.H log then exDrawn call n0 pre rest log s' else none
     | none => none))
  | some false => exDrawn call n0 pre rest log ⟨setDst s.T o.dst skipV, s.H⟩
  | none => none
inductive XEnd where
 | normal
 | exit (i : Nat)
 | ret
def XEnd.toExit : XEnd → Exit
 | .normal => .normal
 | .exit i => .exit i
 | .ret => .ret
def iter : Nat → (St → Option (XEnd × St)) → St → Option (XEnd × St)
 | 0, _, _ => none
 | k + 1, f, s => match f s with
  | some (.normal, s') => iter k f s'
  | r => r
def ex (call : CallF) (k : Nat) : ACode → St → Option (XEnd × St)
 | .skip, s => some (.normal, s)
 | .wild, _ => none
 | .region l, s => (exOps call l s).map fun s' => (.normal, s')
 | .drawn wl aft nb, s => (exDrawn call s.H.length (preOf (befs aft [])) wl [] ⟨s.T, s.H ++ List.replicate nb .ghost⟩).map fun s' => (.normal, s')
 | .seq a b, s => match ex call k a s with
  | some (.normal, s') => ex call k b s'
  | r => r
 | .cond c t e, s => match aget s.T c with
  | .bool true => ex call k t s
  | .bool false => ex call k e s
  | _ => none
 | .block i c, s => match ex call k c s with
  | some (.exit j, s') => if j = i then some (.normal, s') else some (.exit j, s')
  | r => r
 | .loop c, s => iter k (ex call k c) s
 | .exit i, s => some (.exit i, s)
 | .ret, s => some (.ret, s)
structure FnTab where
 code : ACode
 nt : Nat
 res : List ARes
 prim : Option (List AVal → Option AVal) := none
def runF (tab : FuncId → Option FnTab) (loops : Nat) : Nat → CallF
 | 0, _, _, _ => none
 | k + 1, f, args, H => match tab f with
  | none => none
  | some t => match t.prim with
   | some p => (p args).map (·, H)
   | none => match ex (runF tab loops k) loops t.code ⟨args ++ List.replicate (t.nt - args.length) .top, H⟩ with
    | some (.exit _, _) => none
    | some (_, s) => match aRes s t.res with
     | some l => some (aTuple l, s.H)
     | none => none
    | none => none
section sound
variable {P : Program} {call : CallF}
def CallOk (P : Program) (call : CallF) : Prop := ∀ f args H v H', call f args H = some (v, H') → callable P f = true ∧ ∀ K : AVal → Heap → Prop, K v H' → ACalls P f args H K
theorem exOne_sound (hc : CallOk P call) {o : AOper} {s s' : St} (h : exOne call o s = some s') {K : St → Prop} (hK : K s') : xOne P o K s := by
 unfold exOne at h
 unfold xOne
 split at h
 ·rename_i f args hop
  simp only [hop]
  split at h
  ·rename_i v H' hh
   injection h with h; subst h
   exact (hc _ _ _ _ _ hh).2 _ hK
  ·cases h
 ·rename_i x args hop
  simp only [hop]
  split at h
  case h_2 => cases h
  rename_i f cap hx
  simp only [hx]
  split at h
  ·rename_i v H' hh
   injection h with h; subst h
   exact ⟨(hc _ _ _ _ _ hh).1, (hc _ _ _ _ _ hh).2 _ hK⟩
  ·cases h
 ·rename_i hne hne'
  split
  ·rename_i f args hop; exact absurd hop (hne f args)
  ·rename_i x args hop; exact absurd hop (hne' x args)
  ·split at h
   ·rename_i hs; rw [hs]; injection h with h; subst h; exact hK
   ·cases h
theorem exOps_sound (hc : CallOk P call) {K : St → Prop} : ∀ (l : List AOper) (s s' : St), exOps call l s = some s' → K s' → xOps P l K s
 | [], s, s', h, hK => by simp only [exOps, Option.some.injEq] at h; subst h; exact hK
 | o :: l, s, s', h, hK => by
  simp only [exOps] at h
  simp only [xOps, xOp]
  have one : (match exOne call o s with | some s' => exOps call l s' | none => none) = some s' → xOne P o (xOps P l K) s := by
   intro h
   split at h
   ·rename_i s1 h1; exact exOne_sound hc h1 (exOps_sound hc l s1 s' h hK)
   ·cases h
  split at h
  ·rename_i hg; simp only [hg]; exact one h
  ·rename_i d b hg
   simp only [hg]
   split at h
   ·rename_i g hgv
    simp only [hgv]
    split at h
    ·rename_i hgb; exact ⟨fun _ => one h, fun hn => absurd hgb hn⟩
    ·rename_i hgb; exact ⟨fun hh => absurd hh hgb, fun _ => exOps_sound hc l _ s' h hK⟩
   ·cases h
def LogsOk (l : List Log) (log : PLog) : Prop := ∀ e ∈ log, ∃ a ∈ l, a.idx = e.1 ∧ a.op.quiet = true ∧ ∀ H, aStep a.T H a.op = some (a.v, H) → e.2 H
theorem exChk_sound {pre : Nat → Bool} {H : Heap} {l : List Log} {log : PLog} (hl : LogsOk l log) (h : exChk pre H l = true) : chkS pre H log := by
 rw [chkS_iff]
 intro e he
 obtain ⟨a, ha, hi, hq, hp⟩ := hl e he
 have : ∀ {l : List Log}, exChk pre H l = true → a ∈ l → pre a.idx = true ∨ aStep a.T H a.op = some (a.v, H) := by
  intro l
  induction l with
  | nil => intro _ h; cases h
  | cons b l ih =>
   intro h hm
   simp only [exChk, Bool.and_eq_true, Bool.or_eq_true] at h
   rcases List.mem_cons.1 hm with rfl | hm
   ·refine h.1.imp id fun h => ?_
    split at h
    ·rename_i v H' hs
     rw [Bool.and_eq_true] at h
     have hh : H' = H := quiet_heap h.1 hs
     rw [hs, vBeq_eq _ _ h.2, hh]
    ·cases h
   ·exact ih h.2 hm
 rcases this h ha with h1 | h1
 ·exact .inr (by rw [← hi]; exact h1)
 ·exact .inl (hp H h1)
theorem exDrawn_sound (hc : CallOk P call) {n0 : Nat} {pre : Nat → Nat → Bool} {K : St → Prop} : ∀ (l : List (Nat × AOper)) (logs : List Log) (log : PLog) (s s' : St), LogsOk logs log → exDrawn call n0 pre l logs s = some s' → K s' → xDrawn P n0 pre l log K s
 | [], logs, log, s, s', _, h, hK => by simp only [exDrawn, Option.some.injEq] at h; subst h; exact hK
 | (i, o) :: rest, logs, log, s, s', hl, h, hK => by
  show stepD P n0 (pre i) i o log (fun log' s' => xDrawn P n0 pre rest log' K s') s
  simp only [exDrawn] at h
  have run : (match o.op with
   | .born k b => (match bornStep s.T (n0 + k) b with
    | some (v, x) => exDrawn call n0 pre rest logs ⟨setDst s.T o.dst v, s.H.set (n0 + k) x⟩
    | none => none)
   | op => if op.quiet then (match aStep s.T s.H op with
    | some (v, _) => exDrawn call n0 pre rest (if op.pure then logs else ⟨i, op, s.T, v⟩ :: logs) ⟨setDst s.T o.dst v, s.H⟩
    | none => none)
    else (match exOne call o s with
     | some s' => if exChk (pre i) s'.H logs then exDrawn call n0 pre rest logs s' else none
     | none => none)) = some s' → actD P n0 (pre i) i o log (fun log' s' => xDrawn P n0 pre rest log' K s') s := by
   intro h
   split at h
   ·rename_i k b hop
    split at h
    ·rename_i hb
     simp only [actD, hop, hb]
     exact exDrawn_sound hc rest logs log _ s' hl h hK
    ·cases h
   ·rename_i hnb
    rw [actD_nb (fun k b e => hnb k b e)]
    split at h
    ·rename_i hq
     rw [if_pos hq]
     split at h
     ·rename_i v H' hs
      rw [hs]
      by_cases hpu : o.op.pure = true
      ·simp only [hpu, if_true] at h ⊢
       exact exDrawn_sound hc rest _ _ _ s' hl h hK
      simp only [hpu, Bool.false_eq_true, if_false] at h ⊢
      refine exDrawn_sound hc rest _ _ _ s' (fun e he => ?_) h hK
      rcases List.mem_cons.1 he with rfl | he
      ·exact ⟨_, List.mem_cons_self, rfl, hq, fun H h => h⟩
      ·obtain ⟨a, ha, q⟩ := hl e he
       exact ⟨a, List.mem_cons_of_mem _ ha, q⟩
     ·cases h
    ·rename_i hq
     rw [if_neg hq]
     split at h
     ·rename_i s1 h1
      split at h
      ·rename_i hch; exact exOne_sound hc h1 ⟨exChk_sound hl hch, exDrawn_sound hc rest _ _ _ s' hl h hK⟩
      ·cases h
     ·cases h
  unfold stepD
  split at h
  ·rename_i hg
   split at hg
   ·rename_i hgd; simp only [hgd]; exact run h
   ·rename_i d b hgd
    simp only [hgd]
    split at hg
    ·rename_i g hgv
     simp only [hgv]
     have : g = some b := by simpa using hg
     exact ⟨fun _ => run h, fun hn => absurd this hn⟩
    ·cases hg
  ·rename_i hg
   split at hg
   ·cases hg
   ·rename_i d b hgd
    simp only [hgd]
    split at hg
    ·rename_i g hgv
     simp only [hgv]
     have : g ≠ some b := by simpa using hg
     exact ⟨fun hh => absurd hh this, fun _ => exDrawn_sound hc rest _ _ _ s' hl h hK⟩
    ·cases hg
  ·cases h
theorem iter_sound {n0 : Nat} {c : ACode} {f : St → Option (XEnd × St)} (hf : ∀ s e s' (Q : Exit → St → Prop), f s = some (e, s') → Q e.toExit s' → wpx P n0 c Q s) {Q : Exit → St → Prop} :
 ∀ (k : Nat) (s : St) (e : XEnd) (s' : St), iter k f s = some (e, s') → Q e.toExit s' → ALoop P n0 c Q s
 | 0, _, _, _, h, _ => by cases h
 | k + 1, s, e, s', h, hQ => by
  simp only [iter] at h
  split at h
  ·rename_i s1 h1
   exact ALoop.unfold (hf s .normal s1 _ h1 (iter_sound hf k s1 e s' h hQ))
  ·rename_i h1
   refine ALoop.unfold (hf s e s' _ h ?_)
   cases e with
   | normal => exact absurd h (h1 s')
   | exit i => exact hQ
   | ret => exact hQ
theorem ex_sound (hc : CallOk P call) (n0 k : Nat) : ∀ (c : ACode) (s : St) (e : XEnd) (s' : St) (Q : Exit → St → Prop), ex call k c s = some (e, s') → Q e.toExit s' → wpx P n0 c Q s
 | .wild, _, _, _, _, h, _ => by cases h
 | .skip, s, e, s', Q, h, hQ => by simp only [ex, Option.some.injEq, Prod.mk.injEq] at h; obtain ⟨rfl, rfl⟩ := h; exact hQ
 | .ret, s, e, s', Q, h, hQ => by simp only [ex, Option.some.injEq, Prod.mk.injEq] at h; obtain ⟨rfl, rfl⟩ := h; exact hQ
 | .exit i, s, e, s', Q, h, hQ => by simp only [ex, Option.some.injEq, Prod.mk.injEq] at h; obtain ⟨rfl, rfl⟩ := h; exact hQ
 | .region l, s, e, s', Q, h, hQ => by
  simp only [ex, Option.map_eq_some_iff, Prod.mk.injEq] at h
  obtain ⟨s1, h1, rfl, rfl⟩ := h
  exact exOps_sound hc l s s1 h1 hQ
 | .drawn wl aft nb, s, e, s', Q, h, hQ => by
  simp only [ex, Option.map_eq_some_iff, Prod.mk.injEq] at h
  obtain ⟨s1, h1, rfl, rfl⟩ := h
  exact exDrawn_sound hc _ [] [] _ s1 (fun e he => by cases he) h1 hQ
 | .seq a b, s, e, s', Q, h, hQ => by
  simp only [ex] at h
  simp only [wpx]
  split at h
  ·rename_i s1 h1
   exact ex_sound hc n0 k a s .normal s1 _ h1 (ex_sound hc n0 k b s1 e s' Q h hQ)
  ·rename_i h1
   refine ex_sound hc n0 k a s e s' _ h ?_
   cases e with
   | normal => exact absurd h (h1 s')
   | exit i => exact hQ
   | ret => exact hQ
 | .cond c t e', s, e, s', Q, h, hQ => by
  simp only [ex] at h
  simp only [wpx]
  split at h
  ·rename_i hb
   simp only [hb]
   exact ⟨fun _ => ex_sound hc n0 k t s e s' Q h hQ, (fun hh => by cases hh)⟩
  ·rename_i hb
   simp only [hb]
   exact ⟨(fun hh => by cases hh), fun _ => ex_sound hc n0 k e' s e s' Q h hQ⟩
  ·cases h
 | .block i c, s, e, s', Q, h, hQ => by
  simp only [ex] at h
  simp only [wpx]
  split at h
  ·rename_i j s1 h1
   refine ex_sound hc n0 k c s (.exit j) s1 _ h1 ?_
   simp only [XEnd.toExit, blockX]
   split at h
   ·rename_i hij
    simp only [Option.some.injEq, Prod.mk.injEq] at h; obtain ⟨rfl, rfl⟩ := h
    rw [if_pos hij]; exact hQ
   ·rename_i hij
    simp only [Option.some.injEq, Prod.mk.injEq] at h; obtain ⟨rfl, rfl⟩ := h
    rw [if_neg hij]; exact hQ
  ·rename_i h1
   refine ex_sound hc n0 k c s e s' _ h ?_
   cases e with
   | normal => exact hQ
   | exit j => exact absurd h (h1 j s')
   | ret => exact hQ
 | .loop c, s, e, s', Q, h, hQ => by
  simp only [ex] at h
  simp only [wpx]
  exact iter_sound (fun s e s' Q h hQ => ex_sound hc n0 k c s e s' Q h hQ) k s e s' h hQ
def PrimOk (P : Program) (f : FuncId) (p : List AVal → Option AVal) : Prop := callable P f = true ∧ ∀ args v, p args = some v → ∀ (H : Heap) (K : AVal → Heap → Prop), K v H → ACalls P f args H K
def FnTab.Ok (P : Program) (f : FuncId) (t : FnTab) : Prop := match t.prim with
 | some p => PrimOk P f p
 | none => fnOk P f t.code t.nt t.res = true
def TabOk (P : Program) (tab : FuncId → Option FnTab) : Prop := ∀ f t, tab f = some t → t.Ok P f
theorem runF_sound {tab : FuncId → Option FnTab} (ht : TabOk P tab) (loops : Nat) : ∀ k, CallOk P (runF tab loops k)
 | 0, _, _, _, _, _, h => by cases h
 | k + 1, f, args, H, v, H', h => by
  simp only [runF] at h
  split at h
  ·cases h
  rename_i t htf
  have hok := ht f t htf
  unfold FnTab.Ok at hok
  split at h
  ·rename_i p hp
   rw [hp] at hok
   simp only [Option.map_eq_some_iff, Prod.mk.injEq] at h
   obtain ⟨v', hv, rfl, rfl⟩ := h
   exact ⟨hok.1, fun K hK => hok.2 args v' hv H K hK⟩
  rename_i hp
  rw [hp] at hok
  simp only at hok
  refine ⟨callable_fn hok, fun K hK => ?_⟩
  refine ACalls.enter hok ?_
  split at h
  ·cases h
  ·rename_i e s hne hex
   split at h
   ·rename_i l hl
    simp only [Option.some.injEq, Prod.mk.injEq] at h; obtain ⟨rfl, rfl⟩ := h
    refine ex_sound (runF_sound ht loops k) _ loops t.code _ e s _ hex ?_
    cases e with
    | normal => simp only [XEnd.toExit, bodyX, hl]; exact hK
    | exit i => exact absurd rfl (hne i)
    | ret => simp only [XEnd.toExit, bodyX, hl]; exact hK
   ·cases h
  ·cases h
end sound
inductive Tab where
 | leaf
 | node (k : Nat) (t : FnTab) (l r : Tab)
def Tab.find : Tab → Nat → Option FnTab
 | .leaf, _ => none
 | .node k t l r, f => bif Nat.beq f k then some t else bif Nat.blt f k then l.find f else r.find f
def Tab.Ok (P : Program) : Tab → Prop
 | .leaf => True
 | .node k t l r => t.Ok P k ∧ l.Ok P ∧ r.Ok P
theorem Tab.ok {P : Program} : ∀ {T : Tab}, T.Ok P → TabOk P T.find
 | .leaf, _, _, _, hf => by cases hf
 | .node k t l r, h, f, t', hf => by
  simp only [Tab.find] at hf
  cases hk : Nat.beq f k with
  | true =>
   simp only [hk, cond_true, Option.some.injEq] at hf; subst hf
   have := Nat.eq_of_beq_eq_true hk; subst this
   exact h.1
  | false =>
   simp only [hk, cond_false] at hf
   cases hb : Nat.blt f k with
   | true => simp only [hb, cond_true] at hf; exact Tab.ok h.2.1 f t' hf
   | false => simp only [hb, cond_false] at hf; exact Tab.ok h.2.2 f t' hf
mutual
def AVal.flat : AVal → Bool
 | .int .. | .bool _ | .str _ | .lit _ => true
 | .agg l => flats l
 | .tup l => flats l
 | _ => false
def flats : List AVal → Bool
 | [] => true
 | a :: l => AVal.flat a && flats l
end
mutual
theorem VR.flat {σ σ' : Sig} {H H' : Heap} : ∀ (a : AVal) {v : Value}, a.flat = true → VR σ H a v → VR σ' H' a v
 | .int .., _, _, h => by simpa only [VR] using h
 | .bool _, _, _, h => by simpa only [VR] using h
 | .str _, _, _, h => by simpa only [VR] using h
 | .lit _, _, _, h => by simpa only [VR] using h
 | .agg l, _, hf, h => by simp only [VR, AVal.flat] at *; obtain ⟨ha, cs, rfl, hc⟩ := h; exact ⟨ha, cs, rfl, VRs.flat l hf hc⟩
 | .tup l, _, hf, h => by simp only [VR, AVal.flat] at *; obtain ⟨cs, rfl, hc⟩ := h; exact ⟨cs, rfl, VRs.flat l hf hc⟩
 | .top, _, hf, _ => by simp [AVal.flat] at hf
 | .ptr .., _, hf, _ => by simp [AVal.flat] at hf
 | .slice .., _, hf, _ => by simp [AVal.flat] at hf
 | .acc .., _, hf, _ => by simp [AVal.flat] at hf
 | .isl .., _, hf, _ => by simp [AVal.flat] at hf
 | .map .., _, hf, _ => by simp [AVal.flat] at hf
 | .itr .., _, hf, _ => by simp [AVal.flat] at hf
 | .func .., _, hf, _ => by simp [AVal.flat] at hf
 | .iface .., _, hf, _ => by simp [AVal.flat] at hf
theorem VRs.flat {σ σ' : Sig} {H H' : Heap} : ∀ (l : List AVal) {r : List Value}, flats l = true → VRs σ H l r → VRs σ' H' l r
 | [], [], _, _ => by simp
 | [], _ :: _, _, h => by simp [VRs] at h
 | _ :: _, [], _, h => by simp [VRs] at h
 | a :: l, v :: r, hf, h => by
  simp only [flats, Bool.and_eq_true] at hf
  rw [VRs_cons] at h ⊢
  exact ⟨VR.flat a hf.1 h.1, VRs.flat l hf.2 h.2⟩
end
theorem ACalls.flat {P : Program} {f : FuncId} {args : List AVal} (ha : flats args = true) {R : AVal → Prop} (h : ACalls P f args [] fun v _ => v.flat = true ∧ R v) {H : Heap} {K : AVal → Heap → Prop} (hK : ∀ v, R v → K v H) : ACalls P f args H K := by
 intro B σ w vs hR hV
 refine (h (· < w.heap.size) σ w vs ⟨fun ho => by simp at ho, fun ho => by simp at ho, fun _ h => h⟩ (VRs.flat args ha hV)).mono ?_
 rintro e w' ⟨x, σ', v, H', rfl, ⟨hf, hv⟩, -, hx, -, hb⟩
 refine ⟨x, σ, v, H, rfl, hK v hv, ⟨fun {o y} ho => ?_, hR.apart, fun k hk => Nat.lt_of_lt_of_le (hR.base k hk) hb.size⟩, VR.flat v hf hx, Ext.refl _ _, hb.mono hR.base⟩
 have hr := hR.obj ho
 -- a block that is read is an old one
 have blk : ∀ {k : Nat} {z : Obj}, w.heap[k]? = some z → w'.heap[k]? = w.heap[k]? := fun {k z} hz => hb.block k (by
  rcases Nat.lt_or_ge k w.heap.size with h' | h'
  ·exact h'
  ·simp [Array.getElem?_eq_none h'] at hz)
 cases y with
 | arr s xs ro =>
  obtain ⟨h1, h2, h3⟩ := hr
  refine ⟨h1, h2, h3.imp id ?_⟩
  rintro ⟨c, e, fr, hbb, r⟩
  exact ⟨c, e, fr, (blk hbb).trans hbb, r⟩
 | map es =>
  obtain ⟨h1, ms, clock, hbb, r⟩ := hr
  exact ⟨h1, ms, clock, (blk hbb).trans hbb, r⟩
 | iter s p => exact ⟨hr.1, (blk hr.2).trans hr.2⟩
 | ghost => trivial
theorem run_known {P : Program} {tab : FuncId → Option FnTab} (ht : TabOk P tab) {f : FuncId} {args : List AVal} {v : AVal} {loops k : Nat} (h : (runF tab loops k f args []).map (·.1) = some v) (ha : flats args = true) (hv : v.flat = true) {H : Heap} {K : AVal → Heap → Prop} (hK : K v H) : ACalls P f args H K := by
 rw [Option.map_eq_some_iff] at h
 obtain ⟨⟨v', H'⟩, hr, rfl⟩ := h
 exact ACalls.flat ha (R := fun x => x = v') ((runF_sound ht loops k f args [] _ _ hr).2 (fun v _ => v.flat = true ∧ v = v') ⟨hv, rfl⟩) (fun x hx => hx ▸ hK)
end Go.Ax

/- Structs and arrays of numbers, bools and strings, held against each other. Conditions: none. -/
import Derived.Test.YtlaipllgmddkiaaGreatAxOpZ
import Derived.Laws.StructEq
import Derived.ChangeKeysEq
set_option linter.all false
namespace Go.Ax
open Go Go.RowKit
def leafsF (P : Program) (g : TypeId → Option (List Nat)) : List Field → Nat → Option (List Nat)
 | [], _ => some []
 | f :: fs, off => if f.name ≠ "_" ∧ f.offset = off then (match g f.type with
  | some l => if P.cellsOf f.type = l.length ∧ 0 < l.length then (leafsF P g fs (off + l.length)).map (l ++ ·) else none
  | none => none) else none
def leafs (P : Program) : Nat → TypeId → Option (List Nat)
 | 0, _ => none
 | d + 1, t => match P.underlying t with
  | some (.int _) => some [0]
  | some .bool => some [1]
  | some .string => some [2]
  | some (.struct fs) => if P.stoodInHeld t then none else leafsF P (leafs P d) fs.toList 0
  | some (.array n e) => match leafs P d e with
   | some l => if P.cellsOf e = l.length then some (List.replicate n l).flatten else none
   | none => none
  | _ => none
theorem cellsEq_append : ∀ {ks ks' : List Nat} {a a' b b' : List AVal}, ks.length = a.length → ks.length = b.length →
 cellsEq (ks ++ ks') (a ++ a') (b ++ b') = (match cellsEq ks a b, cellsEq ks' a' b' with | some x, some y => some (x && y) | _, _ => none)
 | [], ks', [], a', [], b', _, _ => by
  simp only [List.nil_append, cellsEq]
  cases cellsEq ks' a' b' <;> simp
 | k :: ks, ks', x :: a, a', y :: b, b', h, h' => by
  have ih := cellsEq_append (ks := ks) (ks' := ks') (a := a) (a' := a') (b := b) (b' := b') (by simpa using h) (by simpa using h')
  simp only [List.cons_append, cellsEq, ih]
  cases cellEq k x y with
  | none => simp
  | some u => cases cellsEq ks a b with
   | none => simp
   | some v => cases cellsEq ks' a' b' with
    | none => simp
    | some z => simp [Bool.and_assoc]
 | [], _, _ :: _, _, _, _, h, _ => by simp at h
 | [], _, [], _, _ :: _, _, _, h => by simp at h
 | _ :: _, _, [], _, _, _, h, _ => by simp at h
 | _ :: _, _, _ :: _, _, [], _, _, h => by simp at h
theorem cellsEq_length : ∀ {ks : List Nat} {a b : List AVal} {r : Bool}, cellsEq ks a b = some r → ks.length = a.length ∧ ks.length = b.length
 | [], [], [], _, _ => by simp
 | k :: ks, x :: a, y :: b, r, h => by
  simp only [cellsEq] at h
  split at h
  ·rename_i hh
   have := cellsEq_length hh
   simpa using this
  ·cases h
 | [], _ :: _, _, _, h => by simp [cellsEq] at h
 | [], [], _ :: _, _, h => by simp [cellsEq] at h
 | _ :: _, [], _, _, h => by simp [cellsEq] at h
 | _ :: _, _ :: _, [], _, h => by simp [cellsEq] at h
def valOf (agg : Bool) (cs : List Value) : Value := if agg then .agg cs.toArray else cs.headD undef
def isAggB (P : Program) (t : TypeId) : Bool := match P.underlying t with
 | some (.struct _) | some (.array _ _) => true
 | _ => false
theorem leafs_length {P : Program} {d : Nat} {t : TypeId} {ks : List Nat} (h : leafs P d t = some ks) (hn : isAggB P t = false) : ks.length = 1 := by
 cases d with
 | zero => simp [leafs] at h
 | succ d =>
  simp only [leafs, isAggB] at h hn
  split at h <;> simp_all <;> (subst h; rfl)
theorem run_part_val {P : Program} (w : World) (t : TypeId) (cs : List Value) (off : Nat) (n : Nat) (hs : P.cellsOf t = n) (hd : ∃ d, P.underlying t = some d) (hi : ∃ i, P.info? t = some i)
 (hl : off + n ≤ cs.length) (hn : isAggB P t = false → n = 1) :
 (part t cs.toArray off).run P w = .ok (valOf (isAggB P t) ((cs.drop off).take n)) w := by
 obtain ⟨d, hd⟩ := hd
 obtain ⟨i, hi⟩ := hi
 have hsz : i.size = n := by simpa [Program.cellsOf, hi] using hs
 unfold part isAgg
 simp only [Sem.run_bind, run_underlying hd w, Result.andThen_ok]
 have hagg : isAggB P t = (match d with | .struct _ | .array _ _ => true | _ => false) := by simp only [isAggB, hd]; cases d <;> rfl
 cases d
 case struct fs => simp [sizeOf, typeInfo, hi, hsz, valOf, hagg]
 case array m e => simp [sizeOf, typeInfo, hi, hsz, valOf, hagg]
 all_goals
  have hn1 : n = 1 := hn (by simp [hagg])
  subst hn1
  have hlt : off < cs.length := by omega
  have e1 : (cs.drop off).take 1 = [cs[off]] := by
   rw [List.drop_eq_getElem_cons hlt]; rfl
  rw [e1]
  simp [valOf, hagg, hlt]
theorem underlying_info {P : Program} {t : TypeId} {d : TypeDesc} (h : P.underlying t = some d) : ∃ i, P.info? t = some i := by
 cases hi : P.info? t with
 | none => simp [Program.underlying, hi] at h
 | some i => exact ⟨i, rfl⟩
theorem valOf_one {σ : Sig} {H : Heap} {k : Nat} {a b : AVal} {r : Bool} {x y : Value} (hc : cellEq k a b = some r) (hx : VR σ H a x) (hy : VR σ H b y) :
 (k = 0 ∧ ∃ kk m n, x = .int kk m ∧ y = .int kk n ∧ r = decide (m = n)) ∨ (k = 1 ∧ ∃ m n, x = .bool m ∧ y = .bool n ∧ r = decide (m = n)) ∨
 (k = 2 ∧ ∃ m n : List UInt8, x = .string ⟨m.toArray⟩ ∧ y = .string ⟨n.toArray⟩ ∧ r = decide (m = n)) := by
 unfold cellEq at hc
 split at hc
 ·split at hc
  ·rename_i hk; subst hk
   simp only [VR] at hx hy
   injection hc with hc
   exact .inl ⟨rfl, _, _, _, hx, hy, hc.symm⟩
  ·cases hc
 ·simp only [VR] at hx hy
  injection hc with hc
  exact .inr (.inl ⟨rfl, _, _, hx, hy, hc.symm⟩)
 ·simp only [VR] at hx hy
  injection hc with hc
  exact .inr (.inr ⟨rfl, _, _, hx, hy, hc.symm⟩)
 ·cases hc
theorem bytes_toList (l : List UInt8) : (⟨l.toArray⟩ : ByteArray).toList = l := by
 rw [ByteArray.toList_eq]
theorem VRs.split {σ : Sig} {H : Heap} {l : List AVal} {r : List Value} (h : VRs σ H l r) (n : Nat) : VRs σ H (l.take n) (r.take n) ∧ VRs σ H (l.drop n) (r.drop n) := ⟨h.take n, h.drop n⟩
theorem run_eqFields {P : Program} (w : World) (d : Nat) (xs ys : List Value) {σ : Sig} {H : Heap} (la lb : List AVal) (hx : VRs σ H la xs) (hy : VRs σ H lb ys)
 (ih : ∀ t ks, leafs P d t = some ks → ∀ (xs ys : List Value) (la lb : List AVal) r, VRs σ H la xs → VRs σ H lb ys → cellsEq ks la lb = some r →
  (Op.equalIn d t (valOf (isAggB P t) xs) (valOf (isAggB P t) ys)).run P w = .ok r w) :
 ∀ (fs : List Field) (off : Nat) (ks : List Nat) r, leafsF P (leafs P d) fs off = some ks → cellsEq ks (la.drop off) (lb.drop off) = some r →
  (Op.eqFields d xs.toArray ys.toArray fs).run P w = .ok r w
 | [], off, ks, r, hl, hc => by
  simp only [leafsF, Option.some.injEq] at hl; subst hl
  cases hla : la.drop off with
  | cons a l => rw [hla] at hc; simp [cellsEq] at hc
  | nil => cases hlb : lb.drop off with
   | cons a l => rw [hla, hlb] at hc; simp [cellsEq] at hc
   | nil => rw [hla, hlb] at hc; simp [cellsEq] at hc; subst hc; simp [Op.eqFields]
 | f :: fs, off, ks, r, hl, hc => by
  simp only [leafsF] at hl
  split at hl
  case isFalse => cases hl
  rename_i hf
  obtain ⟨hname, hoff⟩ := hf
  split at hl
  case h_2 => cases hl
  rename_i l hg
  split at hl
  case isFalse => cases hl
  rename_i hsz
  obtain ⟨hsz, hpos⟩ := hsz
  rw [Option.map_eq_some_iff] at hl
  obtain ⟨ks', hl', rfl⟩ := hl
  obtain ⟨e1, e2⟩ := cellsEq_length hc
  simp only [List.length_append, List.length_drop] at e1 e2
  have hla : la.drop off = (la.drop off).take l.length ++ la.drop (off + l.length) := by rw [← List.drop_drop, List.take_append_drop]
  have hlb : lb.drop off = (lb.drop off).take l.length ++ lb.drop (off + l.length) := by rw [← List.drop_drop, List.take_append_drop]
  rw [hla, hlb, cellsEq_append (by simp; omega) (by simp; omega)] at hc
  have hxl := hx.length
  have hyl := hy.length
  have hd : ∃ d', P.underlying f.type = some d' := by
   cases d with
   | zero => simp [leafs] at hg
   | succ d =>
    simp only [leafs] at hg
    split at hg <;> first | exact ⟨_, ‹_›⟩ | cases hg
  have hn1 : isAggB P f.type = false → l.length = 1 := leafs_length hg
  have p1 := run_part_val w f.type xs off l.length hsz hd (underlying_info hd.choose_spec) (by omega) hn1
  have p2 := run_part_val w f.type ys off l.length hsz hd (underlying_info hd.choose_spec) (by omega) hn1
  split at hc
  case h_2 => cases hc
  rename_i u v hu hv
  injection hc with hc
  have i1 := ih f.type l hg _ _ _ _ u ((hx.drop off).take l.length) ((hy.drop off).take l.length) hu
  have i2 := run_eqFields w d xs ys la lb hx hy ih fs (off + l.length) ks' v hl' hv
  simp only [Op.eqFields, hname, hoff, ne_eq, not_false_eq_true, if_true, Sem.run_bind, p1, p2, Result.andThen_ok, i1]
  subst hc
  cases u
  ·simp
  ·simpa using i2
theorem isAggB_of {P : Program} {t : TypeId} {d : TypeDesc} (h : P.underlying t = some d) : isAggB P t = (match d with | .struct _ | .array _ _ => true | _ => false) := by
 simp only [isAggB, h]; cases d <;> rfl
theorem run_eqArr {P : Program} (w : World) (d e : Nat) (l : List Nat) (hg : leafs P d e = some l) (hsz : P.cellsOf e = l.length) (xs ys : List Value) {σ : Sig} {H : Heap} (la lb : List AVal)
 (hx : VRs σ H la xs) (hy : VRs σ H lb ys)
 (ih : ∀ t ks, leafs P d t = some ks → ∀ (xs ys : List Value) (la lb : List AVal) r, VRs σ H la xs → VRs σ H lb ys → cellsEq ks la lb = some r →
  (Op.equalIn d t (valOf (isAggB P t) xs) (valOf (isAggB P t) ys)).run P w = .ok r w) :
 ∀ (n k : Nat) r, (k + n) * l.length = la.length → (k + n) * l.length = lb.length → cellsEq (List.replicate n l).flatten (la.drop (k * l.length)) (lb.drop (k * l.length)) = some r →
  (Op.eqItems d e l.length xs.toArray ys.toArray (List.range' k n)).run P w = .ok r w
 | 0, k, r, h1, h2, hc => by
  have e1 : la.drop (k * l.length) = [] := by rw [List.drop_eq_nil_iff]; simp at h1; omega
  have e2 : lb.drop (k * l.length) = [] := by rw [List.drop_eq_nil_iff]; simp at h2; omega
  rw [e1, e2] at hc
  simp [cellsEq] at hc
  subst hc; simp [Op.eqItems]
 | n + 1, k, r, h1, h2, hc => by
  have hmul : (k + (n + 1)) * l.length = k * l.length + l.length + n * l.length := by rw [← Nat.add_assoc, Nat.add_right_comm]; simp [Nat.add_mul]
  have hk1 : (k + 1) * l.length = k * l.length + l.length := by simp [Nat.add_mul]
  have hxl := hx.length
  have hyl := hy.length
  have hla : la.drop (k * l.length) = (la.drop (k * l.length)).take l.length ++ la.drop ((k + 1) * l.length) := by rw [hk1, ← List.drop_drop, List.take_append_drop]
  have hlb : lb.drop (k * l.length) = (lb.drop (k * l.length)).take l.length ++ lb.drop ((k + 1) * l.length) := by rw [hk1, ← List.drop_drop, List.take_append_drop]
  rw [hla, hlb, List.replicate_succ, List.flatten_cons, cellsEq_append (by simp; omega) (by simp; omega)] at hc
  have hd : ∃ d', P.underlying e = some d' := by
   cases d with
   | zero => simp [leafs] at hg
   | succ d =>
    simp only [leafs] at hg
    split at hg <;> first | exact ⟨_, ‹_›⟩ | cases hg
  have hn1 : isAggB P e = false → l.length = 1 := leafs_length hg
  have p1 := run_part_val w e xs (k * l.length) l.length hsz hd (underlying_info hd.choose_spec) (by omega) hn1
  have p2 := run_part_val w e ys (k * l.length) l.length hsz hd (underlying_info hd.choose_spec) (by omega) hn1
  split at hc
  case h_2 => cases hc
  rename_i u v hu hv
  injection hc with hc
  have i1 := ih e l hg _ _ _ _ u ((hx.drop _).take l.length) ((hy.drop _).take l.length) hu
  have i2 := run_eqArr w d e l hg hsz xs ys la lb hx hy ih n (k + 1) v (by rw [show k + 1 + n = k + (n + 1) by omega]; exact h1) (by rw [show k + 1 + n = k + (n + 1) by omega]; exact h2) hv
  simp only [List.range'_succ, Op.eqItems, Sem.run_bind, p1, p2, Result.andThen_ok, i1]
  subst hc
  cases u
  ·simp
  ·simpa using i2
theorem run_equalIn_leafs {P : Program} (w : World) {σ : Sig} {H : Heap} : ∀ (d : Nat) (t : TypeId) (ks : List Nat), leafs P d t = some ks → ∀ (xs ys : List Value) (la lb : List AVal) (r : Bool),
 VRs σ H la xs → VRs σ H lb ys → cellsEq ks la lb = some r → (Op.equalIn d t (valOf (isAggB P t) xs) (valOf (isAggB P t) ys)).run P w = .ok r w
 | 0, _, _, h, _, _, _, _, _, _, _, _ => by simp [leafs] at h
 | d + 1, t, ks, h, xs, ys, la, lb, r, hx, hy, hc => by
  have ih : ∀ t ks, leafs P d t = some ks → ∀ (xs ys : List Value) (la lb : List AVal) r, VRs σ H la xs → VRs σ H lb ys → cellsEq ks la lb = some r →
   (Op.equalIn d t (valOf (isAggB P t) xs) (valOf (isAggB P t) ys)).run P w = .ok r w := fun t ks h xs ys la lb r hx hy hc => run_equalIn_leafs w d t ks h xs ys la lb r hx hy hc
  have one : ∀ {k : Nat}, cellsEq [k] la lb = some r → ∃ a b x y, la = [a] ∧ lb = [b] ∧ xs = [x] ∧ ys = [y] ∧ cellEq k a b = some r ∧ VR σ H a x ∧ VR σ H b y := by
   intro k hk
   obtain ⟨l1, l2⟩ := cellsEq_length hk
   match la, lb, xs, ys, l1, l2, hx.length, hy.length with
   | [a], [b], [x], [y], _, _, _, _ =>
    simp only [cellsEq] at hk
    rw [VRs_cons] at hx hy
    cases hh : cellEq k a b with
    | none => simp [hh] at hk
    | some u => simp [hh] at hk; subst hk; exact ⟨a, b, x, y, rfl, rfl, rfl, rfl, hh, hx.1, hy.1⟩
  simp only [leafs] at h
  split at h
  case h_1 kk hu =>
   injection h with h; subst h
   obtain ⟨a, b, x, y, rfl, rfl, rfl, rfl, hk, h1, h2⟩ := one hc
   rcases valOf_one hk h1 h2 with ⟨-, k', m, n, rfl, rfl, rfl⟩ | ⟨h, -⟩ | ⟨h, -⟩
   ·simp only [valOf, isAggB_of hu, Bool.false_eq_true, if_false, List.headD_cons]
    rw [run_equalIn_int w d t k' kk m n hu]; rfl
   ·cases h
   ·cases h
  case h_2 hu =>
   injection h with h; subst h
   obtain ⟨a, b, x, y, rfl, rfl, rfl, rfl, hk, h1, h2⟩ := one hc
   rcases valOf_one hk h1 h2 with ⟨h, -⟩ | ⟨-, m, n, rfl, rfl, rfl⟩ | ⟨h, -⟩
   ·cases h
   ·simp only [valOf, isAggB_of hu, Bool.false_eq_true, if_false, List.headD_cons]
    rw [run_equalIn_bool' w d t m n hu]; rfl
   ·cases h
  case h_3 hu =>
   injection h with h; subst h
   obtain ⟨a, b, x, y, rfl, rfl, rfl, rfl, hk, h1, h2⟩ := one hc
   rcases valOf_one hk h1 h2 with ⟨h, -⟩ | ⟨h, -⟩ | ⟨-, m, n, rfl, rfl, rfl⟩
   ·cases h
   ·cases h
   ·simp only [valOf, isAggB_of hu, Bool.false_eq_true, if_false, List.headD_cons]
    rw [run_equalIn_string w d t _ _ hu, bytes_toList, bytes_toList]; congr 1; rw [Bool.eq_iff_iff]; simp
  case h_4 fs hu =>
   split at h
   ·cases h
   ·rename_i hst
    have hf : P.fieldsOf t = fs := by simp [Program.fieldsOf, hu]
    simp only [valOf, isAggB_of hu, if_true]
    rw [run_equalIn_struct w d t _ _ (by rw [hf]; exact hu) (by simpa using hst), hf]
    exact run_eqFields w d xs ys la lb hx hy ih fs.toList 0 ks r h (by simpa using hc)
  case h_5 n e hu =>
   split at h
   case h_2 => cases h
   rename_i l hg
   split at h
   case isFalse => cases h
   rename_i hsz
   injection h with h; subst h
   have hd : ∃ d', P.underlying e = some d' := by
    cases d with
    | zero => simp [leafs] at hg
    | succ d =>
     simp only [leafs] at hg
     split at hg <;> first | exact ⟨_, ‹_›⟩ | cases hg
   obtain ⟨i, hi⟩ := underlying_info hd.choose_spec
   obtain ⟨l1, l2⟩ := cellsEq_length hc
   have lf : ∀ n, ((List.replicate n l).flatten).length = n * l.length := fun n => by simp
   rw [lf] at l1 l2
   simp only [valOf, isAggB_of hu, if_true]
   rw [run_equalIn_array w d _ _ hu hi, hsz, List.range_eq_range']
   exact run_eqArr w d e l hg hsz xs ys la lb hx hy ih n 0 r (by rw [Nat.zero_add]; exact l1) (by rw [Nat.zero_add]; exact l2) (by simpa using hc)
  case h_6 => cases h
end Go.Ax

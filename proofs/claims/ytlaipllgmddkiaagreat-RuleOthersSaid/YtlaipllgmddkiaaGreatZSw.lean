/- Texts put behind one another: SPath, SWords. Conditions: none. -/
import Derived.Test.YtlaipllgmddkiaaGreatZFi
import Derived.Test.YtlaipllgmddkiaaGreatZLf
import Derived.Test.YtlaipllgmddkiaaGreatZPu
set_option linter.all false
namespace Go.Ax.M
open Go Go.Ax
def pwN (p : List Int) : Nat → Int
 | 0 => (p.length : Int)
 | k + 1 => pwN p k + p.getD k 0 * 2 ^ (4 * (k + 1))
theorem pwN_all {p : List Int} (h : pGood p = true) : pwN p p.length = pathW p := by
 rcases pGood_ways h with ⟨a, rfl, h⟩ | ⟨a, b, rfl, h⟩ | ⟨a, b, c, rfl, h⟩ <;> simp [pwN, pathW, pathV] <;> omega
theorem pwN_in {p : List Int} (h : pGood p = true) {k : Nat} (hk : k ≤ p.length) : 0 ≤ pwN p k ∧ pwN p k < 2 ^ (4 * (k + 1)) := by
 rcases pGood_ways h with ⟨a, rfl, h⟩ | ⟨a, b, rfl, h⟩ | ⟨a, b, c, rfl, h⟩ <;> simp only [List.length_cons, List.length_nil] at hk
 ·rcases (by omega : k = 0 ∨ k = 1) with rfl | rfl <;> simp [pwN] <;> omega
 ·rcases (by omega : k = 0 ∨ k = 1 ∨ k = 2) with rfl | rfl | rfl <;> simp [pwN] <;> omega
 ·rcases (by omega : k = 0 ∨ k = 1 ∨ k = 2 ∨ k = 3) with rfl | rfl | rfl | rfl <;> simp [pwN] <;> omega
theorem digs_length {w : Int} {k : Nat} : (digs w k).length = k := by simp [digs]
theorem digs_zero {w : Int} : digs w 0 = [] := by simp [digs]
theorem digs_succ {w : Int} {k : Nat} : digs w (k + 1) = digs w k ++ [w / 2 ^ (4 * (k + 1)) % 16] := by simp [digs, List.range_succ]
theorem pNum_le {w : Int} : pNum w ≤ 3 := by simp [pNum]; omega
theorem pathW_u {p : List Int} : 0 ≤ (bif pGood p then pathW p else 0) ∧ (bif pGood p then pathW p else 0) < 65536 := by
 cases h : pGood p with
 | false => simp
 | true => have := pathW_in h; simp only [cond_true]; omega
theorem Gc.tupAgg {H L : Heap} {K : AVal → Heap → Prop} {i n s : Nat} {f ro : Bool} {xs : List (List AVal)} {l : List AVal} (hi : L[i]? = some (.arr s xs ro)) (hp : ∀ x ∈ xs, ∀ a ∈ x, a.plain = true) (h : K (.tup (.agg [.slice H.length n 0 n f] :: l)) (H ++ [.arr s xs ro])) (hl : ∀ a ∈ l, a.plain = true := by simp [AVal.plain, plains]) :
 Gc H K (.tup (.agg [.slice (H.length + i) n 0 n f] :: l)) (H ++ L) :=
 ⟨[i], L, [.arr s xs ro], _, rfl, Sel.one hi (.plain hp), ⟨_, rfl, _, _, rfl, ⟨_, rfl, _, _, rfl, ⟨H.length, rfl, .inr ⟨i, 0, rfl, rfl, rfl⟩⟩, rfl⟩, VRens.refl (plainsL_refs hl)⟩, h⟩
attribute [irreducible] pwN
end Go.Ax.M
namespace Go.Proofs.YtlaipllgmddkiaaGreat.Ax
open Go Go.Ax Go.Ax.M
set_option maxRecDepth 100000
section
variable {H : Heap} {K : AVal → Heap → Prop}
theorem path_Word_spec {p : List Int} {o : Nat} {f r : Bool} (ho : H[o]? = some (.arr 1 (ints p) r)) (h : K (.tup [.int .u64 (bif pGood p then pathW p else 0), .bool (pGood p)]) H) :
 ACalls Tryz.prog 123 [.agg [.slice o p.length 0 p.length f]] H K := by
 have ko := Keeps.of ho
 cases hg : pGood p with
 | false =>
  rw [hg] at h
  refine ACalls.tidy ?_
  refine into ok123 ?_; (try simp only [c123, w123, ko, hg, go_sem]); repeat' ((first | refine orR ?_ | (refine sp ?_ ?_ <;> intro hc) | refine path_Good_spec (p := p) (ko _) ?_) <;> try simp only [*, w123, ko, hg, go_sem])
  exact ⟨rfl, ⟨_, rfl⟩, h⟩
 | true =>
  rw [hg] at h
  simp only [cond_true] at h
  rw [← pwN_all hg] at h
  have hl := pGood_len hg
  have hw0 : IntKind.wrap .u64 (p.length : Int) = pwN p 0 := by rw [wrap_u (by omega) (by omega), pwN]
  refine ACalls.tidy ?_
  refine into ok123 ?_; (try simp only [c123, w123, ko, hg, hw0, go_sem]); repeat' ((first | refine orR ?_ | (refine sp ?_ ?_ <;> intro hc) | refine path_Good_spec (p := p) (ko _) ?_) <;> try simp only [*, w123, ko, hg, hw0, go_sem])
  refine ALoop.keep [4, 17, 15, 16] ?_; simp only [mpC, go_sem]
  refine ALoop.acc (fun k (_ : Unit) => [(4, .int .u64 (pwN p k)), (17, .int .i64 (k : Int))]) (fun _ _ => _) (fun _ _ => True) p.length ?_ (a0 := ()) trivial
  intro k _ hk _ next
  refine ALoop.unfold ?_
  have hw := wrap_succ (k := k) (by omega)
  by_cases hkp : k < p.length
  ·have hgk := ints_get hkp
   have hx := pGood_get hg hkp
   have hb := pwN_in hg (k := k) (by omega)
   have hb2 := pwN_in hg (k := k + 1) (by omega)
   have hs : pwN p (k + 1) = pwN p k + p.getD k 0 * 2 ^ (4 * (k + 1)) := by rw [pwN]
   have c1 : IntKind.wrap .u64 (p.getD k 0) = p.getD k 0 := wrap_u hx.1 (by omega)
   have c2 : IntKind.wrap .i64 (4 * ((k + 1 : Nat) : Int)) = ((4 * (k + 1) : Nat) : Int) := by rw [w64 (by omega) (by omega)]; omega
   have hp2 : (2 : Int) ^ (4 * (k + 1)) ≤ 2 ^ 16 := by exact_mod_cast pow_mono (show 4 * (k + 1) ≤ 16 by omega)
   have hp0 : (0 : Int) < 2 ^ (4 * (k + 1)) := Int.pow_pos (by omega)
   have hm : p.getD k 0 * 2 ^ (4 * (k + 1)) ≤ 15 * 2 ^ 16 := Int.le_trans (Int.mul_le_mul_of_nonneg_right hx.2 (by omega)) (Int.mul_le_mul_of_nonneg_left hp2 (by omega))
   have hm0 : 0 ≤ p.getD k 0 * 2 ^ (4 * (k + 1)) := Int.mul_nonneg hx.1 (by omega)
   have c3 : aShift .shl .u64 (p.getD k 0) ((4 * (k + 1) : Nat) : Int) = some (.int .u64 (p.getD k 0 * 2 ^ (4 * (k + 1)))) := shl_u hx.1 (by omega) (by omega)
   have c4 : IntKind.wrap .u64 ((BitVec.ofInt (IntKind.bits .u64) (pwN p k) ||| BitVec.ofInt (IntKind.bits .u64) (p.getD k 0 * 2 ^ (4 * (k + 1)))).toNat : Int) = pwN p (k + 1) := by
    rw [hs]; exact or_add hb.1 hb.2 hx.1 (by omega)
   clear hs hb hb2 hx hm hm0 hp0 hp2
   generalize p.getD k 0 = x at *
   simp only [go_sem] at c4
   (try simp only [w123, ko, hw, hgk, hkp, c1, c2, c3, c4, wpx_of b123_3.eq_1, nlt_iff, n0_le, apC, go_sem]); repeat' ((first | refine orR ?_ | (refine sp ?_ ?_ <;> intro hc) | fail) <;> try simp only [*, w123, ko, hw, hgk, hkp, c1, c2, c3, c4, wpx_of b123_3.eq_1, nlt_iff, n0_le, apC, go_sem])
   (refine ALoop.keep [4, 17, 15, 16] ?_; simp only [mpC, go_sem]; refine next () hkp trivial)
  ·have : k = p.length := by omega
   subst this
   (try simp only [w123, ko, hw, hkp, wpx_of b123_3.eq_1, nlt_iff, n0_le, apC, go_sem]); repeat' ((first | refine orR ?_ | (refine sp ?_ ?_ <;> intro hc) | fail) <;> try simp only [*, w123, ko, hw, hkp, wpx_of b123_3.eq_1, nlt_iff, n0_le, apC, go_sem])
   exact ⟨rfl, ⟨_, rfl⟩, h⟩
theorem path_Word_x {p : List Int} {n o : Nat} {f r : Bool} (hn : p.length = n) (ho : H[o]? = some (.arr 1 (ints p) r)) (h : K (.tup [.int .u64 (bif pGood p then pathW p else 0), .bool (pGood p)]) H) :
 ACalls Tryz.prog 123 [.agg [.slice o n 0 n f]] H K := by subst hn; exact path_Word_spec ho h
theorem path_Get_spec {w : Int} (w0 : 0 ≤ w) (w1 : w < 2 ^ 64) (h : pGet w = [] → K (.tup [.agg [.lit (.slice none 0 0)], .bool false]) H)
 (h' : pGet w ≠ [] → K (.tup [.agg [.slice H.length (pGet w).length 0 (pGet w).length false], .bool true]) (H ++ [.arr 1 (ints (pGet w)) false])) :
 ACalls Tryz.prog 126 [.int .u64 w] H K := by
 have a1 : IntKind.wrap .u64 ((BitVec.ofInt (IntKind.bits .u64) w &&& BitVec.ofInt (IntKind.bits .u64) 15).toNat : Int) = w % 16 := and_low (k := 4) w0 w1 (by omega)
 simp only [go_sem] at a1
 have a2 : (if (3 : Int) < w % 16 then (3 : Int) else w % 16) = (pNum w : Int) := by
  simp only [pNum]; split <;> omega
 have hn := pNum_le (w := w)
 refine ACalls.gc ?_
 refine into ok126 ?_; (try simp only [c126, w126, a1, a2, go_sem]); repeat' ((first | refine orR ?_ | (refine sp ?_ ?_ <;> intro hc) | fail) <;> try simp only [*, w126, a1, a2, go_sem])
 refine ALoop.keep [11, 0, 2, 4, 10] ?_; simp only [mpC, go_sem]
 refine ALoop.layIn (i := H.length + 1) 1 [.slice (H.length + 2) 0 0 0 false] at1 rfl rfl (fun j a b ha hb => ?_) ?_
 ·cases j with
  | zero => simp at ha hb; subst ha hb; exact .inr ⟨rfl, by simp⟩
  | succ j => simp at ha
 simp only [go_sem]
 refine ALoop.heap (H' := H ++ .arr 1 [[.lit (.slice none 0 0)]] false :: .arr 1 [[.slice (H.length + 2) 0 0 0 false]] false :: .arr 1 (ints (digs w 0)) false :: []) (by rw [digs_zero]; rfl) ?_
 refine ALoop.acc (fun k G => [(11, .int .u64 (k : Int))]) (fun k G => H ++ .arr 1 [[.lit (.slice none 0 0)]] false :: .arr 1 [[.slice (H.length + 2) k 0 k false]] false :: .arr 1 (ints (digs w k)) false :: G) (fun k G => True) (pNum w) ?_ (a0 := []) trivial
 intro k G hk _ next
 refine ALoop.hid fun W hW => ?_
 have k0 := hW.keep0
 have k1 := hW.keep1
 have k2 := hW.keep2
 have k00 := k0.at
 have k10 := k1.at
 have k20 := k2.at
 have k0s := k0.self0
 have k1s := k1.self0
 have k2s := k2.set
 have k12 := k1.other (i := H.length + 2) (by omega)
 have k1s2 := @Keeps.set2 _ _ (H.length + 2) _ k1
 have hl : (ints (digs w k)).length = k := by rw [ints_length, digs_length]
 have hb : (k + 1) * 8 ≤ 140737488355328 := by omega
 refine ALoop.unfold ?_
 have hw : IntKind.wrap .u64 ((k : Int) + 1) = ((k + 1 : Nat) : Int) := by rw [wrap_u (by omega) (by omega)]; omega
 by_cases hkp : k < pNum w
 ·have c2 : IntKind.wrap .u64 (4 * ((k + 1 : Nat) : Int)) = ((4 * (k + 1) : Nat) : Int) := by rw [wrap_u (by omega) (by omega)]; omega
  have c3 : aShift .shr .u64 w ((4 * (k + 1) : Nat) : Int) = some (.int .u64 (w / 2 ^ (4 * (k + 1)))) := shr_nat (by omega)
  have hp0 : (0 : Int) < 2 ^ (4 * (k + 1)) := Int.pow_pos (by omega)
  have d0 : 0 ≤ w / 2 ^ (4 * (k + 1)) := Int.ediv_nonneg w0 (by omega)
  have d1 : w / 2 ^ (4 * (k + 1)) < 2 ^ 64 := Int.lt_of_le_of_lt (Int.ediv_le_self _ w0) w1
  have c4 : IntKind.wrap .u64 ((BitVec.ofInt (IntKind.bits .u64) (w / 2 ^ (4 * (k + 1))) &&& BitVec.ofInt (IntKind.bits .u64) 15).toNat : Int) = w / 2 ^ (4 * (k + 1)) % 16 := and_low (k := 4) d0 d1 (by omega)
  simp only [go_sem] at c4
  have c5 : IntKind.wrap .i64 (w / 2 ^ (4 * (k + 1)) % 16) = w / 2 ^ (4 * (k + 1)) % 16 := w64 (by omega) (by omega)
  have e : ints (digs w (k + 1)) = ints (digs w k) ++ [[.int .i64 (w / 2 ^ (4 * (k + 1)) % 16)]] := by rw [digs_succ, ints_append]; rfl
  clear d0 d1 hp0
  generalize w / 2 ^ (4 * (k + 1)) = x at *
  (try simp only [w126, hw, hkp, c2, c3, c4, c5, k10, k20, k1, k2, k2s, k12, k1s2, k1s, hl, hb, digs_length, wpx_of b126_2.eq_1, nlt_iff, n0_le, apC, go_sem]); repeat' ((first | refine orR ?_ | (refine sp ?_ ?_ <;> intro hc) | fail) <;> try simp only [*, w126, hw, hkp, c2, c3, c4, c5, k10, k20, k1, k2, k2s, k12, k1s2, k1s, hl, hb, digs_length, wpx_of b126_2.eq_1, nlt_iff, n0_le, apC, go_sem])
  have hW : W = _ := hW
  subst hW
  rw [e] at next
  simp only [go_sem] at next ⊢
  (refine ALoop.keep [11, 0, 2, 4, 10] ?_; simp only [mpC, go_sem]; refine next _ hkp)
 ·have hk' : k = pNum w := by omega
  subst hk'
  have hu := pathW_u (p := digs w (pNum w))
  clear k1s2 k12 next hb
  cases hgd : pGood (digs w (pNum w)) with
  | false =>
   have e : pGet w = [] := by simp [pGet, hgd]
   have h := h e
   (try simp only [w126, hw, hkp, k10, k1, k0, k00, k0s, hgd, cond_true, cond_false, wpx_of b126_2.eq_1, nlt_iff, n0_le, apC, go_sem]); repeat' ((first | refine orR ?_ | (refine sp ?_ ?_ <;> intro hc) | refine path_Word_x (p := digs w (pNum w)) digs_length (by first | exact k20 | exact k2 _) ?_) <;> try simp only [*, w126, hw, hkp, k10, k1, k0, k00, k0s, hgd, cond_true, cond_false, wpx_of b126_2.eq_1, nlt_iff, n0_le, apC, go_sem])
   have hW : W = _ := hW
   subst hW
   try simp only [go_sem]
   exact Gc.old (by simp [AVal.refs, refsL]) h
  | true =>
   by_cases hpw : pathW (digs w (pNum w)) = w
   ·have e : pGet w = digs w (pNum w) := by simp [pGet, hgd, hpw]
    have hne : pGet w ≠ [] := by intro h0; rw [← e, h0] at hgd; simp [pGood] at hgd
    have h' := h' hne
    rw [e] at h'
    (try simp only [w126, hw, hkp, k10, k1, k0, k00, k0s, hgd, hpw, cond_true, cond_false, wpx_of b126_2.eq_1, nlt_iff, n0_le, apC, go_sem]); repeat' ((first | refine orR ?_ | (refine sp ?_ ?_ <;> intro hc) | refine path_Word_x (p := digs w (pNum w)) digs_length (by first | exact k20 | exact k2 _) ?_) <;> try simp only [*, w126, hw, hkp, k10, k1, k0, k00, k0s, hgd, hpw, cond_true, cond_false, wpx_of b126_2.eq_1, nlt_iff, n0_le, apC, go_sem])
    have hW : W = _ := hW
    subst hW
    try simp only [go_sem]
    refine Gc.tupAgg (i := 2) rfl ints_plain ?_
    rw [digs_length] at h'; exact h'
   ·have e : pGet w = [] := by simp [pGet, hgd, hpw]
    have h := h e
    (try simp only [w126, hw, hkp, k10, k1, k0, k00, k0s, hgd, hpw, cond_true, cond_false, wpx_of b126_2.eq_1, nlt_iff, n0_le, apC, go_sem]); repeat' ((first | refine orR ?_ | (refine sp ?_ ?_ <;> intro hc) | refine path_Word_x (p := digs w (pNum w)) digs_length (by first | exact k20 | exact k2 _) ?_) <;> try simp only [*, w126, hw, hkp, k10, k1, k0, k00, k0s, hgd, hpw, cond_true, cond_false, wpx_of b126_2.eq_1, nlt_iff, n0_le, apC, go_sem])
    have hW : W = _ := hW
    subst hW
    try simp only [go_sem]
    exact Gc.old (by simp [AVal.refs, refsL]) h
end
end Go.Proofs.YtlaipllgmddkiaaGreat.Ax
namespace Go.Ax.M
open Go Go.Ax
def markF : List (Nat × Nat) := [(0, 8), (8, 16), (24, 16)]
theorem markF_ok : FOk markF := ⟨by decide, by decide⟩
def markV (c : Call) : List Int := [c.op, c.x, c.y]
theorem markV_ok {c : Call} (h : callGood c = true) : ∀ k, k < markF.length → 0 ≤ (markV c).getD k 0 ∧ (markV c).getD k 0 < 2 ^ (markF.getD k (0, 0)).2 := by
 intro k hk
 have := callGood_in h
 have hk : k < 3 := hk
 rcases k with _ | _ | _ | k
 ·simp [markV, markF]; omega
 ·simp [markV, markF]; omega
 ·simp [markV, markF]; omega
 ·omega
theorem mark_put {c : Call} : putN markF (markV c) markF.length = c.op + c.x * 256 + c.y * 16777216 := by simp [putN, markF, markV]
theorem mark_get {w : Int} : getN w markF = [w % 256, w / 256 % 65536, w / 16777216 % 65536] := by simp [getN, markF]
theorem path_or {p : List Int} (h : p = [] ∨ pGood p = true) : (bif pGood p then pathW p else 0) = pathW p := by
 rcases h with rfl | h
 ·simp [pGood, pathW_nil]
 ·simp [h]
theorem Gc.call2 {H L : Heap} {K : AVal → Heap → Prop} {i j : Nat} {a b : List Int} {op x y w : Int} (hi : L[i]? = some (.arr 1 (ints a) false)) (hj : L[j]? = some (.arr 1 (ints b) false)) (hij : i ≠ j)
 (h : K (.tup [.agg [.int .i64 op, .slice H.length a.length 0 a.length false, .slice (H.length + 1) b.length 0 b.length false, .int .i64 x, .int .i64 y, .int .u64 w], .bool true]) (H ++ [.arr 1 (ints a) false, .arr 1 (ints b) false])) :
 Gc H K (.tup [.agg [.int .i64 op, .slice (H.length + i) a.length 0 a.length false, .slice (H.length + j) b.length 0 b.length false, .int .i64 x, .int .i64 y, .int .u64 w], .bool true]) (H ++ L) := by
 refine ⟨[i, j], L, _, _, rfl, Sel.two hi hj hij (.plain ints_plain) (.plain ints_plain), ?_, h⟩
 refine ⟨_, rfl, _, _, rfl, ?_, VRens.refl (plainsL_refs (by simp [AVal.plain, plains]))⟩
 exact ⟨_, rfl, _, _, rfl, rfl, _, _, rfl, ⟨H.length, rfl, .inr ⟨i, 0, rfl, rfl, rfl⟩⟩, _, _, rfl, ⟨H.length + 1, rfl, .inr ⟨j, 1, rfl, rfl, rfl⟩⟩, VRens.refl (plainsL_refs (by simp [AVal.plain, plains]))⟩
theorem Gc.call1 {H L : Heap} {K : AVal → Heap → Prop} {i : Nat} {a : List Int} {op x y w : Int} (hi : L[i]? = some (.arr 1 (ints a) false))
 (h : K (.tup [.agg [.int .i64 op, .slice H.length a.length 0 a.length false, .lit (.slice none 0 0), .int .i64 x, .int .i64 y, .int .u64 w], .bool true]) (H ++ [.arr 1 (ints a) false])) :
 Gc H K (.tup [.agg [.int .i64 op, .slice (H.length + i) a.length 0 a.length false, .lit (.slice none 0 0), .int .i64 x, .int .i64 y, .int .u64 w], .bool true]) (H ++ L) := by
 refine ⟨[i], L, _, _, rfl, Sel.one hi (.plain ints_plain), ?_, h⟩
 refine ⟨_, rfl, _, _, rfl, ?_, VRens.refl (plainsL_refs (by simp [AVal.plain, plains]))⟩
 exact ⟨_, rfl, _, _, rfl, rfl, _, _, rfl, ⟨H.length, rfl, .inr ⟨i, 0, rfl, rfl, rfl⟩⟩, VRens.refl (plainsL_refs (by simp [AVal.plain, plains]))⟩
end Go.Ax.M
namespace Go.Proofs.YtlaipllgmddkiaaGreat.Ax
open Go Go.Ax Go.Ax.M
set_option maxRecDepth 100000
section
variable {H : Heap} {K : AVal → Heap → Prop} {oA oB oL : Nat} {fA fB rA rB fL rL : Bool} {op x y w : Int} {a b : List Int}
theorem call_marks_spec (h : K (.slice H.length 3 0 3 true) (H ++ [.arr 2 (fieldsC markF) false])) : ACalls Tryz.prog 122 [] H K := by
 refine ACalls.gc ?_
 refine into ok122 ?_; (try simp only [c122, wpx_of k122_0.eq_1, go_sem]); repeat' ((first | refine orR ?_ | (refine sp ?_ ?_ <;> intro hc) | fail) <;> try simp only [*, wpx_of k122_0.eq_1, go_sem])
 exact Gc.slice (i := 0) rfl (by decide) h
theorem call_Words_spec {c : M.Call} (hA : H[oA]? = some (.arr 1 (ints c.a) rA)) (hB : H[oB]? = some (.arr 1 (ints c.b) rB)) (hg : callGood c = true)
 (h : K (.slice H.length 4 0 4 true) (H ++ [.arr 1 (wordsC (cWords c)) false])) : ACalls Tryz.prog 53 [.agg [.int .i64 c.op, .slice oA c.a.length 0 c.a.length fA, .slice oB c.b.length 0 c.b.length fB, .int .i64 c.x, .int .i64 c.y, .int .u64 c.w]] H K := by
 have kA := Keeps.of hA
 have kB := Keeps.of hB
 have hi := callGood_in hg
 have w1 : IntKind.wrap .u64 c.op = c.op := wrap_u (by omega) (by omega)
 have w2 : IntKind.wrap .u64 c.x = c.x := wrap_u (by omega) (by omega)
 have w3 : IntKind.wrap .u64 c.y = c.y := wrap_u (by omega) (by omega)
 have pa := path_or (.inr hi.2.2.2.2.2.2.1)
 have pb := path_or hi.2.2.2.2.2.2.2
 have hm := mark_put (c := c)
 refine ACalls.gc ?_
 refine into ok53 ?_; (try simp only [c53, w53, hg, w1, w2, w3, pa, pb, hm, cond_true, go_sem]); repeat' ((first | refine orR ?_ | (refine sp ?_ ?_ <;> intro hc) | refine call_Good_spec (c := c) (kA _) (kB _) ?_ | refine call_marks_spec ?_ | refine tag_Put_spec (F := markF) (v := markV c) markF_ok (by first | exact at0 | exact atX rfl) (by first | exact at0 | exact atX rfl) rfl (markV_ok hg) ?_ | refine path_Word_spec (p := c.a) (kA _) ?_ | refine path_Word_spec (p := c.b) (kB _) ?_) <;> try simp only [*, w53, hg, w1, w2, w3, pa, pb, hm, cond_true, go_sem])
 have e : ([[.int .u64 (c.op + c.x * 256 + c.y * 16777216)], [.int .u64 (pathW c.a)], [.int .u64 (pathW c.b)], [.int .u64 c.w]] : List (List AVal)) = wordsC (cWords c) := rfl
 simp only [cond_true, e]
 exact Gc.slice (n := 4) (i := 3) rfl wordsC_plain h
theorem call_Words_bad {c : M.Call} (hA : H[oA]? = some (.arr 1 (ints c.a) rA)) (hB : H[oB]? = some (.arr 1 (ints c.b) rB)) (hg : callGood c = false)
 (h : K (.lit (.slice none 0 0)) H) : ACalls Tryz.prog 53 [.agg [.int .i64 c.op, .slice oA c.a.length 0 c.a.length fA, .slice oB c.b.length 0 c.b.length fB, .int .i64 c.x, .int .i64 c.y, .int .u64 c.w]] H K := by
 have kA := Keeps.of hA
 have kB := Keeps.of hB
 refine ACalls.gc ?_
 refine into ok53 ?_; (try simp only [c53, w53, hg, go_sem]); repeat' ((first | refine orR ?_ | (refine sp ?_ ?_ <;> intro hc) | refine call_Good_spec (c := c) (kA _) (kB _) ?_) <;> try simp only [*, w53, hg, go_sem])
 exact Gc.old (by simp [AVal.refs]) h
theorem call_Words_nil (hA : H[oA]? = some (.arr 1 (ints a) rA)) (hg : callGood ⟨op, a, [], x, y, w⟩ = true)
 (h : K (.slice H.length 4 0 4 true) (H ++ [.arr 1 (wordsC (cWords ⟨op, a, [], x, y, w⟩)) false])) : ACalls Tryz.prog 53 [.agg [.int .i64 op, .slice oA a.length 0 a.length fA, .lit (.slice none 0 0), .int .i64 x, .int .i64 y, .int .u64 w]] H K := by
 refine ACalls.gc (ACalls.lay 1 ?_)
 simp only [Go.Ax.fillN, Go.Ax.fill1, go_sem]
 have kA := Keeps.of hA
 refine call_Words_spec (c := ⟨op, a, [], x, y, w⟩) (oB := H.length) (rB := false) (kA _) at0 hg ?_
 rw [List.append_assoc]
 have := Gc.slice (H := H) (L := [.arr 1 [] false, .arr 1 (wordsC (cWords ⟨op, a, [], x, y, w⟩)) false]) (K := K) (i := 1) (n := 4) (f := true) rfl wordsC_plain h
 simpa using this
theorem call_Words_badN (hA : H[oA]? = some (.arr 1 (ints a) rA)) (hg : callGood ⟨op, a, [], x, y, w⟩ = false) (h : K (.lit (.slice none 0 0)) H) :
 ACalls Tryz.prog 53 [.agg [.int .i64 op, .slice oA a.length 0 a.length fA, .lit (.slice none 0 0), .int .i64 x, .int .i64 y, .int .u64 w]] H K := by
 refine ACalls.gc (ACalls.lay 1 ?_)
 simp only [Go.Ax.fillN, Go.Ax.fill1, go_sem]
 have kA := Keeps.of hA
 refine call_Words_bad (c := ⟨op, a, [], x, y, w⟩) (oB := H.length) (rB := false) (kA _) at0 hg ?_
 exact Gc.old (by simp [AVal.refs]) h
theorem noWay {b : List Int} : callGood ⟨op, [], b, x, y, w⟩ = false := by simp [callGood, pGood]
theorem call_Words_badA (hB : H[oB]? = some (.arr 1 (ints b) rB)) (h : K (.lit (.slice none 0 0)) H) :
 ACalls Tryz.prog 53 [.agg [.int .i64 op, .lit (.slice none 0 0), .slice oB b.length 0 b.length fB, .int .i64 x, .int .i64 y, .int .u64 w]] H K := by
 refine ACalls.gc (ACalls.lay 1 ?_)
 simp only [Go.Ax.fillN, Go.Ax.fill1, go_sem]
 have kB := Keeps.of hB
 refine call_Words_bad (c := ⟨op, [], b, x, y, w⟩) (oA := H.length) (rA := false) at0 (kB _) noWay ?_
 exact Gc.old (by simp [AVal.refs]) h
theorem call_Words_badAN (h : K (.lit (.slice none 0 0)) H) :
 ACalls Tryz.prog 53 [.agg [.int .i64 op, .lit (.slice none 0 0), .lit (.slice none 0 0), .int .i64 x, .int .i64 y, .int .u64 w]] H K := by
 refine ACalls.gc (ACalls.lay 1 ?_)
 simp only [Go.Ax.fillN, Go.Ax.fill1, go_sem]
 refine call_Words_bad (c := ⟨op, [], [], x, y, w⟩) (oA := H.length) (rA := false) (oB := H.length) (rB := false) at0 at0 noWay ?_
 exact Gc.old (by simp [AVal.refs]) h
def zeroCall : AVal := .agg [.int .i64 0, .lit (.slice none 0 0), .lit (.slice none 0 0), .int .i64 0, .int .i64 0, .int .u64 0]
end
end Go.Proofs.YtlaipllgmddkiaaGreat.Ax

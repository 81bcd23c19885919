/- Texts put behind one another: SGive, SDo, SForest2, SGive2. Conditions: none. -/
import Derived.Test.YtlaipllgmddkiaaGreatZFi
import Derived.Test.YtlaipllgmddkiaaGreatZMo
import Derived.Test.YtlaipllgmddkiaaGreatZC2
import Derived.Test.YtlaipllgmddkiaaGreatZSt
import Derived.Test.YtlaipllgmddkiaaGreatZPu
set_option linter.all false
namespace Go.Proofs.YtlaipllgmddkiaaGreat.Ax
open Go Go.Ax Go.Ax.M
section
variable {H : Heap} {K : AVal → Heap → Prop} {s : State} {oS oT : Nat} {fS fT rS rT : Bool}
theorem lS0_of {s : State} (h : sGood s = true) : 0 < s.slots.length := by have := (stOk_of h).lS; omega
theorem lT0_of {s : State} (h : sGood s = true) : 0 < s.things.length := by have := (stOk_of h).lT; omega
theorem give_ring_spec {c : Cap} {to : Int} (hS : H[oS]? = some (.arr 5 (s.slots.map Slot.cells) rS)) (hT : H[oT]? = some (.arr 13 (s.things.map Thing.cells) rT)) (h : K (.bool (ringM s c to)) H) : ACalls Tryz.prog 183 [stA s oS oT fS fT, .agg c.cells, .int .i64 to] H K := by
 have kT := Keeps.of hT
 have kS := Keeps.of hS
 refine ACalls.tidy ?_
 unfold Cap.cells
 refine into ok183 ?_; (try simp only [c183, wpx_of k183_0.eq_1, go_sem]); repeat' ((first | refine orR ?_ | (refine sp ?_ ?_ <;> intro hc) | refine state_Inside_spec (kS _) (kT _) ?_) <;> try simp only [*, wpx_of k183_0.eq_1, go_sem])
 all_goals (refine tb h (by first | exact ⟨_, rfl⟩ | exact ⟨[], (List.append_nil _).symm⟩ | exact hx | exact hx.app _) ?_; first | (simp only [ringM, *, bs, go_sem]; done) | (simp_all [ringM]; done) | (simp_all [ringM]; omega) | grind [ringM])
theorem give_Put_spec {c : Cap} {fr to : Int} (hS : H[oS]? = some (.arr 5 (s.slots.map Slot.cells) rS)) (hT : H[oT]? = some (.arr 13 (s.things.map Thing.cells) rT))
 (h : putE s fr to c ≠ 0 → K (.tup [stA s oS oT fS fT, .int .i64 (putE s fr to c)]) H) (h' : putE s fr to c = 0 → K (.tup [stV (putS s fr to c) H.length (H.length + 1) false false, .int .i64 0]) (H ++ [slotsO (putS s fr to c), thingsO (putS s fr to c)])) :
 ACalls Tryz.prog 149 [stA s oS oT fS fT, .int .i64 fr, .int .i64 to, .agg c.cells] H K := by
 have kT := Keeps.of hT
 have kS := Keeps.of hS
 have hg : ¬ fr < 0 → ¬ (s.slots.length : Int) ≤ fr → (0 ≤ fr) = True ∧ (fr < (s.slots.length : Int)) = True := fun h1 h2 => ⟨eq_true (by omega), eq_true (by omega)⟩
 have hg1 : ¬ fr < 0 → ¬ (s.slots.length : Int) ≤ fr → _ := fun h1 h2 => slots_get (s := s) (k := fr.toNat) (by omega)
 have hg2 : ¬ to < 0 → ¬ (s.slots.length : Int) ≤ to → (0 ≤ to) = True ∧ (to < (s.slots.length : Int)) = True := fun h1 h2 => ⟨eq_true (by omega), eq_true (by omega)⟩
 have hg3 : ¬ to < 0 → ¬ (s.slots.length : Int) ≤ to → _ := fun h1 h2 => slots_get (s := s) (k := to.toNat) (by omega)
 have key : ∀ e, putE s fr to c = e → e ≠ 0 → K (.tup [stA s oS oT fS fT, .int .i64 e]) H := fun e he hn => he ▸ h (he ▸ hn)
 have hv := fun e => show (AVal.tup [stA s oS oT fS fT, .int .i64 e]).refs (fun o => o < H.length) by simp [AVal.refs, refsL]; exact ⟨get_lt hS, get_lt hT⟩
 clear h
 refine ACalls.gc ?_
 unfold Cap.cells
 refine into ok149 ?_; (try simp only [c149, w149, kS, kT, hg, hg1, hg2, hg3, go_sem]); repeat' ((first | refine orR ?_ | (refine sp ?_ ?_ <;> intro hc) | refine state_Good_spec (kS _) (kT _) ?_ | refine cap_Good_x ?_ | refine cap_None_x ?_ | refine state_Owner_spec (kS _) (kT _) ?_ | refine cap_Less_x ?_ | refine give_ring_spec (c := c) (kS _) (kT _) ?_) <;> try simp only [*, w149, kS, kT, hg, hg1, hg2, hg3, go_sem])
 case' refine_2.refine_1.refine_1.refine_1.refine_1.refine_1.refine_2.refine_2.refine_2.refine_2.refine_2.refine_2.refine_2 =>
  have e : putE s fr to c = 0 := by (first | (simp only [putE, *, bs, go_sem]; done) | (simp_all [putE]; done) | (simp_all [putE]; omega) | grind [putE])
  have h' := h' e
  clear key
  (try simp only [w149, kS, kT, hg, hg1, hg2, hg3, stV, slotsO, thingsO, List.length_set, go_sem]); repeat' ((first | refine orR ?_ | (refine sp ?_ ?_ <;> intro hc) | refine state_Clone_spec (kS _) (kT _) (lS_of (by assumption)) (lT_of (by assumption)) (lS0_of (by assumption)) (lT0_of (by assumption)) ?_) <;> try simp only [*, w149, kS, kT, hg, hg1, hg2, hg3, stV, slotsO, thingsO, List.length_set, go_sem])
  have el : (putS s fr to c).slots.length = s.slots.length := by simp [putS]
  rw [← el]
  exact Gc.stateT (s := putS s fr to c) (i := 3) (j := 4) (by simp only [slotsO, putS, ← slots_set]; rfl) rfl (by decide) (by simp [AVal.plain]) h'
 all_goals exact Gc.old (hv _) (key _ (by (first | (simp only [putE, *, bs, go_sem]; done) | (simp_all [putE]; done) | (simp_all [putE]; omega) | grind [putE])) (by decide))
theorem give_Put_x {x0 x1 x2 x3 fr to : Int} (hS : H[oS]? = some (.arr 5 (s.slots.map Slot.cells) rS)) (hT : H[oT]? = some (.arr 13 (s.things.map Thing.cells) rT))
 (h : putE s fr to ⟨x0, x1, x2, x3⟩ ≠ 0 → K (.tup [stA s oS oT fS fT, .int .i64 (putE s fr to ⟨x0, x1, x2, x3⟩)]) H)
 (h' : putE s fr to ⟨x0, x1, x2, x3⟩ = 0 → K (.tup [stV (putS s fr to ⟨x0, x1, x2, x3⟩) H.length (H.length + 1) false false, .int .i64 0]) (H ++ [slotsO (putS s fr to ⟨x0, x1, x2, x3⟩), thingsO (putS s fr to ⟨x0, x1, x2, x3⟩)])) :
 ACalls Tryz.prog 149 [stA s oS oT fS fT, .int .i64 fr, .int .i64 to, .agg [.int .i64 x0, .int .i64 x1, .int .i64 x2, .int .i64 x3]] H K := give_Put_spec (c := ⟨x0, x1, x2, x3⟩) hS hT h h'
theorem putS_things {fr to : Int} {c : Cap} : (putS s fr to c).things = s.things := rfl
theorem putS_geo {fr to : Int} {c : Cap} : (putS s fr to c).geo = s.geo := rfl
theorem putS_len {fr to : Int} {c : Cap} : (putS s fr to c).slots.length = s.slots.length := by simp [putS]
end
end Go.Proofs.YtlaipllgmddkiaaGreat.Ax
namespace Go.Ax.M
open Go Go.Ax
theorem Gc.stN {H L : Heap} {K : AVal → Heap → Prop} {r : Option State} {s' : State} {i j n m : Nat} {x0 x1 x2 : Int} {l : List AVal} (hi : L[i]? = some (slotsO s')) (hj : L[j]? = some (thingsO s'))
 (h : ∀ s', r = some s' → K (.tup (stV s' H.length (H.length + 1) false false :: l)) (H ++ [slotsO s', thingsO s'])) (hij : i ≠ j := by decide) (hl : ∀ a ∈ l, a.plain = true := by simp [AVal.plain, plains])
 (hn : n = s'.slots.length) (hm : m = s'.things.length) (hg : x0 = s'.geo.threads ∧ x1 = s'.geo.slots ∧ x2 = s'.geo.things := by exact ⟨rfl, rfl, rfl⟩) (e : r = some s') :
 Gc H K (.tup (.agg [.int .i64 x0, .int .i64 x1, .int .i64 x2, .slice (H.length + i) n 0 n false, .slice (H.length + j) m 0 m false] :: l)) (H ++ L) := by
 subst hn hm
 obtain ⟨rfl, rfl, rfl⟩ := hg
 exact Gc.stateT hi hj hij hl (h _ e)
end Go.Ax.M
namespace Go.Proofs.YtlaipllgmddkiaaGreat.Ax
open Go Go.Ax Go.Ax.M
def DoSpec (f : FuncId) (D : State → Int → M.Call → Res) : Prop := ∀ {H : Heap} {K : AVal → Heap → Prop} {s : State} {th : Int} {c : M.Call} {oS oT oA oB : Nat} {fS fT rS rT fA fB rA rB : Bool},
 H[oS]? = some (.arr 5 (s.slots.map Slot.cells) rS) → H[oT]? = some (.arr 13 (s.things.map Thing.cells) rT) → H[oA]? = some (.arr 1 (ints c.a) rA) → H[oB]? = some (.arr 1 (ints c.b) rB) →
 ((D s th c).st = none → K (.tup [.agg [.int .i64 s.geo.threads, .int .i64 s.geo.slots, .int .i64 s.geo.things, .slice oS s.slots.length 0 s.slots.length fS, .slice oT s.things.length 0 s.things.length fT], (D s th c).reply]) H) → (∀ s', (D s th c).st = some s' → K (.tup [stV s' H.length (H.length + 1) false false, (D s th c).reply]) (H ++ [slotsO s', thingsO s'])) →
 ACalls Tryz.prog f [.agg [.int .i64 s.geo.threads, .int .i64 s.geo.slots, .int .i64 s.geo.things, .slice oS s.slots.length 0 s.slots.length fS, .slice oT s.things.length 0 s.things.length fT], .int .i64 th, .agg [.int .i64 c.op, .slice oA c.a.length 0 c.a.length fA, .slice oB c.b.length 0 c.b.length fB, .int .i64 c.x, .int .i64 c.y, .int .u64 c.w]] H K
section
variable {f : FuncId} {D : State → Int → M.Call → Res} {H : Heap} {K : AVal → Heap → Prop} {s : State} {th : Int} {c : M.Call} {oS oT oA oB : Nat} {fS fT rS rT fA fB rA rB : Bool}
theorem DoSpec.non (d : DoSpec f D) {e w n : Int} (hr : D s th c = ⟨e, w, n, none⟩) (hS : H[oS]? = some (.arr 5 (s.slots.map Slot.cells) rS)) (hT : H[oT]? = some (.arr 13 (s.things.map Thing.cells) rT)) (hA : H[oA]? = some (.arr 1 (ints c.a) rA)) (hB : H[oB]? = some (.arr 1 (ints c.b) rB))
 (h : K (.tup [.agg [.int .i64 s.geo.threads, .int .i64 s.geo.slots, .int .i64 s.geo.things, .slice oS s.slots.length 0 s.slots.length fS, .slice oT s.things.length 0 s.things.length fT], .agg [.int .i64 e, .int .u64 w, .int .i64 n]]) H) : ACalls Tryz.prog f [.agg [.int .i64 s.geo.threads, .int .i64 s.geo.slots, .int .i64 s.geo.things, .slice oS s.slots.length 0 s.slots.length fS, .slice oT s.things.length 0 s.things.length fT], .int .i64 th, .agg [.int .i64 c.op, .slice oA c.a.length 0 c.a.length fA, .slice oB c.b.length 0 c.b.length fB, .int .i64 c.x, .int .i64 c.y, .int .u64 c.w]] H K :=
 d hS hT hA hB (by rw [hr]; intro _; exact h) (by rw [hr]; intro s2 h2; cases h2)
theorem DoSpec.nil (d : DoSpec f D) {op x y w : Int} {a : List Int} (hS : H[oS]? = some (.arr 5 (s.slots.map Slot.cells) rS)) (hT : H[oT]? = some (.arr 13 (s.things.map Thing.cells) rT)) (hA : H[oA]? = some (.arr 1 (ints a) rA))
 (h : (D s th ⟨op, a, [], x, y, w⟩).st = none → K (.tup [.agg [.int .i64 s.geo.threads, .int .i64 s.geo.slots, .int .i64 s.geo.things, .slice oS s.slots.length 0 s.slots.length fS, .slice oT s.things.length 0 s.things.length fT], (D s th ⟨op, a, [], x, y, w⟩).reply]) H)
 (h' : ∀ s', (D s th ⟨op, a, [], x, y, w⟩).st = some s' → K (.tup [stV s' H.length (H.length + 1) false false, (D s th ⟨op, a, [], x, y, w⟩).reply]) (H ++ [slotsO s', thingsO s'])) :
 ACalls Tryz.prog f [.agg [.int .i64 s.geo.threads, .int .i64 s.geo.slots, .int .i64 s.geo.things, .slice oS s.slots.length 0 s.slots.length fS, .slice oT s.things.length 0 s.things.length fT], .int .i64 th, .agg [.int .i64 op, .slice oA a.length 0 a.length fA, .lit (.slice none 0 0), .int .i64 x, .int .i64 y, .int .u64 w]] H K := by
 refine ACalls.gc (ACalls.lay 1 ?_)
 simp only [Go.Ax.fillN, Go.Ax.fill1, go_sem]
 have kS := Keeps.of hS
 have kT := Keeps.of hT
 have kA := Keeps.of hA
 refine d (c := ⟨op, a, [], x, y, w⟩) (oB := H.length) (rB := false) (kS _) (kT _) (kA _) at0 (fun e => Gc.old ?_ (h e)) (fun s' e => ?_)
 ·simp only [Res.reply, AVal.refs, refsL]
  exact ⟨⟨trivial, trivial, trivial, get_lt hS, get_lt hT, trivial⟩, ⟨trivial, trivial, trivial, trivial⟩, trivial⟩
 ·have := Gc.stateT (H := H) (L := .arr 1 [] false :: [slotsO s', thingsO s']) (K := K) (i := 1) (j := 2) (s := s') (f := false) (f' := false) (l := [(D s th ⟨op, a, [], x, y, w⟩).reply]) rfl rfl (by decide) (by simp [AVal.plain, plains, Res.reply]) (h' s' e)
  simpa [List.append_assoc, Nat.add_assoc] using this
end
end Go.Proofs.YtlaipllgmddkiaaGreat.Ax
namespace Go.Ax
theorem Gc.tupSlice {H L : Heap} {K : AVal → Heap → Prop} {i n s : Nat} {f ro : Bool} {xs : List (List AVal)} {l : List AVal} (hi : L[i]? = some (.arr s xs ro)) (hp : ∀ x ∈ xs, ∀ a ∈ x, a.plain = true) (hl : ∀ a ∈ l, a.plain = true := by simp [AVal.plain]) (h : K (.tup (.agg [.slice H.length n 0 n f] :: l)) (H ++ [.arr s xs ro])) :
 Gc H K (.tup (.agg [.slice (H.length + i) n 0 n f] :: l)) (H ++ L) :=
 ⟨[i], L, [.arr s xs ro], _, rfl, Sel.one hi (.plain hp), ⟨_, rfl, _, _, rfl, ⟨_, rfl, _, _, rfl, ⟨H.length, rfl, .inr ⟨i, 0, rfl, rfl, rfl⟩⟩, rfl⟩, VRens.refl (plainsL_refs hl)⟩, h⟩
end Go.Ax
namespace Go.Proofs.YtlaipllgmddkiaaGreat.Ax
open Go Go.Ax Go.Ax.M
section
variable {H : Heap} {K : AVal → Heap → Prop} {up : List Int} {o : Nat} {fl ro : Bool}
theorem forest_may_spec {i : Int} (ho : H[o]? = some (.arr 1 (ints up) ro)) (h : K (.bool (fMay up i)) H) : ACalls Tryz.prog 188 [.agg [.slice o up.length 0 up.length fl], .int .i64 i] H K := by
 have k1 := Keeps.of ho
 refine ACalls.tidy ?_
 refine into ok188 ?_; (try simp only [c188, wpx_of k188_0.eq_1, go_sem]); repeat' ((first | refine orR ?_ | (refine sp ?_ ?_ <;> intro hc) | refine forest_Good_spec (k1 _) ?_ | refine forest_is_spec (k1 _) ?_) <;> try simp only [*, wpx_of k188_0.eq_1, go_sem])
 all_goals (refine tb h (by first | exact ⟨_, rfl⟩ | exact ⟨[], (List.append_nil _).symm⟩ | exact hx | exact hx.app _) ?_; first | (simp only [fMay, *, bs, go_sem]; done) | (simp_all [fMay]; done) | (simp_all [fMay]; omega) | grind [fMay])
theorem forest_of_spec {i : Int} (ho : H[o]? = some (.arr 1 (ints up) ro)) (hlen : up.length ≤ 1000) (h : K (.slice H.length (fOf up i).length 0 (fOf up i).length false) (H ++ [.arr 1 (ints (fOf up i)) false])) : ACalls Tryz.prog 235 [.agg [.slice o up.length 0 up.length fl], .int .i64 i] H K := by
 have k1 := Keeps.of ho
 refine ACalls.gc ?_
 obtain ⟨p, hp⟩ : ∃ p : Nat → Bool, ∀ k, p k = decide (up.getD k 0 = i) := ⟨fun k => decide (up.getD k 0 = i), fun _ => rfl⟩
 have hfo : fOf up i = pick p up.length := by simp only [fOf]; congr 1; funext k; exact (hp k).symm
 rw [hfo] at h
 refine into ok235 ?_; (try simp only [c235, w235, k1, go_sem]); repeat' ((first | refine orR ?_ | (refine sp ?_ ?_ <;> intro hc) | fail) <;> try simp only [*, w235, k1, go_sem])
 refine ALoop.keep [5, 11, 1, 9, 10] ?_; simp only [mpC, go_sem]
 refine ALoop.lay 1 ?_
 simp only [go_sem]
 refine ALoop.acc (fun k G => [(5, .slice (H.length + 1) (pick p k).length 0 (pick p k).length false), (11, .int .i64 (k : Int))]) (fun k G => H ++ _ :: .arr 1 (ints (pick p k)) false :: G) (fun k G => True) up.length ?_ (a0 := []) trivial
 intro k G hk _ next
 refine ALoop.hid fun W hW => ?_
 have k1 := k1.ex hW.ex
 have kst := hW.keep0
 have ko := hW.keep1
 have k10 := k1.at
 have kst0 := kst.at
 have ko0 := ko.at
 have kos := ko.set
 have hb : ((pick p k).length + 1) * 8 ≤ 140737488355328 := by have := pick_length (p := p) (k := k); omega
 refine ALoop.unfold ?_
 have hw := wrap_succ (k := k) (by omega)
 have hg : k < up.length → _ := fun h => ints_get (l := up) (k := k) h
 clear hfo
 (try simp only [w235, hg, hw, kos, wpx_of b235_3.eq_1, nlt_iff, n0_le, apC, go_sem]); repeat' ((first | refine orR ?_ | (refine sp ?_ ?_ <;> intro hc) | fail) <;> try simp only [*, w235, hg, hw, kos, wpx_of b235_3.eq_1, nlt_iff, n0_le, apC, go_sem])
 case' refine_2 =>
  have hk' : k = up.length := by omega
  have hW : W = _ := hW
  subst hk' hW
  exact Gc.slice (i := 1) rfl ints_plain h
 case' refine_1.refine_1 => have e := pick_t (p := p) (k := k) (by rw [hp]; exact decide_eq_true (by assumption))
 case' refine_1.refine_2 => have e := pick_f (p := p) (k := k) (by rw [hp]; exact decide_eq_false (by assumption))
 all_goals
  have hW : W = _ := hW
  subst hW
  simp only [e, ints_append, ints_cons, go_sem] at next
  (refine ALoop.keep [5, 11, 1, 9, 10] ?_; simp only [mpC, go_sem]; refine next _ (by assumption))
theorem forest_Kids_spec {i : Int} (ho : H[o]? = some (.arr 1 (ints up) ro)) (hlen : up.length ≤ 1000) (h : fMay up i = false → K (.lit (.slice none 0 0)) H) (h' : fMay up i = true → K (.slice H.length (fOf up i).length 0 (fOf up i).length false) (H ++ [.arr 1 (ints (fOf up i)) false])) : ACalls Tryz.prog 221 [.agg [.slice o up.length 0 up.length fl], .int .i64 i] H K := by
 have k1 := Keeps.of ho
 refine ACalls.gc ?_
 refine into ok221 ?_; (try simp only [c221, w221, Nat.add_assoc, go_sem]); repeat' ((first | refine orR ?_ | (refine sp ?_ ?_ <;> intro hc) | refine forest_may_spec (k1 _) ?_ | refine forest_of_spec (k1 _) hlen ?_) <;> try simp only [*, w221, Nat.add_assoc, go_sem])
 ·exact Gc.old (by simp [AVal.refs]) (h (by assumption))
 ·exact Gc.slice (i := 1) rfl ints_plain (h' (by assumption))
theorem ints_Clone_spec (h1 : H[o]? = some (.arr 1 (ints up) ro)) (hl : up.length ≤ 1000) (h0 : 0 < up.length)
 (h : K (.slice H.length up.length 0 up.length false) (H ++ [.arr 1 (ints up) false])) : ACalls Tryz.prog 204 [.slice o up.length 0 up.length fl] H K := by
 have hn : (up.length = 0) = False := eq_false (by omega)
 have he : (ints up = []) = False := eq_false (by intro e; have := congrArg List.length e; simp [ints] at this; rw [this] at h0; exact absurd h0 (by simp))
 have hb : (0 + up.length) * 8 ≤ 140737488355328 := by omega
 have hb2 : up.length * 8 ≤ 140737488355328 := by omega
 have k1 := Keeps.of h1
 have ht : (ints up).take up.length = ints up := by rw [List.take_of_length_le (by simp [ints])]
 refine ACalls.gc ?_
 refine into ok204 ?_; (try simp only [c204, w204, hn, he, hb, hb2, h1, k1, ht, go_sem]); repeat' ((first | refine orR ?_ | (refine sp ?_ ?_ <;> intro hc) | fail) <;> try simp only [*, w204, hn, he, hb, hb2, h1, k1, ht, go_sem])
 exact Gc.slice (i := 1) rfl ints_plain h
theorem forest_clone_spec (h1 : H[o]? = some (.arr 1 (ints up) ro)) (hl : up.length ≤ 1000) (h0 : 0 < up.length)
 (h : K (.agg [.slice H.length up.length 0 up.length false]) (H ++ [.arr 1 (ints up) false])) : ACalls Tryz.prog 255 [.agg [.slice o up.length 0 up.length fl]] H K := by
 have k1 := Keeps.of h1
 refine ACalls.gc ?_
 refine into ok255 ?_; (try simp only [c255, wpx_of k255_0.eq_1, Nat.add_assoc, go_sem]); repeat' ((first | refine orR ?_ | (refine sp ?_ ?_ <;> intro hc) | refine ints_Clone_spec (k1 _) hl h0 ?_) <;> try simp only [*, wpx_of k255_0.eq_1, Nat.add_assoc, go_sem])
 exact Gc.aggSlice (i := 2) rfl ints_plain h
theorem ints_set {l : List Int} {i : Nat} {v : Int} : (ints l).set i [.int .i64 v] = ints (l.set i v) := by simp [ints, List.map_set]
theorem forest_Move_spec {fr to : Int} (h1 : H[o]? = some (.arr 1 (ints up) ro)) (hl : up.length ≤ 1000) (h0 : 0 < up.length) (hm : fMoveB up fr to = true)
 (h : K (.tup [.agg [.slice H.length up.length 0 up.length false], .bool true]) (H ++ [.arr 1 (ints (fMove up fr to)) false])) : ACalls Tryz.prog 226 [.agg [.slice o up.length 0 up.length fl], .int .i64 fr, .int .i64 to] H K := by
 have k1 := Keeps.of h1
 simp only [fMoveB, Bool.and_eq_true, decide_eq_true_eq, Bool.not_eq_true'] at hm
 obtain ⟨m1, m2, m3, m4⟩ := hm
 have m2' : (to < 0) = False := eq_false (by omega)
 have m3' : ((up.length : Int) ≤ to) = False := eq_false (by omega)
 refine ACalls.gc ?_
 refine into ok226 ?_; (try simp only [c226, w226, Nat.add_assoc, m1, m2', m3', m4, go_sem]); repeat' ((first | refine orR ?_ | (refine sp ?_ ?_ <;> intro hc) | refine forest_may_spec (k1 _) ?_ | refine forest_is_spec (k1 _) ?_ | refine forest_clone_spec (k1 _) hl h0 ?_ | refine forest_of_spec (up := up) at2 hl ?_) <;> try simp only [*, w226, Nat.add_assoc, m1, m2', m3', m4, go_sem])
 obtain ⟨L, hL⟩ : ∃ L, Hid (L = fOf up fr) := hide _
 have hLr : ∀ k, k < L.length → 0 ≤ L.getD k 0 ∧ L.getD k 0 < up.length := by
  intro k hk
  have e : L = fOf up fr := hL
  have hm : L.getD k 0 ∈ fOf up fr := by rw [← e]; simp [List.getD, hk]
  simp only [fOf, pick, List.mem_map, List.mem_filter, List.mem_range] at hm
  obtain ⟨j, ⟨hj, -⟩, e2⟩ := hm
  have e2 : (j : Int) = L.getD k 0 := e2
  omega
 obtain ⟨S, hS⟩ : ∃ S : Nat → List Int, ∀ k, S k = (L.take k).foldl (fun l k => l.set k.toNat to) up := ⟨fun k => (L.take k).foldl (fun l k => l.set k.toNat to) up, fun _ => rfl⟩
 have hSl : ∀ k, (S k).length = up.length := fun k => by rw [hS]; exact (fold_set _ _).1
 have e : L = fOf up fr := hL
 rw [← e]
 have e0 : up = S 0 := by rw [hS]; simp
 refine ALoop.keep [37, 1, 2, 3, 6, 35, 36] ?_; simp only [mpC, go_sem]
 refine ALoop.heap (H' := H ++ _ :: _ :: .arr 1 (ints (S 0)) false :: [.arr 1 (ints L) false]) (by rw [← e0]) ?_
 refine ALoop.acc (fun k (_ : Unit) => [(37, .int .i64 (k : Int))]) (fun k _ => H ++ _ :: _ :: .arr 1 (ints (S k)) false :: [.arr 1 (ints L) false]) (fun k _ => True) L.length ?_ (a0 := ()) trivial
 have hLl : L.length ≤ up.length := by rw [e]; simp only [fOf]; exact pick_length
 clear e e0
 have hSh : Hid (∀ k, S k = (L.take k).foldl (fun l k => l.set k.toNat to) up) := hS
 clear hS
 rintro k - hk - next
 refine ALoop.unfold ?_
 have hw := wrap_succ (k := k) (by omega)
 have hr : k < L.length → (0 ≤ L.getD k 0) = True ∧ (L.getD k 0 < (up.length : Int)) = True := fun h => ⟨eq_true (hLr k h).1, eq_true (hLr k h).2⟩
 have hg : k < L.length → (ints L)[k]? = some [.int .i64 (L.getD k 0)] := fun h => ints_get h
 have hgs : k < L.length → (ints (S k))[(L.getD k 0).toNat]? = some [.int .i64 ((S k).getD (L.getD k 0).toNat 0)] := fun h => ints_get (by rw [hSl]; have := hLr k h; omega)
 have hfi : fIs up fr = true := by simp only [fMay, Bool.and_eq_true] at m1; exact m1.2
 rw [fIs_iff] at hfi
 have hf : (0 ≤ fr) = True ∧ (fr < (up.length : Int)) = True := ⟨eq_true hfi.1, eq_true hfi.2.1⟩
 have hf2 : (0 ≤ to) = True ∧ (to < (up.length : Int)) = True := ⟨eq_true m2, eq_true m3⟩
 have hgf : (ints (S k))[fr.toNat]? = some [.int .i64 ((S k).getD fr.toNat 0)] := ints_get (by rw [hSl]; omega)
 have hgt : (ints (S k))[to.toNat]? = some [.int .i64 ((S k).getD to.toNat 0)] := ints_get (by rw [hSl]; omega)
 have hgf2 : ∀ v : Int, (ints ((S k).set to.toNat v))[fr.toNat]? = some [.int .i64 (((S k).set to.toNat v).getD fr.toNat 0)] := fun v => ints_get (by rw [List.length_set, hSl]; omega)
 clear hfi
 (try simp only [w226, hg, hw, hr, hgs, hf, hf2, hgf, hgt, hgf2, ints_set, List.length_set, wpx_of b226_3.eq_1, nlt_iff, n0_le, hSl, apC, go_sem]); repeat' ((first | refine orR ?_ | (refine sp ?_ ?_ <;> intro hc) | fail) <;> try simp only [*, w226, hg, hw, hr, hgs, hf, hf2, hgf, hgt, hgf2, ints_set, List.length_set, wpx_of b226_3.eq_1, nlt_iff, n0_le, hSl, apC, go_sem])
 ·have e1 : (S k).set (L.getD k 0).toNat to = S (k + 1) := by
   have hS : ∀ k, S k = _ := hSh
   have hk : k < L.length := by assumption
   rw [hS, hS, List.take_succ_eq_append_getElem hk, List.foldl_append]
   simp [List.getD, hk]
  rw [e1]
  (refine ALoop.keep [37, 1, 2, 3, 6, 35, 36] ?_; simp only [mpC, go_sem]; refine next () (by assumption) trivial)
 ·have e1 : ((S k).set to.toNat ((S k).getD fr.toNat 0)).set fr.toNat (-2) = fMove up fr to := by
   have hS : ∀ k, S k = _ := hSh
   have e : L = fOf up fr := hL
   have hk : k = L.length := by omega
   rw [hS, hk, List.take_length, e]
   simp only [fMove]
  rw [e1]
  exact Gc.tupSlice (i := 2) rfl ints_plain (h := h)
end
end Go.Proofs.YtlaipllgmddkiaaGreat.Ax
namespace Go.Ax.M
open Go Go.Ax
def mvPart (s : State) (fr to : Int) (k : Nat) : List Slot := (List.range s.slots.length).map fun i => ⟨(mvSlot s fr to i).cap, if i < k then (mvSlot s fr to i).up else (s.slot i).up⟩
def tPart (s : State) (fr to : Int) (k : Nat) : List Thing := (List.range s.things.length).map fun i => if i < k then mvThing fr to (s.thing i) else s.thing i
theorem mvPart_len {s : State} {fr to : Int} {k : Nat} : (mvPart s fr to k).length = s.slots.length := by simp [mvPart]
theorem tPart_len {s : State} {fr to : Int} {k : Nat} : (tPart s fr to k).length = s.things.length := by simp [tPart]
theorem mvPart_get {s : State} {fr to : Int} {k i : Nat} (h : i < s.slots.length) : ((mvPart s fr to k).map Slot.cells)[i]? = some [.int .i64 (mvSlot s fr to i).cap.ty, .int .i64 (mvSlot s fr to i).cap.th, .int .i64 (mvSlot s fr to i).cap.ri, .int .i64 (mvSlot s fr to i).cap.ba, .int .i64 (if i < k then (mvSlot s fr to i).up else (s.slot i).up)] := by
 simp [mvPart, h, Slot.cells]
theorem mvPart_set {s : State} {fr to : Int} {k : Nat} (h : k < s.slots.length) : ((mvPart s fr to k).map Slot.cells).set k [.int .i64 (mvSlot s fr to k).cap.ty, .int .i64 (mvSlot s fr to k).cap.th, .int .i64 (mvSlot s fr to k).cap.ri, .int .i64 (mvSlot s fr to k).cap.ba, .int .i64 (mvSlot s fr to k).up] = (mvPart s fr to (k + 1)).map Slot.cells := by
 apply List.ext_getElem?
 intro i
 by_cases hi : i < s.slots.length
 ·by_cases e : k = i
  ·subst e
   rw [List.getElem?_set_self (by rw [List.length_map, mvPart_len]; exact hi), mvPart_get hi, if_pos (by omega)]
  ·rw [List.getElem?_set_ne e, mvPart_get hi, mvPart_get hi]
   by_cases e2 : i < k
   ·rw [if_pos e2, if_pos (by omega)]
   ·rw [if_neg e2, if_neg (by omega)]
 ·rw [List.getElem?_eq_none (by rw [List.length_set, List.length_map, mvPart_len]; omega), List.getElem?_eq_none (by rw [List.length_map, mvPart_len]; omega)]
theorem mvPart_zero {s : State} {fr to : Nat} (hf : fr < s.slots.length) (ht : to < s.slots.length) (hne : fr ≠ to) :
 ((s.slots.map Slot.cells).set to [.int .i64 (s.slot fr).cap.ty, .int .i64 (s.slot fr).cap.th, .int .i64 (s.slot fr).cap.ri, .int .i64 (s.slot fr).cap.ba, .int .i64 (s.slot to).up]).set fr [.int .i64 0, .int .i64 0, .int .i64 0, .int .i64 0, .int .i64 (s.slot fr).up] = (mvPart s fr to 0).map Slot.cells := by
 apply List.ext_getElem?
 intro i
 by_cases hi : i < s.slots.length
 ·rw [mvPart_get hi, if_neg (by omega)]
  by_cases e : fr = i
  ·subst e
   rw [List.getElem?_set_self (by simpa using hi)]
   simp [mvSlot, Cap.zero]
  ·rw [List.getElem?_set_ne e]
   have e' : ¬ ((i : Int) = (fr : Int)) := by omega
   by_cases e2 : to = i
   ·subst e2
    rw [List.getElem?_set_self (by simpa using hi)]
    simp only [mvSlot, if_neg e', if_true, Int.toNat_natCast]
   ·have e2' : ¬ ((i : Int) = (to : Int)) := by omega
    rw [List.getElem?_set_ne e2, slots_get hi]
    simp only [mvSlot, if_neg e', if_neg e2']
 ·rw [List.getElem?_eq_none (by simp; omega), List.getElem?_eq_none (by rw [List.length_map, mvPart_len]; omega)]
theorem mvPart_all {s : State} {fr to : Int} : mvPart s fr to s.slots.length = (movedS s fr to).slots := by
 simp only [mvPart, movedS]
 refine List.map_congr_left fun i hi => ?_
 rw [if_pos (List.mem_range.1 hi)]
theorem tPart_zero {s : State} {fr to : Int} : tPart s fr to 0 = s.things := by
 apply List.ext_getElem (by simp [tPart])
 intro i h1 h2
 simp [tPart, State.thing, List.getD, h2]
theorem tPart_all {s : State} {fr to : Int} : tPart s fr to s.things.length = (movedS s fr to).things := by
 apply List.ext_getElem (by simp [tPart, movedS])
 intro i h1 h2
 have h3 : i < s.things.length := by simpa [tPart] using h1
 simp [tPart, movedS, State.thing, List.getD, h3]
theorem tPart_get {s : State} {fr to : Int} {k : Nat} (h : k < s.things.length) : ((tPart s fr to k).map Thing.cells)[k]? = some [.int .i64 (s.thing k).ty, .int .i64 (s.thing k).bits, .int .i64 (s.thing k).base, .int .i64 (s.thing k).size, .int .i64 (s.thing k).used, .int .i64 (s.thing k).from_, .int .i64 (s.thing k).badge, .bool (s.thing k).full, .int .u64 (s.thing k).word, .int .u64 (s.thing k).d0, .int .u64 (s.thing k).d1, .int .u64 (s.thing k).d2, .int .u64 (s.thing k).d3] := by
 simp [tPart, h, Thing.cells]
theorem tPart_succ {s : State} {fr to : Int} {k : Nat} (h : k < s.things.length) : tPart s fr to (k + 1) = (tPart s fr to k).set k (mvThing fr to (s.thing k)) := by
 apply List.ext_getElem (by simp [tPart])
 intro i h1 h2
 have h3 : i < s.things.length := by simpa [tPart] using h1
 rw [List.getElem_set]
 by_cases e : k = i
 ·subst e; simp [tPart]
 ·rw [if_neg e]
  simp only [tPart, List.getElem_map, List.getElem_range]
  by_cases e2 : i < k
  ·rw [if_pos e2, if_pos (by omega)]
  ·rw [if_neg e2, if_neg (by omega)]
theorem tPart_skip {s : State} {fr to : Int} {k : Nat} (h : k < s.things.length) (hn : ¬ (s.thing k).from_ = fr + 1) : tPart s fr to (k + 1) = tPart s fr to k := by
 rw [tPart_succ h, show mvThing fr to (s.thing k) = s.thing k by simp [mvThing, hn]]
 apply List.ext_getElem (by simp)
 intro i h1 h2
 rw [List.getElem_set]
 by_cases e : k = i
 ·subst e; simp [tPart]
 ·rw [if_neg e]
theorem tPart_set {s : State} {fr to : Int} {k : Nat} (h : k < s.things.length) (hn : (s.thing k).from_ = fr + 1) : ((tPart s fr to k).map Thing.cells).set k [.int .i64 (s.thing k).ty, .int .i64 (s.thing k).bits, .int .i64 (s.thing k).base, .int .i64 (s.thing k).size, .int .i64 (s.thing k).used, .int .i64 (to + 1), .int .i64 (s.thing k).badge, .bool (s.thing k).full, .int .u64 (s.thing k).word, .int .u64 (s.thing k).d0, .int .u64 (s.thing k).d1, .int .u64 (s.thing k).d2, .int .u64 (s.thing k).d3] = (tPart s fr to (k + 1)).map Thing.cells := by
 rw [tPart_succ h, List.map_set]
 congr 1
 simp [mvThing, hn, Thing.cells]
end Go.Ax.M
namespace Go.Proofs.YtlaipllgmddkiaaGreat.Ax
open Go Go.Ax Go.Ax.M
section
variable {H : Heap} {K : AVal → Heap → Prop} {s : State} {oS oT : Nat} {fS fT rS rT : Bool}
theorem give_moved_spec {fr to : Int} (hS : H[oS]? = some (.arr 5 (s.slots.map Slot.cells) rS)) (hT : H[oT]? = some (.arr 13 (s.things.map Thing.cells) rT)) (m : Moves s fr.toNat to.toNat) (f0 : 0 ≤ fr) (t0 : 0 ≤ to)
 (h : K (stV (movedS s fr to) H.length (H.length + 1) false false) (H ++ [slotsO (movedS s fr to), thingsO (movedS s fr to)])) : ACalls Tryz.prog 184 [stA s oS oT fS fT, .int .i64 fr, .int .i64 to] H K := by
 obtain ⟨fr, rfl⟩ : ∃ n : Nat, fr = n := ⟨fr.toNat, by omega⟩
 obtain ⟨to, rfl⟩ : ∃ n : Nat, to = n := ⟨to.toNat, by omega⟩
 simp only [Int.toNat_natCast] at m
 have kT := Keeps.of hT
 have kS := Keeps.of hS
 have hg := m.inv.ok.good
 have hlS := lS_of hg
 have hf := m.hf
 have ht := m.ht
 have hne := m.ne
 have hup : fMoveB (sForest s) fr to = true := by
  have hu : ∀ i, i < s.slots.length → s.non i → -1 ≤ (s.slot i).up := fun i hi hn => by rcases m.inv.up i hi hn with h | h <;> omega
  simp only [fMoveB, fMay, m.inv.ok.forest, Bool.true_and, Bool.and_eq_true, decide_eq_true_eq, sForest_length, Bool.not_eq_true']
  refine ⟨(forest_is hu).2 ⟨by omega, by omega, by simpa using m.hfn⟩, by omega, by omega, ?_⟩
  cases hi : fIs (sForest s) to with
  | false => rfl
  | true =>
   have := ((forest_is hu).1 hi).2.2
   simp only [State.non, Int.toNat_natCast, m.hte] at this; cases this
 have hl2 : (sForest s).length ≤ 1000 := by rw [sForest_length]; exact hlS
 have hl3 : 0 < (sForest s).length := by rw [sForest_length]; omega
 have hgF := slots_get (s := s) hf
 have hgT := slots_get (s := s) ht
 have hgF2 : ∀ X, ((s.slots.map Slot.cells).set to X)[fr]? = some [.int .i64 (s.slot fr).cap.ty, .int .i64 (s.slot fr).cap.th, .int .i64 (s.slot fr).cap.ri, .int .i64 (s.slot fr).cap.ba, .int .i64 (s.slot fr).up] := fun X => by rw [List.getElem?_set_ne (Ne.symm hne)]; exact slots_get hf
 have hr : (0 ≤ (fr : Int)) = True ∧ ((fr : Int) < (s.slots.length : Int)) = True ∧ (0 ≤ (to : Int)) = True ∧ ((to : Int) < (s.slots.length : Int)) = True := ⟨by simp, eq_true (by omega), by simp, eq_true (by omega)⟩
 refine ACalls.gc ?_
 refine into ok184 ?_; (try simp only [c184, w184, stV, slotsO, thingsO, Nat.add_assoc, sForest_length, hgF, hgT, hgF2, hr, Int.toNat_natCast, List.length_set, go_sem]); repeat' ((first | refine orR ?_ | (refine sp ?_ ?_ <;> intro hc) | refine state_Forest_spec (kS _) hlS ?_ | (rw [← sForest_length]; refine forest_Move_spec (up := sForest s) (by first | exact at0 | exact atX rfl) hl2 hl3 hup ?_) | refine state_Clone_spec (kS _) (kT _) (lS_of hg) (lT_of hg) (lS0_of hg) (lT0_of hg) ?_) <;> try simp only [*, w184, stV, slotsO, thingsO, Nat.add_assoc, sForest_length, hgF, hgT, hgF2, hr, Int.toNat_natCast, List.length_set, go_sem])
 rw [mvPart_zero hf ht hne]
 have hfl : (fMove (sForest s) fr to).length = s.slots.length := by simp only [fMove, List.length_set]; rw [(fold_set _ _).1, sForest_length]
 have hlT := lT_of hg
 obtain ⟨F, hF⟩ : ∃ F, Hid (F = fMove (sForest s) fr to) := hide _
 have hF' : F = _ := hF
 rw [← hF'] at hfl ⊢
 clear hF' hgF hgT hgF2 hup
 refine ALoop.keep [42, 1, 2, 3, 6, 40, 41] ?_; simp only [mpC, go_sem]
 refine ALoop.acc (fun k (_ : Unit) => [(42, .int .i64 (k : Int))]) (fun k _ => H ++ _ :: _ :: _ :: _ :: _ :: .arr 5 ((mvPart s fr to k).map Slot.cells) false :: [_]) (fun k _ => True) s.slots.length ?_ (a0 := ()) trivial
 rintro k - hk - next
 refine ALoop.unfold ?_
 have hw := wrap_succ (k := k) (by omega)
 have hgp : k < s.slots.length → _ := fun h => mvPart_get (s := s) (fr := fr) (to := to) (k := k) h
 have hgf : k < s.slots.length → (ints F)[k]? = some [.int .i64 (F.getD k 0)] := fun h => ints_get (by rw [hfl]; exact h)
 have hmp : (mvPart s fr to k).length = s.slots.length := mvPart_len
 (try simp only [w184, hw, hgp, hgf, hmp, wpx_of b184_2.eq_1, nlt_iff, n0_le, stV, slotsO, thingsO, Nat.add_assoc, List.length_set, apC, go_sem]); repeat' ((first | refine orR ?_ | (refine sp ?_ ?_ <;> intro hc) | fail) <;> try simp only [*, w184, hw, hgp, hgf, hmp, wpx_of b184_2.eq_1, nlt_iff, n0_le, stV, slotsO, thingsO, Nat.add_assoc, List.length_set, apC, go_sem])
 ·have hk : k < s.slots.length := by assumption
  have eu : (if -1 > F.getD k 0 then -1 else F.getD k 0) = (mvSlot s fr to k).up := by
   have hF : F = _ := hF
   simp only [mvSlot, ← hF]
   split <;> omega
  rw [eu, mvPart_set hk]
  (refine ALoop.keep [42, 1, 2, 3, 6, 40, 41] ?_; simp only [mpC, go_sem]; refine next () hk trivial)
 ·have hk : k = s.slots.length := by omega
  subst hk
  rw [mvPart_all]
  have hml : (movedS s fr to).slots.length = s.slots.length := movedS_len
  refine ALoop.heap (H' := H ++ _ :: _ :: _ :: _ :: _ :: _ :: .arr 13 ((tPart s fr to 0).map Thing.cells) false :: []) (by rw [tPart_zero]) ?_
  clear next hw hgp hgf hmp
  refine ALoop.keep [58, 1, 2, 3, 6, 57] ?_; simp only [mpC, go_sem]
  refine ALoop.acc (fun k (_ : Unit) => [(58, .int .i64 (k : Int))]) (fun k _ => H ++ _ :: _ :: _ :: _ :: _ :: _ :: .arr 13 ((tPart s fr to k).map Thing.cells) false :: []) (fun k _ => True) s.things.length ?_ (a0 := ()) trivial
  rintro k - hk - next
  refine ALoop.unfold ?_
  have hw := wrap_succ (k := k) (by omega)
  have hw1 := wrap_succ (k := fr) (by omega)
  have hw2 := wrap_succ (k := to) (by omega)
  have hgp : k < s.things.length → _ := fun h => tPart_get (s := s) (fr := fr) (to := to) (k := k) h
  have hmp : (tPart s fr to k).length = s.things.length := tPart_len
  (try simp only [w184, hw, hw1, hw2, hgp, hmp, hml, wpx_of b184_6.eq_1, nlt_iff, n0_le, stV, slotsO, thingsO, Nat.add_assoc, List.length_set, apC, go_sem]); repeat' ((first | refine orR ?_ | (refine sp ?_ ?_ <;> intro hc) | fail) <;> try simp only [*, w184, hw, hw1, hw2, hgp, hmp, hml, wpx_of b184_6.eq_1, nlt_iff, n0_le, stV, slotsO, thingsO, Nat.add_assoc, List.length_set, apC, go_sem])
  ·have hk : k < s.things.length := by assumption
   have hn : (s.thing k).from_ = ((fr + 1 : Nat) : Int) := by assumption
   rw [show ((to + 1 : Nat) : Int) = (to : Int) + 1 from rfl, tPart_set hk (by omega)]
   (refine ALoop.keep [58, 1, 2, 3, 6, 57] ?_; simp only [mpC, go_sem]; refine next () hk trivial)
  ·have hk : k < s.things.length := by assumption
   have hn : ¬ (s.thing k).from_ = ((fr + 1 : Nat) : Int) := by assumption
   rw [← tPart_skip (fr := fr) (to := to) hk (by omega)]
   (refine ALoop.keep [58, 1, 2, 3, 6, 57] ?_; simp only [mpC, go_sem]; refine next () hk trivial)
  ·have hk : k = s.things.length := by omega
   subst hk
   have hmt : (movedS s fr to).things.length = s.things.length := movedS_lenT
   rw [tPart_all, ← hml, ← hmt]
   exact Gc.state (s := movedS s fr to) (i := 5) (j := 6) rfl rfl (by decide) h
theorem movedS_geo {fr to : Int} : (movedS s fr to).geo = s.geo := rfl
theorem give_ring_x {x0 x1 x2 x3 to : Int} (hS : H[oS]? = some (.arr 5 (s.slots.map Slot.cells) rS)) (hT : H[oT]? = some (.arr 13 (s.things.map Thing.cells) rT)) (h : K (.bool (ringM s ⟨x0, x1, x2, x3⟩ to)) H) : ACalls Tryz.prog 183 [stA s oS oT fS fT, .agg [.int .i64 x0, .int .i64 x1, .int .i64 x2, .int .i64 x3], .int .i64 to] H K := give_ring_spec (c := ⟨x0, x1, x2, x3⟩) hS hT h
theorem give_done_spec {th : Int} {c : M.Call} {oA oB : Nat} {fA fB rA rB : Bool} (hS : H[oS]? = some (.arr 5 (s.slots.map Slot.cells) rS)) (hT : H[oT]? = some (.arr 13 (s.things.map Thing.cells) rT)) (hA : H[oA]? = some (.arr 1 (ints c.a) rA)) (hB : H[oB]? = some (.arr 1 (ints c.b) rB))
 (h : (giveM s th c).st = none → K (.tup [stA s oS oT fS fT, .int .i64 (giveM s th c).err]) H)
 (h' : ∀ s', (giveM s th c).st = some s' → K (.tup [stV s' H.length (H.length + 1) false false, .int .i64 0]) (H ++ [slotsO s', thingsO s'])) :
 ACalls Tryz.prog 104 [stA s oS oT fS fT, .int .i64 th, .agg [.int .i64 c.op, .slice oA c.a.length 0 c.a.length fA, .slice oB c.b.length 0 c.b.length fB, .int .i64 c.x, .int .i64 c.y, .int .u64 c.w]] H K := by
 have kT := Keeps.of hT
 have kS := Keeps.of hS
 have kA := Keeps.of hA
 have kB := Keeps.of hB
 have key : ∀ e, giveM s th c = .bad e → K (.tup [stA s oS oT fS fT, .int .i64 e]) H := fun e he => by rw [he] at h; exact h rfl
 have hv := fun e => show (AVal.tup [stA s oS oT fS fT, .int .i64 e]).refs (fun o => o < H.length) by simp [AVal.refs, refsL]; exact ⟨get_lt hS, get_lt hT⟩
 clear h
 refine ACalls.gc ?_
 refine into ok104 ?_; (try simp only [c104, w104, stV, slotsO, thingsO, Nat.add_assoc, Cap.cells, putS_geo, putS_len, putS_things, movedS_geo, movedS_len, movedS_lenT, go_sem]); repeat' ((first | refine orR ?_ | (refine sp ?_ ?_ <;> intro hc) | refine call_Good_spec (kA _) (kB _) ?_ | refine find_Cap_spec (kS _) (kT _) (kA _) ?_ | refine find_Empty_spec (kS _) (kT _) (kB _) ?_ | refine cap_Cut_x ?_ | refine cap_Stamp_x ?_ | refine give_ring_x (kS _) (kT _) ?_ | refine give_Put_x (kS _) (kT _) (fun hc => ?_) (fun hc => ?_) | refine give_moved_spec (kS _) (kT _) (moves_of (by assumption) (by assumption) (by assumption)) (fCap_lt (by assumption)).1 (fEmpty_ok (by assumption)).2.1 ?_) <;> try simp only [*, w104, stV, slotsO, thingsO, Nat.add_assoc, Cap.cells, putS_geo, putS_len, putS_things, movedS_geo, movedS_len, movedS_lenT, go_sem])
 all_goals try exact Gc.old (hv _) (key _ (by (first | (simp only [giveM, giveIn, giveX, *, bs, go_sem]; done) | (simp_all [giveM, giveIn, giveX]; done) | (simp_all [giveM, giveIn, giveX]; omega) | grind [giveM, giveIn, giveX])))
 all_goals clear key hv
 ·exact Gc.stN (i := 4) (j := 5) rfl rfl h' (hn := movedS_len.symm) (hm := movedS_lenT.symm) (e := by clear h'; (first | (simp only [giveM, giveIn, giveX, *, bs, go_sem]; done) | (simp_all [giveM, giveIn, giveX]; done) | (simp_all [giveM, giveIn, giveX]; omega) | grind [giveM, giveIn, giveX]))
 ·exact Gc.stN (i := 4) (j := 5) rfl rfl h' (hn := putS_len.symm) (hm := rfl) (e := by clear h'; (first | (simp only [giveM, giveIn, giveX, *, bs, go_sem]; done) | (simp_all [giveM, giveIn, giveX]; done) | (simp_all [giveM, giveIn, giveX]; omega) | grind [giveM, giveIn, giveX]))
 ·exact Gc.stN (i := 4) (j := 5) rfl rfl h' (hn := putS_len.symm) (hm := rfl) (e := by clear h'; (first | (simp only [giveM, giveIn, giveX, *, bs, go_sem]; done) | (simp_all [giveM, giveIn, giveX]; done) | (simp_all [giveM, giveIn, giveX]; omega) | grind [giveM, giveIn, giveX]))
theorem give_Do_spec : DoSpec 32 giveM := by
 intro H K s th c oS oT oA oB fS fT rS rT fA fB rA rB hS hT hA hB h h'
 have kT := Keeps.of hT
 have kS := Keeps.of hS
 have kA := Keeps.of hA
 have kB := Keeps.of hB
 have hn : (giveM s th c).st = none → ((giveM s th c).err = 0) = False := fun h => eq_false (giveM_none h)
 refine ACalls.gc ?_
 refine into ok32 ?_; (try simp only [c32, w32, stV, slotsO, thingsO, Nat.add_assoc, hn, go_sem]); repeat' ((first | refine orR ?_ | (refine sp ?_ ?_ <;> intro hc) | refine give_done_spec (kS _) (kT _) (kA _) (kB _) (fun hc => ?_) (fun s' hc => (fun e => ?_) (giveM_some hc).2.2.2.1)) <;> try simp only [*, w32, stV, slotsO, thingsO, Nat.add_assoc, hn, go_sem])
 ·obtain ⟨e, -, he⟩ := giveM_bad (s := s) (th := th) (c := c) (by assumption)
  have h := h (by rw [he]; rfl)
  rw [he] at h ⊢
  exact Gc.old (by simp [AVal.refs, refsL]; exact ⟨get_lt hS, get_lt hT⟩) h
 ·exact Gc.stN (i := 4) (j := 5) rfl rfl (r := (giveM s th c).st) (fun s' e => by have := h' s' e; have e2 := (giveM_some e).2.2.2.1; rw [e2] at this; exact this) (hn := rfl) (hm := rfl) (e := by assumption)
end
end Go.Proofs.YtlaipllgmddkiaaGreat.Ax

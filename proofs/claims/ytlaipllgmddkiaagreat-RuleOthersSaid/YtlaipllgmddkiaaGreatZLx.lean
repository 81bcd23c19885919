/- Texts put behind one another: LOthers. Conditions: none. -/
import Derived.Test.YtlaipllgmddkiaaGreatZRu
import Derived.Test.YtlaipllgmddkiaaGreatSArgSZ
set_option linter.all false
namespace Go.Ax
open Go
theorem ALoop.off {P : Program} {n0 : Nat} {c : ACode} {Q : Exit → St → Prop} {n d : Nat} {l : List (Nat × AVal)} {H : Heap} (N0 N : Nat)
 (step : ∀ k, k ≤ N → (k < N → ALoop P n0 c Q ⟨mkT n ((d, .int .i64 ((N0 + (k + 1) : Nat) : Int)) :: l), H⟩) → ALoop P n0 c Q ⟨mkT n ((d, .int .i64 ((N0 + k : Nat) : Int)) :: l), H⟩) : ALoop P n0 c Q ⟨mkT n ((d, .int .i64 (N0 : Int)) :: l), H⟩ :=
 ALoop.ind (α := Unit) (fun k _ => ⟨mkT n ((d, .int .i64 ((N0 + k : Nat) : Int)) :: l), H⟩) (fun _ _ => True) N (fun k _ hk _ nx => step k hk fun a => nx () a trivial) 0 () (Nat.zero_le _) trivial
end Go.Ax
namespace Go.Ax.M
open Go Go.Ax
theorem S0_once : RoomOnce S0 := by
 have : ∀ i j : Fin 32, (S0.slot i.val).cap.ty = 1 → (S0.slot j.val).cap.ty = 1 → (S0.slot i.val).cap.th = (S0.slot j.val).cap.th → i = j := by decide +kernel
 intro i j hi hj h1 h2 h3
 have hl : S0.slots.length = 32 := by decide +kernel
 have := this ⟨i, by omega⟩ ⟨j, by omega⟩ h1 h2 h3
 simpa using this
theorem S0_noRoot : NoRoot S0 := by
 have : ∀ i : Fin 32, cNone (S0.slot i.val).cap = false → rootB S0 (S0.slot i.val).cap.th.toNat = false := by decide +kernel
 intro i hi h1
 have hl : S0.slots.length = 32 := by decide +kernel
 exact this ⟨i, by omega⟩ h1
theorem S0_inv : Inv S0 := inv_iff.1 (by kernel_rfl)
structure Kept (s : State) : Prop where
 inv : Inv s
 once : RoomOnce s
 root : NoRoot s
 geo : s.geo = S0.geo
theorem kept_S0 : Kept S0 := ⟨S0_inv, S0_once, S0_noRoot, rfl⟩
theorem Kept.lens {s : State} (h : Kept s) : s.slots.length = 32 ∧ s.things.length = 16 := by
 have h1 := h.inv.lenS
 have h2 := h.inv.lenT
 rw [show s.geo = M.S0.geo from h.geo] at h1 h2
 have e1 : M.S0.geo.slots = 32 := by decide +kernel
 have e2 : M.S0.geo.things = 16 := by decide +kernel
 omega
theorem S0_threads : S0.geo.threads = 2 := by decide +kernel
theorem ruleW_some {s u : State} {th l0 l1 l2 l3 : Int} (h : (ruleW s th l0 l1 l2 l3).st = some u) : gOk l0 l1 l2 l3 = true ∧ ruleW s th l0 l1 l2 l3 = ruleM s th (gCall l0 l1 l2 l3) := by
 simp only [ruleW] at h ⊢
 cases h1 : sGood s with
 | false => rw [h1] at h; simp [Res.bad] at h
 | true =>
  cases h2 : gOk l0 l1 l2 l3 with
  | false => rw [h1, h2] at h; simp [Res.bad] at h
  | true => simp
theorem ruleW_ok {s : State} {th l0 l1 l2 l3 : Int} (h : (ruleW s th l0 l1 l2 l3).err = 0) : gOk l0 l1 l2 l3 = true ∧ inB th 0 (s.geo.threads - 1) = true := by
 simp only [ruleW] at h
 cases h1 : sGood s with
 | false => rw [h1] at h; simp [Res.bad] at h
 | true =>
  cases h2 : gOk l0 l1 l2 l3 with
  | false => rw [h1, h2] at h; simp [Res.bad] at h
  | true =>
   rw [h1, h2] at h
   simp only [Bool.not_true, cond_false, ruleM, h1, Bool.true_and] at h
   cases h3 : (callGood (gCall l0 l1 l2 l3) && inB th 0 (s.geo.threads - 1)) with
   | false => rw [h3] at h; simp [Res.bad] at h
   | true => simp only [Bool.and_eq_true] at h3; exact ⟨rfl, h3.2⟩
theorem Kept.turn {s u : State} {th l0 l1 l2 l3 : Int} (k : Kept s) (h : (ruleW s th l0 l1 l2 l3).st = some u) : Kept u ∧ Turn s u th (gCall l0 l1 l2 l3) ∧ (ruleW s th l0 l1 l2 l3).err = 0 := by
 obtain ⟨_, e⟩ := ruleW_some h
 rw [e] at h ⊢
 obtain ⟨_, t⟩ := ruleM_turn k.once h
 exact ⟨⟨t.inv, t.once, t.noRoot k.inv k.root, t.geo.trans k.geo⟩, t, (ruleM_lens h).2.2.2⟩
theorem Kept.apart {s u : State} {th : Int} {c : Call} (k : Kept s) (t : Turn s u th c) (h5 : c.op ≠ 5) (h6 : c.op ≠ 6) {o : Int} (ho : o = 1 - th) (h0 : 0 ≤ th) (h1 : th ≤ 1) {i : Nat} (hi : 8 * o ≤ i ∧ (i : Int) < 8 * o + 8) : (u.slot i).cap = (s.slot i).cap := by
 have hl := k.lens
 have ht : s.geo.threads = 2 := by rw [k.geo]; exact S0_threads
 rcases t.at_ h5 h6 i (by omega) with h | h | h
 ·exact h
 ·exact (slot_apart k.inv k.root h (o := o) (by omega) (by omega) (by omega) hi).elim
 ·exact (slot_apart k.inv k.root h (o := o) (by omega) (by omega) (by omega) hi).elim
end Go.Ax.M
namespace Go.Proofs.YtlaipllgmddkiaaGreat.Ax
open Go Go.Ax Go.Ax.M
set_option maxRecDepth 100000
set_option maxHeartbeats 4000000 in
theorem ruleOthers_law (H : Heap) (bs : List AVal) (h : ArgShapes Tryz.prog H 8 [63] bs) : ACalls Tryz.prog 9 bs H fun v _ => v = .bool true := by
 obtain ⟨a1, l, rfl, h1, h⟩ := argShapes_cons h
 obtain rfl := argShapes_nil h
 obtain ⟨oL, l, rfl, hL, hok⟩ := arg_steps h1
 clear h1 h
 have kL := Keeps.of hL
 have hss : ∀ s, sSame s s = true := fun s => sSame_iff.2 rfl
 by_cases hlen : 30 < l.length
 ·have h30 : ((30 : Int) < (l.length : Int)) = True := eq_true (by omega)
  refine into ok9 ?_; (try simp only [c9, w9, h30, go_sem]); repeat' ((first | refine orR ?_ | (refine sp ?_ ?_ <;> intro hc) | refine awake21_spec ?_) <;> try simp only [*, w9, h30, go_sem])
 ·have h30 : ((30 : Int) < (l.length : Int)) = False := eq_false (by omega)
  refine into ok9 ?_; (try simp only [c9, w9, h30, stV, slotsO, thingsO, Nat.add_assoc, go_sem]); repeat' ((first | refine orR ?_ | (refine sp ?_ ?_ <;> intro hc) | refine awake21_spec ?_ | refine first21_spec ?_) <;> try simp only [*, w9, h30, stV, slotsO, thingsO, Nat.add_assoc, go_sem])
  refine ALoop.keep [4, 0, 3] ?_; simp only [mpC, go_sem]
  refine ALoop.acc (fun k (p : State × Nat × Nat × Bool × Bool × Heap) => [(4, .int .i64 (k : Int))]) (fun k p => H ++ .arr 5 (S0.slots.map Slot.cells) false :: .arr 13 (S0.things.map Thing.cells) false :: .arr 5 [[.int .i64 p.1.geo.threads, .int .i64 p.1.geo.slots, .int .i64 p.1.geo.things, .slice p.2.1 p.1.slots.length 0 p.1.slots.length p.2.2.2.1, .slice p.2.2.1 p.1.things.length 0 p.1.things.length p.2.2.2.2.1]] false :: p.2.2.2.2.2)
   (fun k p => Kept p.1 ∧ ∀ b L, (H ++ .arr 5 (S0.slots.map Slot.cells) false :: .arr 13 (S0.things.map Thing.cells) false :: b :: (p.2.2.2.2.2 ++ L))[p.2.1]? = some (slotsO p.1) ∧ (H ++ .arr 5 (S0.slots.map Slot.cells) false :: .arr 13 (S0.things.map Thing.cells) false :: b :: (p.2.2.2.2.2 ++ L))[p.2.2.1]? = some (thingsO p.1)) l.length ?_ (a0 := (S0, H.length, H.length + 1, true, true, [])) ⟨kept_S0, fun b L => ⟨at0, at1⟩⟩
  rintro k ⟨s, pS, pT, fS, fT, G⟩ hk ⟨hs, hi⟩ next
  simp only at hs hi next ⊢
  generalize hO0 : AObj.arr 5 (S0.slots.map Slot.cells) false = o0 at *
  generalize hO1 : AObj.arr 13 (S0.things.map Thing.cells) false = o1 at *
  refine ALoop.unfold ?_
  have hw := wrap_succ (k := k) (by omega)
  have hlen := hs.lens
  have hlS : s.slots.length ≤ 1000 := by omega
  have hlT : s.things.length ≤ 1000 := by omega
  have hiS := fun b L => (hi b L).1
  have hiT := fun b L => (hi b L).2
  have hiS0 := fun b => by have := hiS b []; rw [List.append_nil] at this; exact this
  have hiT0 := fun b => by have := hiT b []; rw [List.append_nil] at this; exact this
  simp only [slotsO] at hiS hiS0
  simp only [thingsO] at hiT hiT0
  have hi' : Hid (∀ b L, _) := hi
  clear hi hlen
  have hi := hi'
  clear hi'
  by_cases hkl : k < l.length
  ·have hx := step_mem hok hkl
   have hg := steps_get hkl
   have hxf := steps_four (x := l.getD k .zero)
   generalize l.getD k Step.zero = x at *
   obtain ⟨u0, u1, u2, u3⟩ := hx
   obtain ⟨e, v, n, st, hr⟩ : ∃ e v n st, ruleW s x.th x.l0 x.l1 x.l2 x.l3 = ⟨e, v, n, st⟩ := ⟨_, _, _, _, rfl⟩
   have hll : (l.map Step.cells).length = l.length := by simp
   have kS4 : ∀ L, (H ++ L)[oL]? = some (.arr 5 (l.map Step.cells) true) := kL
   by_cases he : e = 0
   ·subst he
    obtain ⟨hgk, hth⟩ := ruleW_ok (s := s) (th := x.th) (l0 := x.l0) (l1 := x.l1) (l2 := x.l2) (l3 := x.l3) (by rw [hr])
    rw [inB_iff, hs.geo, S0_threads] at hth
    obtain ⟨N0, hN, ha2⟩ : ∃ N0 : Nat, Hid ((N0 : Int) = 8 * (1 - x.th)) ∧ IntKind.wrap .i64 (8 * IntKind.wrap .i64 (1 - IntKind.wrap .i64 ((BitVec.ofInt (IntKind.bits .i64) x.th &&& BitVec.ofInt (IntKind.bits .i64) 1).toNat : Int))) = (N0 : Int) := by
     rcases (by omega : x.th = 0 ∨ x.th = 1) with e | e
     ·exact ⟨8, by rw [e]; exact (rfl : ((8 : Nat) : Int) = 8 * (1 - 0)), by rw [e]; rfl⟩
     ·exact ⟨0, by rw [e]; exact (rfl : ((0 : Nat) : Int) = 8 * (1 - 1)), by rw [e]; rfl⟩
    simp only [go_sem] at ha2
    have hN16 : N0 ≤ 8 := by have : (N0 : Int) = 8 * (1 - x.th) := hN; omega
    generalize hcc : gCall x.l0 x.l1 x.l2 x.l3 = c0 at *
    have get := fun (H' : Heap) (hk : H'[oL]? = some (.arr 5 (l.map Step.cells) true)) (K' : AVal → Heap → Prop) h1 h2 => call_Get_isl (K := K') hk hll hg hxf u0 u1 u2 (fun hk => absurd (hk.symm.trans hgk) (by decide)) (fun _ => h1) (fun _ => h2)
    rw [hcc] at get
    obtain ⟨op, ca, cb, cx, cy, cw⟩ := c0
    simp only at get
    cases st with
    | none =>
     (try simp only [w9, kL, hkl, hw, hg, ha2, wpx_of b9_14.eq_1, nlt_iff, n0_le, hll, stV, slotsO, thingsO, Nat.add_assoc, hss, apC, go_sem]); repeat' ((first | refine orR ?_ | (refine sp ?_ ?_ <;> intro hc) | refine rule_Words_islNon hr (by first | exact hiS0 _ | exact hiS _ _) (by first | exact hiT0 _ | exact hiT _ _) (kL _) hll hg hxf u0 u1 u2 ?_ | refine get _ (kL _) _ (fun hb => ?_) (fun hb => ?_) | refine state_Same_spec (s := s) (u := s) (by first | exact hiS0 _ | exact hiS _ _) (by first | exact hiT0 _ | exact hiT _ _) (by first | exact hiS0 _ | exact hiS _ _) (by first | exact hiT0 _ | exact hiT _ _) hlS hlT ?_) <;> try simp only [*, w9, kL, hkl, hw, hg, ha2, wpx_of b9_14.eq_1, nlt_iff, n0_le, hll, stV, slotsO, thingsO, Nat.add_assoc, hss, apC, go_sem])
     all_goals
      refine ALoop.keep [10, 0, 3, 4, 5, 7, 9] ?_
      simp only [mpC, go_sem]
      refine ALoop.off N0 8 fun j hj next2 => ?_
      refine ALoop.unfold ?_
      have hwj : IntKind.wrap .i64 (((N0 + j : Nat) : Int) + 1) = ((N0 + (j + 1) : Nat) : Int) := by rw [w64 (by omega) (by omega)]; omega
      have hw8 : IntKind.wrap .i64 ((N0 : Int) + 8) = ((N0 + 8 : Nat) : Int) := by rw [w64 (by omega) (by omega)]; omega
      by_cases h8 : j < 8
      ·have A1 : (N0 + j < N0 + 8) = True := eq_true (by omega)
       have A2 : (N0 + j < s.slots.length) = True := eq_true (by have := hs.lens; omega)
       by_cases hop : op = 5 ∨ op = 6
       ·rcases hop with hop | hop
        ·(try simp only [w9, A1, A2, hop, hw, hw8, hwj, hiS, hiS0, hiT, hiT0, wpx_of b9_7.eq_1, nlt_iff, n0_le, stV, Nat.add_assoc, apC, go_sem]); repeat' ((first | refine orR ?_ | (refine sp ?_ ?_ <;> intro hc) | fail) <;> try simp only [*, w9, A1, A2, hop, hw, hw8, hwj, hiS, hiS0, hiT, hiT0, wpx_of b9_7.eq_1, nlt_iff, n0_le, stV, Nat.add_assoc, apC, go_sem])
         (refine ALoop.keep [4, 0, 3] ?_; simp only [mpC, go_sem]; refine next (s, pS, pT, fS, fT, _) hkl ⟨hs, fun b L => by rw [List.append_assoc]; exact hi b _⟩)
        ·(try simp only [w9, A1, A2, hop, hw, hw8, hwj, hiS, hiS0, hiT, hiT0, wpx_of b9_7.eq_1, nlt_iff, n0_le, stV, Nat.add_assoc, apC, go_sem]); repeat' ((first | refine orR ?_ | (refine sp ?_ ?_ <;> intro hc) | fail) <;> try simp only [*, w9, A1, A2, hop, hw, hw8, hwj, hiS, hiS0, hiT, hiT0, wpx_of b9_7.eq_1, nlt_iff, n0_le, stV, Nat.add_assoc, apC, go_sem])
         (refine ALoop.keep [4, 0, 3] ?_; simp only [mpC, go_sem]; refine next (s, pS, pT, fS, fT, _) hkl ⟨hs, fun b L => by rw [List.append_assoc]; exact hi b _⟩)
       ·have o5 : (op = 5) = False := eq_false fun e => hop (.inl e)
        have o6 : (op = 6) = False := eq_false fun e => hop (.inr e)
        have A3 : (N0 + j < s.slots.length) = True := eq_true (by have := hs.lens; omega)
        have gs := slots_get (s := s) (k := N0 + j) (by have := hs.lens; omega)
        have gu := slots_get (s := s) (k := N0 + j) (by have := hs.lens; omega)
        (try simp only [w9, A1, A2, A3, o5, o6, gs, gu, hw, hw8, hwj, hiS, hiS0, hiT, hiT0, wpx_of b9_7.eq_1, nlt_iff, n0_le, stV, Nat.add_assoc, apC, go_sem]); repeat' ((first | refine orR ?_ | (refine sp ?_ ?_ <;> intro hc) | fail) <;> try simp only [*, w9, A1, A2, A3, o5, o6, gs, gu, hw, hw8, hwj, hiS, hiS0, hiT, hiT0, wpx_of b9_7.eq_1, nlt_iff, n0_le, stV, Nat.add_assoc, apC, go_sem])
        (refine ALoop.keep [10, 0, 3, 4, 5, 7, 9] ?_; simp only [mpC, go_sem]; refine next2 h8)
      ·have h8' : j = 8 := by omega
       subst h8'
       have A1 : (N0 + 8 < N0 + 8) = False := eq_false (by omega)
       (try simp only [w9, A1, hw, hw8, hwj, hiS, hiS0, hiT, hiT0, wpx_of b9_7.eq_1, nlt_iff, n0_le, stV, Nat.add_assoc, apC, go_sem]); repeat' ((first | refine orR ?_ | (refine sp ?_ ?_ <;> intro hc) | fail) <;> try simp only [*, w9, A1, hw, hw8, hwj, hiS, hiS0, hiT, hiT0, wpx_of b9_7.eq_1, nlt_iff, n0_le, stV, Nat.add_assoc, apC, go_sem])
       (refine ALoop.keep [4, 0, 3] ?_; simp only [mpC, go_sem]; refine next (s, pS, pT, fS, fT, _) hkl ⟨hs, fun b L => by rw [List.append_assoc]; exact hi b _⟩)
    | some u =>
     obtain ⟨hu, ht, -⟩ := hs.turn (u := u) (by rw [hr])
     rw [hcc] at ht
     (try simp only [w9, kL, hkl, hw, hg, ha2, wpx_of b9_14.eq_1, nlt_iff, n0_le, hll, stV, slotsO, thingsO, Nat.add_assoc, hss, apC, go_sem]); repeat' ((first | refine orR ?_ | (refine sp ?_ ?_ <;> intro hc) | refine rule_Words_islSom hr (by first | exact hiS0 _ | exact hiS _ _) (by first | exact hiT0 _ | exact hiT _ _) (kL _) hll hg hxf u0 u1 u2 ?_ | refine get _ (kL _) _ (fun hb => ?_) (fun hb => ?_)) <;> try simp only [*, w9, kL, hkl, hw, hg, ha2, wpx_of b9_14.eq_1, nlt_iff, n0_le, hll, stV, slotsO, thingsO, Nat.add_assoc, hss, apC, go_sem])
     all_goals
      refine ALoop.keep [10, 0, 3, 4, 5, 7, 9] ?_
      simp only [mpC, go_sem]
      refine ALoop.off N0 8 fun j hj next2 => ?_
      refine ALoop.unfold ?_
      have hwj : IntKind.wrap .i64 (((N0 + j : Nat) : Int) + 1) = ((N0 + (j + 1) : Nat) : Int) := by rw [w64 (by omega) (by omega)]; omega
      have hw8 : IntKind.wrap .i64 ((N0 : Int) + 8) = ((N0 + 8 : Nat) : Int) := by rw [w64 (by omega) (by omega)]; omega
      by_cases h8 : j < 8
      ·have A1 : (N0 + j < N0 + 8) = True := eq_true (by omega)
       have A2 : (N0 + j < u.slots.length) = True := eq_true (by have := hu.lens; omega)
       by_cases hop : op = 5 ∨ op = 6
       ·rcases hop with hop | hop
        ·(try simp only [w9, A1, A2, hop, hw, hw8, hwj, hiS, hiS0, hiT, hiT0, wpx_of b9_7.eq_1, nlt_iff, n0_le, stV, Nat.add_assoc, apC, go_sem]); repeat' ((first | refine orR ?_ | (refine sp ?_ ?_ <;> intro hc) | fail) <;> try simp only [*, w9, A1, A2, hop, hw, hw8, hwj, hiS, hiS0, hiT, hiT0, wpx_of b9_7.eq_1, nlt_iff, n0_le, stV, Nat.add_assoc, apC, go_sem])
         (refine ALoop.keep [4, 0, 3] ?_; simp only [mpC, go_sem]; refine next (u, _, _, false, false, _) hkl ⟨hu, fun b L => ⟨atX (by simp [slotsO]), atX (by simp [thingsO])⟩⟩)
        ·(try simp only [w9, A1, A2, hop, hw, hw8, hwj, hiS, hiS0, hiT, hiT0, wpx_of b9_7.eq_1, nlt_iff, n0_le, stV, Nat.add_assoc, apC, go_sem]); repeat' ((first | refine orR ?_ | (refine sp ?_ ?_ <;> intro hc) | fail) <;> try simp only [*, w9, A1, A2, hop, hw, hw8, hwj, hiS, hiS0, hiT, hiT0, wpx_of b9_7.eq_1, nlt_iff, n0_le, stV, Nat.add_assoc, apC, go_sem])
         (refine ALoop.keep [4, 0, 3] ?_; simp only [mpC, go_sem]; refine next (u, _, _, false, false, _) hkl ⟨hu, fun b L => ⟨atX (by simp [slotsO]), atX (by simp [thingsO])⟩⟩)
       ·have o5 : (op = 5) = False := eq_false fun e => hop (.inl e)
        have o6 : (op = 6) = False := eq_false fun e => hop (.inr e)
        have A3 : (N0 + j < s.slots.length) = True := eq_true (by have := hs.lens; omega)
        have gs := slots_get (s := s) (k := N0 + j) (by have := hs.lens; omega)
        have gu := slots_get (s := u) (k := N0 + j) (by have := hu.lens; omega)
        have hcap : (u.slot (N0 + j)).cap = (s.slot (N0 + j)).cap := hs.apart ht (fun e => hop (.inl e)) (fun e => hop (.inr e)) (o := 1 - x.th) rfl hth.1 (by omega) (by have : (N0 : Int) = 8 * (1 - x.th) := hN; omega)
        rw [hcap] at gu
        (try simp only [w9, A1, A2, A3, o5, o6, gs, gu, hw, hw8, hwj, hiS, hiS0, hiT, hiT0, wpx_of b9_7.eq_1, nlt_iff, n0_le, stV, Nat.add_assoc, apC, go_sem]); repeat' ((first | refine orR ?_ | (refine sp ?_ ?_ <;> intro hc) | fail) <;> try simp only [*, w9, A1, A2, A3, o5, o6, gs, gu, hw, hw8, hwj, hiS, hiS0, hiT, hiT0, wpx_of b9_7.eq_1, nlt_iff, n0_le, stV, Nat.add_assoc, apC, go_sem])
        (refine ALoop.keep [10, 0, 3, 4, 5, 7, 9] ?_; simp only [mpC, go_sem]; refine next2 h8)
      ·have h8' : j = 8 := by omega
       subst h8'
       have A1 : (N0 + 8 < N0 + 8) = False := eq_false (by omega)
       (try simp only [w9, A1, hw, hw8, hwj, hiS, hiS0, hiT, hiT0, wpx_of b9_7.eq_1, nlt_iff, n0_le, stV, Nat.add_assoc, apC, go_sem]); repeat' ((first | refine orR ?_ | (refine sp ?_ ?_ <;> intro hc) | fail) <;> try simp only [*, w9, A1, hw, hw8, hwj, hiS, hiS0, hiT, hiT0, wpx_of b9_7.eq_1, nlt_iff, n0_le, stV, Nat.add_assoc, apC, go_sem])
       (refine ALoop.keep [4, 0, 3] ?_; simp only [mpC, go_sem]; refine next (u, _, _, false, false, _) hkl ⟨hu, fun b L => ⟨atX (by simp [slotsO]), atX (by simp [thingsO])⟩⟩)
   ·have hst : st = none := by
     cases st with
     | none => rfl
     | some u => have := (hs.turn (u := u) (by rw [hr])).2.2; rw [hr] at this; exact absurd this he
    subst hst
    (try simp only [w9, kL, hkl, hw, hg, he, wpx_of b9_14.eq_1, nlt_iff, n0_le, hll, stV, slotsO, thingsO, zeroCall, Nat.add_assoc, hss, apC, go_sem]); repeat' ((first | refine orR ?_ | (refine sp ?_ ?_ <;> intro hc) | refine rule_Words_islNon hr (by first | exact hiS0 _ | exact hiS _ _) (by first | exact hiT0 _ | exact hiT _ _) (kL _) hll hg hxf u0 u1 u2 ?_ | refine call_Get_isl (kL _) hll hg hxf u0 u1 u2 (fun hk => ?_) (fun hk hb => ?_) (fun hk hb => ?_) | refine state_Same_spec (s := s) (u := s) (by first | exact hiS0 _ | exact hiS _ _) (by first | exact hiT0 _ | exact hiT _ _) (by first | exact hiS0 _ | exact hiS _ _) (by first | exact hiT0 _ | exact hiT _ _) hlS hlT ?_) <;> try simp only [*, w9, kL, hkl, hw, hg, he, wpx_of b9_14.eq_1, nlt_iff, n0_le, hll, stV, slotsO, thingsO, zeroCall, Nat.add_assoc, hss, apC, go_sem])
    all_goals ((refine ALoop.keep [4, 0, 3] ?_; simp only [mpC, go_sem]; refine next (s, pS, pT, fS, fT, _) hkl ⟨hs, fun b L => by rw [List.append_assoc]; exact hi b _⟩))
  ·have hk' : k = l.length := by omega
   subst hk'
   have hirr : (l.length < l.length) = False := eq_false (Nat.lt_irrefl _)
   (try simp only [w9, hirr, hw, wpx_of b9_14.eq_1, nlt_iff, n0_le, stV, Nat.add_assoc, apC, go_sem]); repeat' ((first | refine orR ?_ | (refine sp ?_ ?_ <;> intro hc) | fail) <;> try simp only [*, w9, hirr, hw, wpx_of b9_14.eq_1, nlt_iff, n0_le, stV, Nat.add_assoc, apC, go_sem])
end Go.Proofs.YtlaipllgmddkiaaGreat.Ax

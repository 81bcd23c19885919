/- Texts put behind one another: SState, SState2, SState3, SState4, SState5. Conditions: none. -/
import Derived.Test.YtlaipllgmddkiaaGreatZTh
import Derived.Test.YtlaipllgmddkiaaGreatMStateZ
import Derived.Test.YtlaipllgmddkiaaGreatZC1
set_option linter.all false
namespace Go.Proofs.YtlaipllgmddkiaaGreat.Ax
open Go Go.Ax Go.Ax.M
section
variable {H : Heap} {K : AVal → Heap → Prop} {s : State} {oS oT : Nat} {fS fT rS rT : Bool}
theorem state_there_spec {t : Int} (hT : H[oT]? = some (.arr 13 (s.things.map Thing.cells) rT)) (h : K (.bool (sThere s t)) H) : ACalls Tryz.prog 142 [stA s oS oT fS fT, .int .i64 t] H K := by
 have kT := Keeps.of hT
 have hg : 0 ≤ t → t < s.things.length → _ := fun h1 h2 => things_get (s := s) (k := t.toNat) (by omega)
 refine ACalls.tidy ?_
 refine into ok142 ?_; (try simp only [c142, wpx_of k142_0.eq_1, kT, hg, go_sem]); repeat' ((first | refine orR ?_ | (refine sp ?_ ?_ <;> intro hc) | fail) <;> try simp only [*, wpx_of k142_0.eq_1, kT, hg, go_sem])
 all_goals (refine tb h (by first | exact ⟨_, rfl⟩ | exact ⟨[], (List.append_nil _).symm⟩ | exact hx | exact hx.app _) ?_; first | (simp only [sThere, *, bs, go_sem]; done) | (simp_all [sThere]; done) | (simp_all [sThere]; omega) | grind [sThere])
theorem state_caps_spec (hS : H[oS]? = some (.arr 5 (s.slots.map Slot.cells) rS)) (hT : H[oT]? = some (.arr 13 (s.things.map Thing.cells) rT)) (hlen : s.slots.length ≤ 1000) (h : K (.bool (sCaps s)) H) : ACalls Tryz.prog 71 [stA s oS oT fS fT] H K := by
 have kT := Keeps.of hT
 have kS := Keeps.of hS
 refine ACalls.tidy ?_
 refine into ok71 ?_; (try simp only [c71, w71, kS, kT, go_sem]); repeat' ((first | refine orR ?_ | (refine sp ?_ ?_ <;> intro hc) | fail) <;> try simp only [*, w71, kS, kT, go_sem])
 refine ALoop.keep [9, 1, 7, 8] ?_; simp only [mpC, go_sem]
 refine ALoop.acc (fun k W => [(9, .int .i64 (k : Int))]) (fun k W => W) (fun k W => Ex H W ∧ Keeps W H.length _ ∧ (s.slots.take k).all (capOk s) = true) s.slots.length ?_ (a0 := _) ⟨.mk _, Keeps.of at0, by simp⟩
 rintro k W hk ⟨hx, kst, hI⟩ next
 have kT : Keeps W oT _ := kT.ex hx
 have kS : Keeps W oS _ := kS.ex hx
 have kT0 := kT.at
 have kS0 := kS.at
 have kst0 := kst.at
 refine ALoop.unfold ?_
 have hw := wrap_succ (k := k) (by omega)
 have hg : k < s.slots.length → _ := fun h => slots_get (s := s) (k := k) h
 have hgT := @there_get s
 (try simp only [w71, kT, kS, kst, hg, hw, hgT, wpx_of b71_9.eq_1, nlt_iff, n0_le, apC, go_sem]); repeat' ((first | refine orR ?_ | (refine sp ?_ ?_ <;> intro hc) | refine cap_Good_x ?_ | refine cap_None_x ?_ | refine state_there_spec (kT _) ?_) <;> try simp only [*, w71, kT, kS, kst, hg, hw, hgT, wpx_of b71_9.eq_1, nlt_iff, n0_le, apC, go_sem])
 all_goals try (refine tb h (hx.app _) ?_; have e : s.slots.all (capOk s) = false := slot_false (k := k) (by assumption) (by simp [capOk, *]; try omega); simp [sCaps, e]; done)
 all_goals try ((refine ALoop.keep [9, 1, 7, 8] ?_; simp only [mpC, go_sem]; refine next _ (by assumption) ⟨hx.app _, kst.app _, ?_⟩); rw [slot_all (by assumption), hI]; simp [capOk, *]; try omega; done)
 refine tb h hx ?_
 have hk : k = s.slots.length := by omega
 subst hk
 rw [List.take_length] at hI
 simp [sCaps, hI]
theorem state_holders_spec {t : Int} (hS : H[oS]? = some (.arr 5 (s.slots.map Slot.cells) rS)) (hlen : s.slots.length ≤ 1000) (h : K (.slice H.length (sHolders s t).length 0 (sHolders s t).length false) (H ++ [.arr 1 (ints (sHolders s t)) false])) : ACalls Tryz.prog 144 [stA s oS oT fS fT, .int .i64 t] H K := by
 have kS := Keeps.of hS
 refine ACalls.gc ?_
 refine into ok144 ?_; (try simp only [c144, w144, kS, go_sem]); repeat' ((first | refine orR ?_ | (refine sp ?_ ?_ <;> intro hc) | fail) <;> try simp only [*, w144, kS, go_sem])
 refine ALoop.keep [5, 11, 1, 9, 10] ?_; simp only [mpC, go_sem]
 refine ALoop.lay 1 ?_
 simp only [go_sem]
 refine ALoop.acc (fun k G => [(5, .slice (H.length + 1) (pick (holdB s t) k).length 0 (pick (holdB s t) k).length false), (11, .int .i64 (k : Int))]) (fun k G => H ++ _ :: .arr 1 (ints (pick (holdB s t) k)) false :: G) (fun k G => True) s.slots.length ?_ (a0 := []) trivial
 intro k G hk _ next
 refine ALoop.hid fun W hW => ?_
 have kS := kS.ex hW.ex
 have kst := hW.keep0
 have ko := hW.keep1
 have kS0 := kS.at
 have kst0 := kst.at
 have ko0 := ko.at
 have kos := ko.set
 have hb : ((pick (holdB s t) k).length + 1) * 8 ≤ 140737488355328 := by have := pick_length (p := holdB s t) (k := k); omega
 refine ALoop.unfold ?_
 have hw := wrap_succ (k := k) (by omega)
 have hg : k < s.slots.length → _ := fun h => slots_get (s := s) (k := k) h
 (try simp only [w144, hg, hw, kos, wpx_of b144_3.eq_1, nlt_iff, n0_le, apC, go_sem]); repeat' ((first | refine orR ?_ | (refine sp ?_ ?_ <;> intro hc) | refine cap_None_x ?_) <;> try simp only [*, w144, hg, hw, kos, wpx_of b144_3.eq_1, nlt_iff, n0_le, apC, go_sem])
 case' refine_2 =>
  have hk' : k = s.slots.length := by omega
  have hW : W = _ := hW
  subst hk' hW
  exact Gc.slice (i := 1) rfl ints_plain (by simpa only [sHolders] using h)
 case' refine_1.refine_1.refine_1 => have e := pick_t (p := holdB s t) (k := k) (by simp [holdB, *])
 case' refine_1.refine_1.refine_2 => have e := pick_f (p := holdB s t) (k := k) (by simp [holdB, *])
 case' refine_1.refine_2 => have e := pick_f (p := holdB s t) (k := k) (by simp [holdB, *])
 all_goals
  have hW : W = _ := hW
  subst hW
  simp only [e, ints_append, ints_cons, go_sem] at next
  (refine ALoop.keep [5, 11, 1, 9, 10] ?_; simp only [mpC, go_sem]; refine next _ (by assumption))
theorem state_things_spec (hS : H[oS]? = some (.arr 5 (s.slots.map Slot.cells) rS)) (hT : H[oT]? = some (.arr 13 (s.things.map Thing.cells) rT)) (hg : gGood s.geo = true) (hlS : s.slots.length ≤ 1000) (hlT : s.things.length ≤ 1000) (h : K (.bool (sThings s)) H) : ACalls Tryz.prog 72 [stA s oS oT fS fT] H K := by
 have kT := Keeps.of hT
 have kS := Keeps.of hS
 have hgb := gGood_b hg
 have hw2 : IntKind.wrap .i64 (2 + s.geo.threads) = 2 + s.geo.threads := w64 (by omega) (by omega)
 clear hgb
 refine ACalls.tidy ?_
 refine into ok72 ?_; (try simp only [c72, w72, kS, kT, go_sem]); repeat' ((first | refine orR ?_ | (refine sp ?_ ?_ <;> intro hc) | fail) <;> try simp only [*, w72, kS, kT, go_sem])
 refine ALoop.keep [9, 1, 7, 8] ?_; simp only [mpC, go_sem]
 refine ALoop.acc (fun k W => [(9, .int .i64 (k : Int))]) (fun k W => W) (fun k W => Ex H W ∧ Keeps W H.length _ ∧ ((List.range k).all (thingOk s)) = true) s.things.length ?_ (a0 := _) ⟨.mk _, Keeps.of at0, by simp⟩
 rintro k W hk ⟨hx, kst, hI⟩ next
 have kT : Keeps W oT _ := kT.ex hx
 have kS : Keeps W oS _ := kS.ex hx
 have kT0 := kT.at
 have kS0 := kS.at
 have kst0 := kst.at
 refine ALoop.unfold ?_
 have hw := wrap_succ (k := k) (by omega)
 have hw3 : IntKind.wrap .i64 ((k : Int) - 2) = k - 2 := w64 (by omega) (by omega)
 have hg : k < s.things.length → _ := fun h => things_get (s := s) (k := k) h
 have hf : 0 < (s.thing k).from_ → ¬ (s.slots.length : Int) < (s.thing k).from_ → IntKind.wrap .i64 ((s.thing k).from_ - 1) = (s.thing k).from_ - 1 ∧ (0 ≤ (s.thing k).from_ - 1) = True ∧ ((s.thing k).from_ - 1 < (s.slots.length : Int)) = True := fun h1 h2 =>
  ⟨w64 (by omega) (by omega), by simp; omega, by simp; omega⟩
 have hf2 : 0 < (s.thing k).from_ → ¬ (s.slots.length : Int) < (s.thing k).from_ → _ := fun h1 h2 => slots_get (s := s) (k := ((s.thing k).from_ - 1).toNat) (by omega)
 (try simp only [w72, kT, kS, kst, hg, hw, hf, hf2, wpx_of b72_10.eq_1, nlt_iff, n0_le, apC, go_sem]); repeat' ((first | refine orR ?_ | (refine sp ?_ ?_ <;> intro hc) | refine thing_Good_x ?_ | refine cap_None_x ?_ | refine geo_Root_x ?_ | refine state_holders_spec (kS _) hlS ?_) <;> try simp only [*, w72, kT, kS, kst, hg, hw, hf, hf2, wpx_of b72_10.eq_1, nlt_iff, n0_le, apC, go_sem])
 all_goals try (refine tb h (by first | exact ⟨_, rfl⟩ | exact ⟨[], (List.append_nil _).symm⟩ | exact hx | exact hx.app _) ?_; have e : (List.range s.things.length).all (thingOk s) = false := all_range_false (k := k) (by assumption) (by (first | (simp only [thingOk, fromOk, rootB, rootT, tEq, *, bs, go_sem]; done) | (simp_all [thingOk, fromOk, rootB, rootT, tEq]; done) | (simp_all [thingOk, fromOk, rootB, rootT, tEq]; omega) | grind [thingOk, fromOk, rootB, rootT, tEq])); simp [sThings, e]; done)
 all_goals try ((refine ALoop.keep [9, 1, 7, 8] ?_; simp only [mpC, go_sem]; refine next _ (by assumption) ⟨(by first | exact ⟨_, rfl⟩ | exact ⟨[], (List.append_nil _).symm⟩ | exact hx | exact hx.app _), kst.app _, ?_⟩); rw [all_range (N := 0), hI]; (first | (simp only [thingOk, fromOk, rootB, rootT, tEq, *, bs, go_sem]; done) | (simp_all [thingOk, fromOk, rootB, rootT, tEq]; done) | (simp_all [thingOk, fromOk, rootB, rootT, tEq]; omega) | grind [thingOk, fromOk, rootB, rootT, tEq]); done)
 refine tb h hx ?_
 have hk : k = s.things.length := by omega
 subst hk
 simp [sThings, hI]
theorem state_allowed_spec (hS : H[oS]? = some (.arr 5 (s.slots.map Slot.cells) rS)) (hlS : s.slots.length ≤ 1000) (hu : ∀ k, k < s.slots.length → (s.slot k).up < s.slots.length) (h : K (.bool (sAllowed s)) H) : ACalls Tryz.prog 77 [stA s oS oT fS fT] H K := by
 have kS := Keeps.of hS
 refine ACalls.tidy ?_
 refine into ok77 ?_; (try simp only [c77, w77, kS, go_sem]); repeat' ((first | refine orR ?_ | (refine sp ?_ ?_ <;> intro hc) | fail) <;> try simp only [*, w77, kS, go_sem])
 refine ALoop.keep [9, 1, 7, 8] ?_; simp only [mpC, go_sem]
 refine ALoop.acc (fun k W => [(9, .int .i64 (k : Int))]) (fun k W => W) (fun k W => Ex H W ∧ Keeps W H.length _ ∧ (s.slots.take k).all (allowedB s) = true) s.slots.length ?_ (a0 := _) ⟨.mk _, Keeps.of at0, by simp⟩
 rintro k W hk ⟨hx, kst, hI⟩ next
 have kS : Keeps W oS _ := kS.ex hx
 have kS0 := kS.at
 have kst0 := kst.at
 refine ALoop.unfold ?_
 have hw := wrap_succ (k := k) (by omega)
 have hg : k < s.slots.length → _ := fun h => slots_get (s := s) (k := k) h
 have hf : ¬ (s.slot k).up < 0 → k < s.slots.length → (0 ≤ (s.slot k).up) = True ∧ ((s.slot k).up < (s.slots.length : Int)) = True := fun h1 h2 => ⟨by simp; omega, by simp [hu k h2]⟩
 have hf2 : ¬ (s.slot k).up < 0 → k < s.slots.length → _ := fun h1 h2 => slots_get (s := s) (k := (s.slot k).up.toNat) (by have := hu k h2; omega)
 clear hu
 (try simp only [w77, kS, kst, hg, hw, hf, hf2, wpx_of b77_5.eq_1, nlt_iff, n0_le, apC, go_sem]); repeat' ((first | refine orR ?_ | (refine sp ?_ ?_ <;> intro hc) | refine cap_Less_x ?_) <;> try simp only [*, w77, kS, kst, hg, hw, hf, hf2, wpx_of b77_5.eq_1, nlt_iff, n0_le, apC, go_sem])
 all_goals try (refine tb h (by first | exact ⟨_, rfl⟩ | exact ⟨[], (List.append_nil _).symm⟩ | exact hx | exact hx.app _) ?_; have e : s.slots.all (allowedB s) = false := slot_false (k := k) (by assumption) (by (first | (simp only [allowedB, *, bs, go_sem]; done) | (simp_all [allowedB]; done) | (simp_all [allowedB]; omega) | grind [allowedB])); simp [sAllowed, e]; done)
 all_goals try ((refine ALoop.keep [9, 1, 7, 8] ?_; simp only [mpC, go_sem]; refine next _ (by assumption) ⟨(by first | exact ⟨_, rfl⟩ | exact ⟨[], (List.append_nil _).symm⟩ | exact hx | exact hx.app _), kst.app _, ?_⟩); rw [slot_all (by assumption), hI]; (first | (simp only [allowedB, *, bs, go_sem]; done) | (simp_all [allowedB]; done) | (simp_all [allowedB]; omega) | grind [allowedB]); done)
 refine tb h hx ?_
 have hk : k = s.slots.length := by omega
 subst hk
 rw [List.take_length] at hI
 simp [sAllowed, hI]
end
end Go.Proofs.YtlaipllgmddkiaaGreat.Ax
namespace Go.Proofs.YtlaipllgmddkiaaGreat.Ax
open Go Go.Ax Go.Ax.M
section
variable {H : Heap} {K : AVal → Heap → Prop} {s : State} {oS oT : Nat} {fS fT rS rT : Bool}
theorem state_Forest_spec (hS : H[oS]? = some (.arr 5 (s.slots.map Slot.cells) rS)) (hlS : s.slots.length ≤ 1000) (h : K (.agg [.slice H.length s.slots.length 0 s.slots.length false]) (H ++ [.arr 1 (ints (sForest s)) false])) : ACalls Tryz.prog 76 [stA s oS oT fS fT] H K := by
 have kS := Keeps.of hS
 refine ACalls.gc ?_
 refine into ok76 ?_; (try simp only [c76, w76, kS, go_sem]); repeat' ((first | refine orR ?_ | (refine sp ?_ ?_ <;> intro hc) | fail) <;> try simp only [*, w76, kS, go_sem])
 refine ALoop.keep [9, 2, 3, 7, 8] ?_; simp only [mpC, go_sem]
 refine ALoop.layIn (i := H.length + 2) 1 [.slice (H.length + 3) 0 0 0 false] at2 rfl rfl (fun j a b ha hb => ?_) ?_
 ·cases j with
  | zero => simp at ha hb; subst ha hb; exact .inr ⟨rfl, by simp⟩
  | succ j => simp at ha
 simp only [go_sem]
 refine ALoop.acc (fun k G => [(9, .int .i64 (k : Int))]) (fun k G => H ++ _ :: _ :: .arr 1 [[.slice (H.length + 3) k 0 k false]] false :: .arr 1 (ints ((s.slots.take k).map upOf)) false :: G) (fun k G => True) s.slots.length ?_ (a0 := []) trivial
 intro k G hk _ next
 refine ALoop.hid fun W hW => ?_
 have kS := kS.ex hW.ex
 have kr := hW.keep1
 have kf := hW.keep2
 have ko := hW.keep3
 have kS0 := kS.at
 have kf0 := kf.at
 have ko0 := ko.at
 have kr0 := kr.at
 have krs := kr.self0
 have kos := ko.set
 have kfo := kf.other (i := H.length + 3) (by omega)
 have kfs := @Keeps.set2 _ _ (H.length + 3) _ kf
 have hl : (ints ((s.slots.take k).map upOf)).length = k := by rw [ints_length, List.length_map, List.length_take]; omega
 have hb : (k + 1) * 8 ≤ 140737488355328 := by omega
 refine ALoop.unfold ?_
 have hw := wrap_succ (k := k) (by omega)
 have hg : k < s.slots.length → _ := fun h => slots_get (s := s) (k := k) h
 (try simp only [w76, hg, hw, kos, kfo, kfs, krs, wpx_of b76_4.eq_1, nlt_iff, n0_le, apC, go_sem]); repeat' ((first | refine orR ?_ | (refine sp ?_ ?_ <;> intro hc) | refine cap_None_x ?_) <;> try simp only [*, w76, hg, hw, kos, kfo, kfs, krs, wpx_of b76_4.eq_1, nlt_iff, n0_le, apC, go_sem])
 case' refine_2.refine_2 =>
  have hk' : k = s.slots.length := by omega
  have hW : W = _ := hW
  subst hk' hW
  simp only [go_sem]
  refine Gc.aggSlice (i := 3) rfl ints_plain ?_
  simpa only [sForest, List.take_length] using h
 case' refine_2.refine_1.refine_1 => have e : (s.slots.take (k + 1)).map upOf = (s.slots.take k).map upOf ++ [-2] := by rw [slot_take (by assumption)]; simp [upOf, *]
 case' refine_2.refine_1.refine_2 => have e : (s.slots.take (k + 1)).map upOf = (s.slots.take k).map upOf ++ [(s.slot k).up] := by rw [slot_take (by assumption)]; simp [upOf, *]
 all_goals
  have hW : W = _ := hW
  subst hW
  simp only [e, ints_append, ints_cons, go_sem] at next
  (refine ALoop.keep [9, 2, 3, 7, 8] ?_; simp only [mpC, go_sem]; refine next _ (by assumption))
end
end Go.Proofs.YtlaipllgmddkiaaGreat.Ax
namespace Go.Proofs.YtlaipllgmddkiaaGreat.Ax
open Go Go.Ax Go.Ax.M
section
variable {H : Heap} {K : AVal → Heap → Prop} {s : State} {oS oT : Nat} {fS fT rS rT : Bool}
theorem state_has_spec {t : Thing} {n : Int} (hg : tGood t = true) (h : K (.bool (tHas t n)) H) : ACalls Tryz.prog 251 [.agg t.cells, .int .i64 n] H K := by
 have hsh : t.ty = 2 → aShift .shl .i64 1 t.bits = some (.int .i64 (p2 t.bits)) := fun h2 => shl_spec (tGood_node hg h2).1
 have hw : t.ty = 2 → IntKind.wrap .i64 (t.base + p2 t.bits) = t.base + p2 t.bits := fun h2 => by
  have := tGood_node hg h2
  have := p2_bits this.1
  exact w64 (by omega) (by omega)
 refine ACalls.tidy ?_
 unfold Thing.cells
 refine into ok251 ?_; (try simp only [c251, wpx_of k251_0.eq_1, go_sem]); repeat' ((first | refine orR ?_ | (refine sp ?_ ?_ <;> intro hc) | fail) <;> try simp only [*, wpx_of k251_0.eq_1, go_sem])
 all_goals (refine tb h (by first | exact ⟨_, rfl⟩ | exact ⟨[], (List.append_nil _).symm⟩ | exact hx | exact hx.app _) ?_; first | (simp only [tHas, *, bs, go_sem]; done) | (simp_all [tHas]; done) | (simp_all [tHas]; omega) | grind [tHas])
theorem state_has_x {x0 x1 x2 x3 x4 x5 x6 : Int} {x7 : Bool} {x8 x9 x10 x11 x12 : Int} {n : Int} (hg : tGood ⟨x0, x1, x2, x3, x4, x5, x6, x7, x8, x9, x10, x11, x12⟩ = true) (h : K (.bool (tHas ⟨x0, x1, x2, x3, x4, x5, x6, x7, x8, x9, x10, x11, x12⟩ n)) H) : ACalls Tryz.prog 251 [.agg [.int .i64 x0, .int .i64 x1, .int .i64 x2, .int .i64 x3, .int .i64 x4, .int .i64 x5, .int .i64 x6, .bool x7, .int .u64 x8, .int .u64 x9, .int .u64 x10, .int .u64 x11, .int .u64 x12], .int .i64 n] H K := state_has_spec (t := ⟨x0, x1, x2, x3, x4, x5, x6, x7, x8, x9, x10, x11, x12⟩) hg h
theorem things_IndexFunc_spec {g : FuncId} {cap : List AVal} {p : Nat → Bool} (hT : H[oT]? = some (.arr 13 (s.things.map Thing.cells) rT)) (hl : s.things.length ≤ 1000) (hc : callable Tryz.prog g = true)
 (hp : ∀ k, k < s.things.length → ∀ K' : AVal → Heap → Prop, K' (.bool (p k)) H → ACalls Tryz.prog g (.agg (s.thing k).cells :: cap) H K') (h : K (.int .i64 (findI p s.things.length)) H) :
 ACalls Tryz.prog 222 [.slice oT s.things.length 0 s.things.length fT, .func g cap] H K := by
 refine into ok222 ?_; (try simp only [c222, w222, go_sem]); repeat' ((first | refine orR ?_ | (refine sp ?_ ?_ <;> intro hc) | fail) <;> try simp only [*, w222, go_sem])
 refine ALoop.keep [8, 0, 1, 7] ?_; simp only [mpC, go_sem]
 refine ALoop.cnt (fun k => (List.range k).all (fun j => !p j) = true) s.things.length (by simp) fun k hk hI next => ?_
 refine ALoop.unfold ?_
 have hw := wrap_succ (k := k) (by omega)
 have hg : k < s.things.length → _ := fun h => things_get (s := s) (k := k) h
 have hp' : k < s.things.length → ∀ K' : AVal → Heap → Prop, K' (.bool (p k)) H → ACalls Tryz.prog g (.agg (s.thing k).cells :: cap) H K' := hp k
 clear hp
 (try simp only [w222, hg, hw, hT, hc, wpx_of b222_3.eq_1, nlt_iff, n0_le, go_sem]); repeat' ((first | refine orR ?_ | (refine sp ?_ ?_ <;> intro hc) | refine hp' (by assumption) _ ?_) <;> try simp only [*, w222, hg, hw, hT, hc, wpx_of b222_3.eq_1, nlt_iff, n0_le, go_sem])
 ·exact ki h (findI_hit (by assumption) hI (by assumption)).symm
 ·(refine ALoop.keep [8, 0, 1, 7] ?_; simp only [mpC, go_sem]; refine next (by assumption) ?_)
  rw [all_range (N := 0), hI]; simp [*]
 ·have hk : k = s.things.length := by omega
  subst hk
  exact ki h (findI_none hI).symm
theorem state_owner_1_spec {t : Thing} {n : Int} {o : Nat} (hb : H[o]? = some (.arr 1 [[.int .i64 n]] false)) (hg : tGood t = true) (h : K (.bool (tHas t n)) H) : ACalls Tryz.prog 252 [.agg t.cells, .ptr o 1 0 0] H K := by
 have kb := Keeps.of hb
 refine ACalls.tidy ?_
 unfold Thing.cells
 refine into ok252 ?_; (try simp only [c252, wpx_of k252_0.eq_1, kb, go_sem]); repeat' ((first | refine orR ?_ | (refine sp ?_ ?_ <;> intro hc) | refine state_has_spec (t := t) hg ?_) <;> try simp only [*, wpx_of k252_0.eq_1, kb, go_sem])
 exact ⟨rfl, _, rfl⟩
theorem state_owner_spec {n : Int} (hT : H[oT]? = some (.arr 13 (s.things.map Thing.cells) rT)) (hlT : s.things.length ≤ 1000) (hok : ThingsOk s) (h : K (.int .i64 (sOwner s n)) H) : ACalls Tryz.prog 213 [stA s oS oT fS fT, .int .i64 n] H K := by
 have kT := Keeps.of hT
 refine ACalls.tidy ?_
 refine into ok213 ?_; (try simp only [c213, wpx_of k213_0.eq_1, go_sem]); repeat' ((first | refine orR ?_ | (refine sp ?_ ?_ <;> intro hc) | refine things_IndexFunc_spec (p := fun k => tHas (s.thing k) n) (kT _) hlT (callable_fn ok252) (fun k hk K' hK' => state_owner_1_spec at1 (hok k hk) hK') ?_) <;> try simp only [*, wpx_of k213_0.eq_1, go_sem])
 refine ti h ⟨_, rfl⟩ (by rw [sOwner])
theorem state_within_spec (hlS : s.slots.length ≤ 1000) (hlT : s.things.length ≤ 1000) (hok : ThingsOk s) : ∀ (fuel : Nat) (node : Int) (had : List Int) {H : Heap} {K : AVal → Heap → Prop} {oS oT m : Nat} {fS fT rS rT : Bool},
 lacks s had < fuel → 0 ≤ node → node < s.things.length → H[oS]? = some (.arr 5 (s.slots.map Slot.cells) rS) → H[oT]? = some (.arr 13 (s.things.map Thing.cells) rT) → H[m]? = some (.map (hadEs had)) →
 (∀ L, K (.tup []) (H.set m (.map (hadEs (withinF s fuel node had))) ++ L)) → ACalls Tryz.prog 212 [stA s oS oT fS fT, .int .i64 node, .map m] H K
 | 0, _, _, _, _, _, _, _, _, _, _, _, hl, _, _, _, _, _, _ => by omega
 | fuel + 1, node, had, H, K, oS, oT, m, fS, fT, rS, rT, hl, hn0, hn1, hS, hT, hm, h => by
  have kT := Keeps.of hT
  have kS := Keeps.of hS
  have km := Keeps.of hm
  have kms := km.set
  have hmf := @mfind_had node had
  cases hcn : had.contains node with
  | true =>
   rw [hcn, cond_true] at hmf
   refine into ok212 ?_; (try simp only [c212, w212, kS, kT, km, kms, hmf, go_sem]); repeat' ((first | refine orR ?_ | (refine sp ?_ ?_ <;> intro hc) | fail) <;> try simp only [*, w212, kS, kT, km, kms, hmf, go_sem])
   have := h [AObj.arr 5 [[.int .i64 s.geo.threads, .int .i64 s.geo.slots, .int .i64 s.geo.things, .slice oS s.slots.length 0 s.slots.length fS, .slice oT s.things.length 0 s.things.length fT]] false]
   rw [withinF, hcn, cond_true, set_same hm] at this
   exact this
  | false =>
   rw [hcn, cond_false] at hmf
   have hmp := mput_had hcn
   have hmo : m ≠ oS := by rintro rfl; rw [hm] at hS; cases hS
   have hmt : m ≠ oT := by rintro rfl; rw [hm] at hT; cases hT
   refine into ok212 ?_; (try simp only [c212, w212, kS, kT, km, kms, hmf, hmp, go_sem]); repeat' ((first | refine orR ?_ | (refine sp ?_ ?_ <;> intro hc) | fail) <;> try simp only [*, w212, kS, kT, km, kms, hmf, hmp, go_sem])
   refine ALoop.keep [16, 1, 2, 3, 14, 15] ?_; simp only [mpC, go_sem]
   refine ALoop.acc (fun k G => [(16, .int .i64 (k : Int))]) (fun k G => H.set m (.map (hadEs ((List.range k).foldl (withinStep s (withinF s fuel) node) (had ++ [node])))) ++ _ :: G) (fun k G => True) s.slots.length ?_ (a0 := []) trivial
   intro k G hk _ next
   refine ALoop.hid fun W hW => ?_
   have kS := hW.keepO hS hmo
   have kT := hW.keepO hT hmt
   have km := hW.keepM hm
   have kst := hW.keepS
   have kS0 := kS.at
   have kT0 := kT.at
   have km0 := km.at
   have kst0 := kst.at
   have kms := km.set
   refine ALoop.unfold ?_
   have hw := wrap_succ (k := k) (by omega)
   have hg : k < s.slots.length → _ := fun h => slots_get (s := s) (k := k) h
   have hgn := things_get (s := s) (k := node.toNat) (by omega)
   have hn2 : node.toNat < s.things.length := by omega
   have stp : (List.range (k + 1)).foldl (withinStep s (withinF s fuel) node) (had ++ [node]) = withinStep s (withinF s fuel) node ((List.range k).foldl (withinStep s (withinF s fuel) node) (had ++ [node])) k := by
    rw [List.range_succ, List.foldl_append]; rfl
   (try simp only [w212, kS, kT, km, kst, hg, hw, kms, hgn, wpx_of b212_3.eq_1, nlt_iff, n0_le, apC, go_sem]); repeat' ((first | refine orR ?_ | (refine sp ?_ ?_ <;> intro hc) | refine state_has_x (hok _ hn2) ?_ | refine state_there_spec (kT _) ?_) <;> try simp only [*, w212, kS, kT, km, kst, hg, hw, kms, hgn, wpx_of b212_3.eq_1, nlt_iff, n0_le, apC, go_sem])
   case' false.refine_2 =>
    have hk' : k = s.slots.length := by omega
    have hW : W = _ := hW
    subst hk' hW
    rw [withinF, hcn, cond_false] at h
    exact h _
   case' false.refine_1.refine_1.refine_1.refine_1 =>
    have hth : 0 ≤ (s.slot k).cap.th ∧ (s.slot k).cap.th < s.things.length := by
     have hc : sThere s (s.slot k).cap.th = true := by assumption
     simp [sThere] at hc; exact ⟨hc.1, hc.2.1⟩
    refine state_within_spec hlS hlT hok fuel (s.slot k).cap.th _ (m := m) ?_ hth.1 hth.2 (kS _) (kT _) (km _) fun L => ?_
    ·have := lacks_lt (s := s) (l := had) (l' := (List.range k).foldl (withinStep s (withinF s fuel) node) (had ++ [node])) (n := node) (fun x hx => fold_sub _ _ (by simp [hx])) hn0 hn1 hcn (fold_sub _ _ (by simp))
     omega
    have hms := set_app_set hm
    have e := stp.trans (show _ = withinF s fuel (s.slot k).cap.th ((List.range k).foldl (withinStep s (withinF s fuel) node) (had ++ [node])) by simp only [withinStep, *, go_sem, cond_true, Bool.and_true])
    (try simp only [w212, hw, kms, go_sem]); repeat' ((first | refine orR ?_ | (refine sp ?_ ?_ <;> intro hc) | fail) <;> try simp only [*, w212, hw, kms, go_sem])
   case' false.refine_1.refine_1.refine_1.refine_2 => have e := stp.trans (show _ = (List.range k).foldl (withinStep s (withinF s fuel) node) (had ++ [node]) by simp only [withinStep, *, go_sem, cond_false, Bool.and_false])
   case' false.refine_1.refine_1.refine_2 => have e := stp.trans (show _ = (List.range k).foldl (withinStep s (withinF s fuel) node) (had ++ [node]) by simp only [withinStep, *, go_sem, cond_false, Bool.and_false, Bool.false_and])
   case' false.refine_1.refine_2 => have e := stp.trans (show _ = (List.range k).foldl (withinStep s (withinF s fuel) node) (had ++ [node]) by simp only [withinStep, *, go_sem, cond_false, Bool.and_false, Bool.false_and])
   all_goals
    have hW : W = _ := hW
    subst hW
    have hms := set_app_set hm
    rw [e] at next
    simp only [go_sem] at next
    simp only [hms, go_sem]
    (refine ALoop.keep [16, 1, 2, 3, 14, 15] ?_; simp only [mpC, go_sem]; refine next _ (by assumption))
end
end Go.Proofs.YtlaipllgmddkiaaGreat.Ax
namespace Go.Proofs.YtlaipllgmddkiaaGreat.Ax
open Go Go.Ax Go.Ax.M
section
variable {H : Heap} {K : AVal → Heap → Prop} {s : State} {oS oT : Nat} {fS fT rS rT : Bool}
theorem state_inside_spec {node n : Int} (hS : H[oS]? = some (.arr 5 (s.slots.map Slot.cells) rS)) (hT : H[oT]? = some (.arr 13 (s.things.map Thing.cells) rT)) (hlS : s.slots.length ≤ 1000) (hlT : s.things.length ≤ 1000) (hok : ThingsOk s)
 (h : K (.bool (sInside s node n)) H) : ACalls Tryz.prog 145 [stA s oS oT fS fT, .int .i64 node, .int .i64 n] H K := by
 have kT := Keeps.of hT
 have kS := Keeps.of hS
 have hgT := @there_get s node
 have hmf := @mfind_had (sOwner s n) (withinF s (s.things.length + 1) node [])
 refine ACalls.tidy ?_
 refine into ok145 ?_; (try simp only [c145, w145, kS, kT, hgT, go_sem]); repeat' ((first | refine orR ?_ | (refine sp ?_ ?_ <;> intro hc) | refine state_there_spec (kT _) ?_) <;> try simp only [*, w145, kS, kT, hgT, go_sem])
 case' refine_1.refine_2 =>
  have hth : 0 ≤ node ∧ node < s.things.length := by
   have hc : sThere s node = true := by assumption
   simp [sThere] at hc; exact ⟨hc.1, hc.2.1⟩
  refine state_within_spec hlS hlT hok (s.things.length + 1) node [] (by have := lacks_le (s := s) (l := []); omega) hth.1 hth.2 (kS _) (kT _) (show _ = some (AObj.map (hadEs [])) from at1) fun L => ?_
  cases hcn : (withinF s (s.things.length + 1) node []).contains (sOwner s n) <;> (rw [hcn] at hmf; simp only [cond_true, cond_false] at hmf)
  all_goals (try simp only [w145, kT, hmf, go_sem]); repeat' ((first | refine orR ?_ | (refine sp ?_ ?_ <;> intro hc) | refine state_owner_spec (kT _) hlT hok ?_) <;> try simp only [*, w145, kT, hmf, go_sem])
 all_goals (refine tb h (by first | exact ⟨_, rfl⟩ | exact ⟨[], (List.append_nil _).symm⟩ | exact hx | exact hx.app _) ?_; first | (simp only [sInside, *, bs, go_sem]; done) | (simp_all [sInside]; done) | (simp_all [sInside]; omega) | grind [sInside])
theorem state_ring_spec (hS : H[oS]? = some (.arr 5 (s.slots.map Slot.cells) rS)) (hT : H[oT]? = some (.arr 13 (s.things.map Thing.cells) rT)) (hlS : s.slots.length ≤ 1000) (hlT : s.things.length ≤ 1000) (hok : ThingsOk s)
 (h : K (.bool (sRing s)) H) : ACalls Tryz.prog 74 [stA s oS oT fS fT] H K := by
 have kT := Keeps.of hT
 have kS := Keeps.of hS
 refine ACalls.tidy ?_
 refine into ok74 ?_; (try simp only [c74, w74, kS, go_sem]); repeat' ((first | refine orR ?_ | (refine sp ?_ ?_ <;> intro hc) | fail) <;> try simp only [*, w74, kS, go_sem])
 refine ALoop.keep [8, 1, 6, 7] ?_; simp only [mpC, go_sem]
 refine ALoop.acc (fun k W => [(8, .int .i64 (k : Int))]) (fun k W => W) (fun k W => Ex H W ∧ Keeps W H.length _ ∧ ((List.range k).all fun i => !ringB s i) = true) s.slots.length ?_ (a0 := _) ⟨.mk _, Keeps.of at0, by simp⟩
 rintro k W hk ⟨hx, kst, hI⟩ next
 have kS : Keeps W oS _ := kS.ex hx
 have kT : Keeps W oT _ := kT.ex hx
 have kS0 := kS.at
 have kst0 := kst.at
 refine ALoop.unfold ?_
 have hw := wrap_succ (k := k) (by omega)
 have hg : k < s.slots.length → _ := fun h => slots_get (s := s) (k := k) h
 (try simp only [w74, kS, kst, hg, hw, wpx_of b74_3.eq_1, nlt_iff, n0_le, apC, go_sem]); repeat' ((first | refine orR ?_ | (refine sp ?_ ?_ <;> intro hc) | refine state_inside_spec (kS _) (kT _) hlS hlT hok ?_) <;> try simp only [*, w74, kS, kst, hg, hw, wpx_of b74_3.eq_1, nlt_iff, n0_le, apC, go_sem])
 all_goals try (refine tb h (by first | exact ⟨_, rfl⟩ | exact ⟨[], (List.append_nil _).symm⟩ | exact hx | exact hx.app _) ?_; have e : ((List.range s.slots.length).all fun i => !ringB s i) = false := all_range_false (k := k) (by assumption) (by (first | (simp only [ringB, *, bs, go_sem]; done) | (simp_all [ringB]; done) | (simp_all [ringB]; omega) | grind [ringB])); simp [sRing, e]; done)
 all_goals try ((refine ALoop.keep [8, 1, 6, 7] ?_; simp only [mpC, go_sem]; refine next _ (by assumption) ⟨(by first | exact ⟨_, rfl⟩ | exact ⟨[], (List.append_nil _).symm⟩ | exact hx | exact hx.app _), kst.app _, ?_⟩); rw [all_range (N := 0), hI]; (first | (simp only [ringB, *, bs, go_sem]; done) | (simp_all [ringB]; done) | (simp_all [ringB]; omega) | grind [ringB]); done)
 refine tb h hx ?_
 have hk : k = s.slots.length := by omega
 subst hk
 simp [sRing, hI]
theorem state_nodes_spec (hS : H[oS]? = some (.arr 5 (s.slots.map Slot.cells) rS)) (hT : H[oT]? = some (.arr 13 (s.things.map Thing.cells) rT)) (hlS : s.slots.length ≤ 1000) (hlT : s.things.length ≤ 1000) (hok : ThingsOk s)
 (h : K (.bool (sNodes s)) H) : ACalls Tryz.prog 73 [stA s oS oT fS fT] H K := by
 have kT := Keeps.of hT
 have kS := Keeps.of hS
 have hb1 : (s.slots.length : Int) * 1 ≤ 140737488355328 := by omega
 have hb2 : (s.slots.length : Int) ≤ 9223372036854775807 := by omega
 have hb3 : (s.slots.length : Int) ≤ 140737488355328 := by omega
 refine ACalls.tidy ?_
 refine into ok73 ?_; (try simp only [c73, w73, kS, kT, n0_le, Int.le_refl, Int.mul_one, hb2, hb3, go_sem]); repeat' ((first | refine orR ?_ | (refine sp ?_ ?_ <;> intro hc) | fail) <;> try simp only [*, w73, kS, kT, n0_le, Int.le_refl, Int.mul_one, hb2, hb3, go_sem])
 rw [← bools_rep]
 refine ALoop.keep [17, 1, 3, 15, 16] ?_; simp only [mpC, go_sem]
 refine ALoop.acc (fun k a => [(17, .int .i64 (k : Int))]) (fun k a => H ++ _ :: .arr 1 (bools a.1) false :: a.2) (fun k a => nodesHad s k = some a.1 ∧ a.1.length = s.slots.length) s.things.length ?_ (a0 := (_, [])) ⟨rfl, by simp⟩
 rintro k ⟨had, G⟩ hk ⟨hI, hlen⟩ next
 simp only at hI hlen
 refine ALoop.hid fun W hW => ?_
 have kS := kS.ex hW.ex
 have kT := kT.ex hW.ex
 have kst := hW.keep0
 have ko := hW.keep1
 have kS0 := kS.at
 have kT0 := kT.at
 have kst0 := kst.at
 have ko0 := ko.at
 refine ALoop.unfold ?_
 have hw := wrap_succ (k := k) (by omega)
 have hg : k < s.things.length → _ := fun h => things_get (s := s) (k := k) h
 have hnode : k < s.things.length → (s.thing k).ty = 2 → _ := fun h h2 => tGood_node (hok k h) h2
 have hsh : k < s.things.length → (s.thing k).ty = 2 → aShift .shl .i64 1 (s.thing k).bits = some (.int .i64 (((p2 (s.thing k).bits).toNat : Nat) : Int)) := fun h h2 => by
  rw [shl_spec (hnode h h2).1, Int.toNat_of_nonneg (by have := p2_bits (hnode h h2).1; omega)]
 clear hnode
 (try simp only [w73, kS, kT, kst, hg, hw, hsh, wpx_of b73_9.eq_1, nlt_iff, n0_le, apC, go_sem]); repeat' ((first | refine orR ?_ | (refine sp ?_ ?_ <;> intro hc) | fail) <;> try simp only [*, w73, kS, kT, kst, hg, hw, hsh, wpx_of b73_9.eq_1, nlt_iff, n0_le, apC, go_sem])
 case' refine_1.refine_1 =>
  have e : nodesHad s (k + 1) = some had := by rw [nodesHad_succ, hI]; (first | (simp only [nodeStep, *, bs, go_sem]; done) | (simp_all [nodeStep]; done) | (simp_all [nodeStep]; omega) | grind [nodeStep])
  have hW : W = _ := hW
  subst hW
  simp only [go_sem]
  (refine ALoop.keep [17, 1, 3, 15, 16] ?_; simp only [mpC, go_sem]; refine next (had, _) (by assumption) ⟨e, hlen⟩)
 case' refine_2 =>
  have hk : k = s.things.length := by omega
  subst hk
  clear next hw hg hsh
  have ho1 := hW.ex
  clear hW
  refine ALoop.keep [52, 3, 50, 51] ?_; simp only [mpC, go_sem]
  refine ALoop.acc (fun k W' => [(52, .int .i64 (k : Int))]) (fun k W' => W') (fun k W' => Ex W W' ∧ ((List.range k).all fun i => had.getD i false || cNone (s.slot i).cap) = true) s.slots.length ?_ (a0 := _) ⟨⟨[], (List.append_nil _).symm⟩, by simp⟩
  rintro k W' hk ⟨hx', hI2⟩ next
  have kS : Keeps W' oS _ := kS.ex hx'
  have ko : Keeps W' (H.length + 1) _ := ko.ex hx'
  have kS0 := kS.at
  have ko0 := ko.at
  have hx : Ex H W' := ho1.trans hx'
  refine ALoop.unfold ?_
  have hw := wrap_succ (k := k) (by omega)
  have hg : k < s.slots.length → _ := fun h => slots_get (s := s) (k := k) h
  have hgb : k < s.slots.length → (bools had)[k]? = some [.bool (had.getD k false)] := fun h => bools_get (by omega)
  (try simp only [w73, kS, ko, hg, hgb, hw, wpx_of b73_13.eq_1, nlt_iff, n0_le, apC, go_sem]); repeat' ((first | refine orR ?_ | (refine sp ?_ ?_ <;> intro hc) | refine cap_None_x ?_) <;> try simp only [*, w73, kS, ko, hg, hgb, hw, wpx_of b73_13.eq_1, nlt_iff, n0_le, apC, go_sem])
  all_goals try (refine tb h (by first | exact ⟨_, rfl⟩ | exact ⟨[], (List.append_nil _).symm⟩ | exact hx | exact hx.app _) ?_; have e : ((List.range s.slots.length).all fun i => had.getD i false || cNone (s.slot i).cap) = false := all_range_false (k := k) (by assumption) (by (first | (simp only [Bool.or_self, *, bs, go_sem]; done) | (simp_all [Bool.or_self]; done) | (simp_all [Bool.or_self]; omega) | grind [Bool.or_self])); simp only [sNodes, hI, e]; done)
  all_goals try ((refine ALoop.keep [52, 3, 50, 51] ?_; simp only [mpC, go_sem]; refine next _ (by assumption) ⟨hx'.app _, ?_⟩); rw [all_range (N := 0), hI2]; (first | (simp only [Bool.or_self, *, bs, go_sem]; done) | (simp_all [Bool.or_self]; done) | (simp_all [Bool.or_self]; omega) | grind [Bool.or_self]); done)
  refine tb h hx ?_
  have hk : k = s.slots.length := by omega
  subst hk
  simp only [sNodes, hI, hI2]
 case' refine_1.refine_2 =>
  obtain ⟨hb0, hb4, hb5⟩ := tGood_node (hok k (by assumption)) (by assumption)
  have hN : (p2 (s.thing k).bits).toNat ≤ 16 ∧ (s.thing k).base + ((p2 (s.thing k).bits).toNat : Int) ≤ 96 := by have := p2_bits hb0; omega
  generalize hNe : (p2 (s.thing k).bits).toNat = N at *
  clear hb0 hb5 hsh hg
  have hko1 : H.length + 1 < W.length := ko.lt
  refine ALoop.heap (congrArg (· ++ [_]) (set_same ko0).symm) ?_
  refine ALoop.keep [27, 1, 3, 5, 15, 16, 17, 26] ?_; simp only [mpC, go_sem]
  refine ALoop.acc (fun i (had' : List Bool) => [(27, .int .i64 (i : Int))]) (fun i had' => W.set (H.length + 1) (.arr 1 (bools had') false) ++ [_]) (fun i had' => marks (s.thing k).base had i = some had') N ?_ (a0 := had) rfl
  intro i had' hi hI2 next2
  have hlen' := (marks_len hI2).trans hlen
  refine ALoop.hid fun W2 hW2 => ?_
  have kt := hW2.keepS
  have ko2 := hW2.keepM ko0
  have kt0 := kt.at
  have ko20 := ko2.at
  refine ALoop.unfold ?_
  have hwi := wrap_succ (k := i) (by omega)
  have hwb : IntKind.wrap .i64 ((s.thing k).base + i) = (s.thing k).base + i := w64 (by omega) (by omega)
  have hb0 : 0 ≤ (s.thing k).base + (i : Int) := by omega
  have hgb : (s.thing k).base + (i : Int) < s.slots.length → (bools had')[((s.thing k).base + (i : Int)).toNat]? = some [.bool (had'.getD ((s.thing k).base + (i : Int)).toNat false)] := fun h => bools_get (by omega)
  have hlt : ¬ (s.slots.length : Int) ≤ (s.thing k).base + (i : Int) → (s.thing k).base + (i : Int) < s.slots.length := fun h => by omega
  (try simp only [w73, hgb, hw, hwi, hwb, hlt, wpx_of b73_5.eq_1, nlt_iff, n0_le, apC, go_sem]); repeat' ((first | refine orR ?_ | (refine sp ?_ ?_ <;> intro hc) | fail) <;> try simp only [*, w73, hgb, hw, hwi, hwb, hlt, wpx_of b73_5.eq_1, nlt_iff, n0_le, apC, go_sem])
  case' refine_1.refine_2.refine_1.refine_1.refine_1 =>
   have em : marks (s.thing k).base had (i + 1) = none := by
    rw [marks_succ, hI2]; simp only [markStep, *, Bool.not_true, Bool.and_false, cond_false]
  case' refine_1.refine_2.refine_1.refine_2 =>
   have em : marks (s.thing k).base had (i + 1) = none := by
    have hn : ¬ (s.thing k).base + (i : Int) < s.slots.length := by omega
    rw [marks_succ, hI2]; simp only [markStep, hlen', hn, decide_false, Bool.false_and, cond_false]
  case' refine_1.refine_2.refine_1.refine_1.refine_2 =>
   have em : marks (s.thing k).base had (i + 1) = some (had'.set ((s.thing k).base + (i : Int)).toNat true) := by
    have hn : (s.thing k).base + (i : Int) < s.slots.length := by omega
    rw [marks_succ, hI2]; simp only [markStep, hlen', hn, decide_true, Bool.true_and, *, Bool.not_false, cond_true]
   have hW2 : W2 = _ := hW2
   subst hW2
   have hms := set_app_set ko0
   simp only [hms, bools_set, go_sem]
   (refine ALoop.keep [27, 1, 3, 5, 15, 16, 17, 26] ?_; simp only [mpC, go_sem]; refine next2 _ (by assumption) em)
  case' refine_1.refine_2.refine_2 =>
   have hiN : i = N := by omega
   subst hiN
   have e := sNodes_some hI (by assumption) hNe hI2
   have hW2 : W2 = _ := hW2
   have hW : W = _ := hW
   subst hW2 hW
   simp only [go_sem]
   (refine ALoop.keep [17, 1, 3, 15, 16] ?_; simp only [mpC, go_sem]; refine next (had', _) (by assumption) ⟨e, hlen'⟩)
  all_goals
   have hx : Ex H W2 := by
    have hW2 : W2 = _ := hW2
    rw [hW2]; exact (hW.ex.set (by omega) _).app _
   have e := sNodes_none hI (by assumption) hNe em (by assumption) (by assumption)
   refine tb h hx ?_
   simp only [sNodes, e]
theorem forest_Good_x {up : List Int} {n o : Nat} {fl ro : Bool} (hn : up.length = n) (ho : H[o]? = some (.arr 1 (ints up) ro)) (h : K (.bool (fGood up)) H) : ACalls Tryz.prog 75 [.agg [.slice o n 0 n fl]] H K := by
 subst hn; exact forest_Good_spec ho h
theorem state_Good_spec (hS : H[oS]? = some (.arr 5 (s.slots.map Slot.cells) rS)) (hT : H[oT]? = some (.arr 13 (s.things.map Thing.cells) rT))
 (h : K (.bool (sGood s)) H) : ACalls Tryz.prog 15 [stA s oS oT fS fT] H K := by
 have kT := Keeps.of hT
 have kS := Keeps.of hS
 refine ACalls.tidy ?_
 refine into ok15 ?_; (try simp only [c15, w15, kS, kT, go_sem]); repeat' ((first | refine orR ?_ | (refine sp ?_ ?_ <;> intro hc) | refine geo_Good_x ?_) <;> try simp only [*, w15, kS, kT, go_sem])
 case' refine_1.refine_1.refine_2 =>
  have hgd : gGood s.geo = true := by assumption
  have hlS : s.slots.length ≤ 1000 := by have := gGood_b hgd; omega
  have hlT : s.things.length ≤ 1000 := by have := gGood_b hgd; omega
  (try simp only [w15, kS, kT, go_sem]); repeat' ((first | refine orR ?_ | (refine sp ?_ ?_ <;> intro hc) | refine state_caps_spec (kS _) (kT _) hlS ?_ | refine state_things_spec (kS _) (kT _) hgd hlS hlT ?_ | refine state_nodes_spec (kS _) (kT _) hlS hlT (thingsOk_of (by assumption)) ?_ | refine state_ring_spec (kS _) (kT _) hlS hlT (thingsOk_of (by assumption)) ?_ | refine state_Forest_spec (kS _) hlS ?_ | refine forest_Good_x sForest_length at1 ?_ | refine state_allowed_spec (kS _) hlS (up_lt (by assumption) (by assumption)) ?_) <;> try simp only [*, w15, kS, kT, go_sem])
 all_goals (refine tb h (by first | exact ⟨_, rfl⟩ | exact ⟨[], (List.append_nil _).symm⟩ | exact hx | exact hx.app _) ?_; first | (simp only [sGood, *, bs, go_sem]; done) | (simp_all [sGood]; done) | (simp_all [sGood]; omega) | grind [sGood])
end
end Go.Proofs.YtlaipllgmddkiaaGreat.Ax
namespace Go.Proofs.YtlaipllgmddkiaaGreat.Ax
open Go Go.Ax Go.Ax.M
section
variable {H : Heap} {K : AVal → Heap → Prop} {s : State} {oS oT : Nat} {fS fT rS rT : Bool}
theorem lS_of {s : State} (h : sGood s = true) : s.slots.length ≤ 1000 := by have := (stOk_of h).lS; omega
theorem lT_of {s : State} (h : sGood s = true) : s.things.length ≤ 1000 := by have := (stOk_of h).lT; omega
theorem ok_of {s : State} (h : sGood s = true) : ThingsOk s := (stOk_of h).ok
theorem slots_Equal_spec {u : State} {o o' : Nat} {f f' r r' : Bool} (h1 : H[o]? = some (.arr 5 (s.slots.map Slot.cells) r)) (h2 : H[o']? = some (.arr 5 (u.slots.map Slot.cells) r')) (hl : s.slots.length ≤ 1000)
 (h : K (.bool (listEq slEq .zero s.slots u.slots)) H) : ACalls Tryz.prog 96 [.slice o s.slots.length 0 s.slots.length f, .slice o' u.slots.length 0 u.slots.length f'] H K := by
 refine into ok96 ?_; (try simp only [c96, w96, nlt_iff, Int.natCast_inj, go_sem]); repeat' ((first | refine orR ?_ | (refine sp ?_ ?_ <;> intro hc) | fail) <;> try simp only [*, w96, nlt_iff, Int.natCast_inj, go_sem])
 ·exact kb h (by (first | (simp only [listEq, *, bs, go_sem]; done) | (simp_all [listEq]; done) | (simp_all [listEq]; omega) | grind [listEq]))
 ·have hle : s.slots.length = u.slots.length := by omega
  refine ALoop.keep [13, 0, 1, 12] ?_; simp only [mpC, go_sem]
  refine ALoop.cnt (fun k => ((List.range k).all fun k => slEq (s.slot k) (u.slot k)) = true) s.slots.length (by simp) fun k hk hI next => ?_
  refine ALoop.unfold ?_
  have hw := wrap_succ (k := k) (by omega)
  have hg1 : k < s.slots.length → _ := fun h => slots_get (s := s) (k := k) h
  have hg2 : k < s.slots.length → _ := fun h => slots_get (s := u) (k := k) (hle ▸ h)
  have hlu : k < s.slots.length → k < u.slots.length := fun h => hle ▸ h
  have e : listEq slEq .zero s.slots u.slots = (List.range s.slots.length).all fun k => slEq (s.slot k) (u.slot k) := by simp only [listEq, hle, decide_true, Bool.true_and]; rfl
  clear hle
  (try simp only [w96, hg1, hg2, hw, hlu, wpx_of b96_4.eq_1, nlt_iff, n0_le, go_sem]); repeat' ((first | refine orR ?_ | (refine sp ?_ ?_ <;> intro hc) | fail) <;> try simp only [*, w96, hg1, hg2, hw, hlu, wpx_of b96_4.eq_1, nlt_iff, n0_le, go_sem])
  ·refine kb h ?_
   rw [e]; exact (all_range_false (k := k) (by omega) (by (first | (simp only [slEq, *, bs, go_sem]; done) | (simp_all [slEq]; done) | (simp_all [slEq]; omega) | grind [slEq]))).symm
  ·(refine ALoop.keep [13, 0, 1, 12] ?_; simp only [mpC, go_sem]; refine next (by omega) ?_)
   rw [all_range (N := 0), hI]; (first | (simp only [slEq, *, bs, go_sem]; done) | (simp_all [slEq]; done) | (simp_all [slEq]; omega) | grind [slEq])
  ·have hk : k = s.slots.length := by omega
   subst hk
   exact kb h (by rw [e, hI])
theorem slots_Clone_spec {o : Nat} {f r : Bool} (h1 : H[o]? = some (.arr 5 (s.slots.map Slot.cells) r)) (hl : s.slots.length ≤ 1000) (h0 : 0 < s.slots.length)
 (h : K (.slice H.length s.slots.length 0 s.slots.length false) (H ++ [.arr 5 (s.slots.map Slot.cells) false])) : ACalls Tryz.prog 78 [.slice o s.slots.length 0 s.slots.length f] H K := by
 have hn : (s.slots.length = 0) = False := eq_false (by omega)
 have he : (s.slots.map Slot.cells = []) = False := eq_false (by intro e; have := congrArg List.length e; simp at this; rw [this] at h0; exact absurd h0 (by simp))
 have hb : (0 + s.slots.length) * 40 ≤ 140737488355328 := by omega
 have hb2 : s.slots.length * 40 ≤ 140737488355328 := by omega
 have k1 := Keeps.of h1
 have ht : (s.slots.map Slot.cells).take s.slots.length = s.slots.map Slot.cells := by rw [List.take_of_length_le (by simp)]
 refine ACalls.gc ?_
 refine into ok78 ?_; (try simp only [c78, w78, hn, he, hb, hb2, h1, k1, ht, go_sem]); repeat' ((first | refine orR ?_ | (refine sp ?_ ?_ <;> intro hc) | fail) <;> try simp only [*, w78, hn, he, hb, hb2, h1, k1, ht, go_sem])
 exact Gc.slice (i := 1) rfl slots_plain h
theorem things_Equal_spec {u : State} {o o' : Nat} {f f' r r' : Bool} (h1 : H[o]? = some (.arr 13 (s.things.map Thing.cells) r)) (h2 : H[o']? = some (.arr 13 (u.things.map Thing.cells) r')) (hl : s.things.length ≤ 1000)
 (h : K (.bool (listEq tEq .zero s.things u.things)) H) : ACalls Tryz.prog 97 [.slice o s.things.length 0 s.things.length f, .slice o' u.things.length 0 u.things.length f'] H K := by
 refine into ok97 ?_; (try simp only [c97, w97, nlt_iff, Int.natCast_inj, go_sem]); repeat' ((first | refine orR ?_ | (refine sp ?_ ?_ <;> intro hc) | fail) <;> try simp only [*, w97, nlt_iff, Int.natCast_inj, go_sem])
 ·exact kb h (by (first | (simp only [listEq, *, bs, go_sem]; done) | (simp_all [listEq]; done) | (simp_all [listEq]; omega) | grind [listEq]))
 ·have hle : s.things.length = u.things.length := by omega
  refine ALoop.keep [13, 0, 1, 12] ?_; simp only [mpC, go_sem]
  refine ALoop.cnt (fun k => ((List.range k).all fun k => tEq (s.thing k) (u.thing k)) = true) s.things.length (by simp) fun k hk hI next => ?_
  refine ALoop.unfold ?_
  have hw := wrap_succ (k := k) (by omega)
  have hg1 : k < s.things.length → _ := fun h => things_get (s := s) (k := k) h
  have hg2 : k < s.things.length → _ := fun h => things_get (s := u) (k := k) (hle ▸ h)
  have hlu : k < s.things.length → k < u.things.length := fun h => hle ▸ h
  have e : listEq tEq .zero s.things u.things = (List.range s.things.length).all fun k => tEq (s.thing k) (u.thing k) := by simp only [listEq, hle, decide_true, Bool.true_and]; rfl
  clear hle
  (try simp only [w97, hg1, hg2, hw, hlu, wpx_of b97_4.eq_1, nlt_iff, n0_le, go_sem]); repeat' ((first | refine orR ?_ | (refine sp ?_ ?_ <;> intro hc) | fail) <;> try simp only [*, w97, hg1, hg2, hw, hlu, wpx_of b97_4.eq_1, nlt_iff, n0_le, go_sem])
  ·refine kb h ?_
   rw [e]; exact (all_range_false (k := k) (by omega) (by (first | (simp only [tEq, *, bs, go_sem]; done) | (simp_all [tEq]; done) | (simp_all [tEq]; omega) | grind [tEq]))).symm
  ·(refine ALoop.keep [13, 0, 1, 12] ?_; simp only [mpC, go_sem]; refine next (by omega) ?_)
   rw [all_range (N := 0), hI]; (first | (simp only [tEq, *, bs, go_sem]; done) | (simp_all [tEq]; done) | (simp_all [tEq]; omega) | grind [tEq])
  ·have hk : k = s.things.length := by omega
   subst hk
   exact kb h (by rw [e, hI])
theorem things_Clone_spec {o : Nat} {f r : Bool} (h1 : H[o]? = some (.arr 13 (s.things.map Thing.cells) r)) (hl : s.things.length ≤ 1000) (h0 : 0 < s.things.length)
 (h : K (.slice H.length s.things.length 0 s.things.length false) (H ++ [.arr 13 (s.things.map Thing.cells) false])) : ACalls Tryz.prog 79 [.slice o s.things.length 0 s.things.length f] H K := by
 have hn : (s.things.length = 0) = False := eq_false (by omega)
 have he : (s.things.map Thing.cells = []) = False := eq_false (by intro e; have := congrArg List.length e; simp at this; rw [this] at h0; exact absurd h0 (by simp))
 have hb : (0 + s.things.length) * 104 ≤ 140737488355328 := by omega
 have hb2 : s.things.length * 104 ≤ 140737488355328 := by omega
 have k1 := Keeps.of h1
 have ht : (s.things.map Thing.cells).take s.things.length = s.things.map Thing.cells := by rw [List.take_of_length_le (by simp)]
 refine ACalls.gc ?_
 refine into ok79 ?_; (try simp only [c79, w79, hn, he, hb, hb2, h1, k1, ht, go_sem]); repeat' ((first | refine orR ?_ | (refine sp ?_ ?_ <;> intro hc) | fail) <;> try simp only [*, w79, hn, he, hb, hb2, h1, k1, ht, go_sem])
 exact Gc.slice (i := 1) rfl things_plain h
theorem state_Clone_spec (hS : H[oS]? = some (.arr 5 (s.slots.map Slot.cells) rS)) (hT : H[oT]? = some (.arr 13 (s.things.map Thing.cells) rT)) (hlS : s.slots.length ≤ 1000) (hlT : s.things.length ≤ 1000) (h0 : 0 < s.slots.length) (h1 : 0 < s.things.length)
 (h : K (stV s H.length (H.length + 1) false false) (H ++ [slotsO s, thingsO s])) : ACalls Tryz.prog 16 [stA s oS oT fS fT] H K := by
 have kT := Keeps.of hT
 have kS := Keeps.of hS
 refine ACalls.gc ?_
 refine into ok16 ?_; (try simp only [c16, wpx_of k16_0.eq_1, kS, kT, go_sem]); repeat' ((first | refine orR ?_ | (refine sp ?_ ?_ <;> intro hc) | refine slots_Clone_spec (kS _) hlS h0 ?_ | refine things_Clone_spec (kT _) hlT h1 ?_) <;> try simp only [*, wpx_of k16_0.eq_1, kS, kT, go_sem])
 exact Gc.state (i := 2) (j := 3) rfl rfl (by decide) h
theorem state_Same_spec {u : State} {oS2 oT2 : Nat} {fS2 fT2 rS2 rT2 : Bool} (hS : H[oS]? = some (.arr 5 (s.slots.map Slot.cells) rS)) (hT : H[oT]? = some (.arr 13 (s.things.map Thing.cells) rT))
 (hS2 : H[oS2]? = some (.arr 5 (u.slots.map Slot.cells) rS2)) (hT2 : H[oT2]? = some (.arr 13 (u.things.map Thing.cells) rT2)) (hlS : s.slots.length ≤ 1000) (hlT : s.things.length ≤ 1000)
 (h : K (.bool (sSame s u)) H) : ACalls Tryz.prog 23 [stA s oS oT fS fT, stA u oS2 oT2 fS2 fT2] H K := by
 have kT := Keeps.of hT
 have kS := Keeps.of hS
 have kT2 := Keeps.of hT2
 have kS2 := Keeps.of hS2
 refine ACalls.tidy ?_
 refine into ok23 ?_; (try simp only [c23, wpx_of k23_0.eq_1, go_sem]); repeat' ((first | refine orR ?_ | (refine sp ?_ ?_ <;> intro hc) | refine slots_Equal_spec (kS _) (kS2 _) hlS ?_ | refine things_Equal_spec (kT _) (kT2 _) hlT ?_) <;> try simp only [*, wpx_of k23_0.eq_1, go_sem])
 all_goals (refine tb h (by first | exact ⟨_, rfl⟩ | exact ⟨[], (List.append_nil _).symm⟩ | exact hx | exact hx.app _) ?_; first | (simp only [sSame, gEq, *, bs, go_sem]; done) | (simp_all [sSame, gEq]; done) | (simp_all [sSame, gEq]; omega) | grind [sSame, gEq])
theorem state_Free_1_spec {t : Thing} (h : K (.bool (decide (t.ty = 0))) H) : ACalls Tryz.prog 223 [.agg t.cells] H K := by
 refine ACalls.tidy ?_
 unfold Thing.cells
 refine into ok223 ?_; (try simp only [c223, wpx_of k223_0.eq_1, go_sem]); repeat' ((first | refine orR ?_ | (refine sp ?_ ?_ <;> intro hc) | fail) <;> try simp only [*, wpx_of k223_0.eq_1, go_sem])
 all_goals first | exact ⟨rfl, _, rfl⟩ | exact tb h ⟨_, rfl⟩ rfl
theorem state_Free_spec (hS : H[oS]? = some (.arr 5 (s.slots.map Slot.cells) rS)) (hT : H[oT]? = some (.arr 13 (s.things.map Thing.cells) rT)) (h : K (.int .i64 (sFree s)) H) : ACalls Tryz.prog 179 [stA s oS oT fS fT] H K := by
 have kT := Keeps.of hT
 have kS := Keeps.of hS
 refine ACalls.tidy ?_
 refine into ok179 ?_; (try simp only [c179, w179, go_sem]); repeat' ((first | refine orR ?_ | (refine sp ?_ ?_ <;> intro hc) | refine state_Good_spec (kS _) (kT _) ?_ | refine things_IndexFunc_spec (p := fun k => decide ((s.thing k).ty = 0)) (kT _) (lT_of (by assumption)) (callable_fn ok223) (fun k hk K' hK' => state_Free_1_spec hK') ?_) <;> try simp only [*, w179, go_sem])
 all_goals (refine ti h (by first | exact ⟨_, rfl⟩ | exact ⟨[], (List.append_nil _).symm⟩ | exact hx | exact hx.app _) ?_; first | (simp only [sFree, *, bs, go_sem]; done) | (simp_all [sFree]; done) | (simp_all [sFree]; omega) | grind [sFree])
theorem state_Owner_spec {n : Int} (hS : H[oS]? = some (.arr 5 (s.slots.map Slot.cells) rS)) (hT : H[oT]? = some (.arr 13 (s.things.map Thing.cells) rT)) (h : K (.int .i64 (sOwnerX s n)) H) : ACalls Tryz.prog 215 [stA s oS oT fS fT, .int .i64 n] H K := by
 have kT := Keeps.of hT
 have kS := Keeps.of hS
 refine ACalls.tidy ?_
 refine into ok215 ?_; (try simp only [c215, w215, go_sem]); repeat' ((first | refine orR ?_ | (refine sp ?_ ?_ <;> intro hc) | refine state_Good_spec (kS _) (kT _) ?_ | refine state_owner_spec (kT _) (lT_of (by assumption)) (ok_of (by assumption)) ?_) <;> try simp only [*, w215, go_sem])
 all_goals (refine ti h (by first | exact ⟨_, rfl⟩ | exact ⟨[], (List.append_nil _).symm⟩ | exact hx | exact hx.app _) ?_; first | (simp only [sOwnerX, *, bs, go_sem]; done) | (simp_all [sOwnerX]; done) | (simp_all [sOwnerX]; omega) | grind [sOwnerX])
theorem state_Inside_spec {node n : Int} (hS : H[oS]? = some (.arr 5 (s.slots.map Slot.cells) rS)) (hT : H[oT]? = some (.arr 13 (s.things.map Thing.cells) rT)) (h : K (.bool (sInsideX s node n)) H) : ACalls Tryz.prog 225 [stA s oS oT fS fT, .int .i64 node, .int .i64 n] H K := by
 have kT := Keeps.of hT
 have kS := Keeps.of hS
 refine ACalls.tidy ?_
 refine into ok225 ?_; (try simp only [c225, wpx_of k225_0.eq_1, go_sem]); repeat' ((first | refine orR ?_ | (refine sp ?_ ?_ <;> intro hc) | refine state_Good_spec (kS _) (kT _) ?_ | refine state_inside_spec (kS _) (kT _) (lS_of (by assumption)) (lT_of (by assumption)) (ok_of (by assumption)) ?_) <;> try simp only [*, wpx_of k225_0.eq_1, go_sem])
 all_goals (refine tb h (by first | exact ⟨_, rfl⟩ | exact ⟨[], (List.append_nil _).symm⟩ | exact hx | exact hx.app _) ?_; first | (simp only [sInsideX, *, bs, go_sem]; done) | (simp_all [sInsideX]; done) | (simp_all [sInsideX]; omega) | grind [sInsideX])
theorem state_Gap_spec {b : Int} (hS : H[oS]? = some (.arr 5 (s.slots.map Slot.cells) rS)) (hT : H[oT]? = some (.arr 13 (s.things.map Thing.cells) rT)) (h : K (.tup [.int .i64 (sGap s b).1, .bool (sGap s b).2]) H) : ACalls Tryz.prog 180 [stA s oS oT fS fT, .int .i64 b] H K := by
 have kT := Keeps.of hT
 have kS := Keeps.of hS
 refine ACalls.tidy ?_
 refine into ok180 ?_; (try simp only [c180, w180, kS, kT, go_sem]); repeat' ((first | refine orR ?_ | (refine sp ?_ ?_ <;> intro hc) | refine state_Good_spec (kS _) (kT _) ?_) <;> try simp only [*, w180, kS, kT, go_sem])
 case' refine_1.refine_1.refine_2 =>
  have hb : inB b 1 4 = true := by rw [inB_iff]; omega
  have hp := p2_bits hb
  have hsh := shl_spec hb
  have hp0 : ((0 : Int) = p2 b) = False := eq_false (by omega)
  have hlS := lS_of (s := s) (by assumption)
  refine ALoop.keep [22, 6, 1, 2, 21] ?_; simp only [mpC, go_sem]
  refine ALoop.acc (fun k (many : Int) => [(22, .int .i64 (k : Int)), (6, .int .i64 many)]) (fun k many => _) (fun k many => 0 ≤ many ∧ many ≤ k ∧ gapGo s (p2 b) s.slots.length 0 0 = gapGo s (p2 b) (s.slots.length - k) k many) s.slots.length ?_ (a0 := 0) ⟨by omega, by omega, rfl⟩
  rintro k many hk ⟨hm1, hm2, hI⟩ next
  refine ALoop.unfold ?_
  have hw := wrap_succ (k := k) (by omega)
  have hw1 : IntKind.wrap .i64 (many + 1) = many + 1 := w64 (by omega) (by omega)
  have hw2 : IntKind.wrap .i64 (((k + 1 : Nat) : Int) - (many + 1)) = ((k + 1 : Nat) : Int) - (many + 1) := w64 (by omega) (by omega)
  have hw3 : IntKind.wrap .i64 (((k + 1 : Nat) : Int) - p2 b) = ((k + 1 : Nat) : Int) - p2 b := w64 (by omega) (by omega)
  (try simp only [w180, kS, kT, hw, wpx_of b180_6.eq_1, nlt_iff, n0_le, apC, go_sem]); repeat' ((first | refine orR ?_ | (refine sp ?_ ?_ <;> intro hc) | refine state_owner_spec (kT _) (lT_of (by assumption)) (ok_of (by assumption)) ?_) <;> try simp only [*, w180, kS, kT, hw, wpx_of b180_6.eq_1, nlt_iff, n0_le, apC, go_sem])
 case' refine_1.refine_1.refine_2.refine_1.refine_1 =>
  (refine ALoop.keep [22, 6, 1, 2, 21] ?_; simp only [mpC, go_sem]; refine next 0 (by assumption) ⟨by omega, by omega, ?_⟩)
  rw [hI, show s.slots.length - k = (s.slots.length - (k + 1)) + 1 by omega, gapGo]
  (first | (simp only [Bool.or_self, *, bs, go_sem]; done) | (simp_all [Bool.or_self]; done) | (simp_all [Bool.or_self]; omega) | grind [Bool.or_self])
 case' refine_1.refine_1.refine_2.refine_1.refine_2.refine_2 =>
  (refine ALoop.keep [22, 6, 1, 2, 21] ?_; simp only [mpC, go_sem]; refine next (many + 1) (by assumption) ⟨by omega, by omega, ?_⟩)
  rw [hI, show s.slots.length - k = (s.slots.length - (k + 1)) + 1 by omega, gapGo]
  (first | (simp only [Bool.or_self, *, bs, go_sem]; done) | (simp_all [Bool.or_self]; done) | (simp_all [Bool.or_self]; omega) | grind [Bool.or_self])
 case' refine_1.refine_1.refine_2.refine_1.refine_2.refine_1 =>
  have e : sGap s b = (((k + 1 : Nat) : Int) - p2 b, true) := by
   have h1 : decide (1 ≤ b) = true := by simp; omega
   have h2 : decide (b ≤ 4) = true := by simp; omega
   simp only [sGap, h1, h2, *, Bool.and_self, cond_true]
   rw [show s.slots.length - k = (s.slots.length - (k + 1)) + 1 by omega, gapGo]
   simp only [*, decide_true, cond_true, Int.natCast_add, Int.cast_ofNat_Int]
 case' refine_1.refine_1.refine_2.refine_2 =>
  have e : sGap s b = (0, false) := by
   have h1 : decide (1 ≤ b) = true := by simp; omega
   have h2 : decide (b ≤ 4) = true := by simp; omega
   simp only [sGap, h1, h2, *, Bool.and_self, cond_true]
   rw [show s.slots.length - k = 0 by omega, gapGo]
 case' refine_1.refine_1.refine_1 => have e : sGap s b = (0, false) := by (first | (simp only [sGap, *, bs, go_sem]; done) | (simp_all [sGap]; done) | (simp_all [sGap]; omega) | grind [sGap])
 case' refine_1.refine_2 => have e : sGap s b = (0, false) := by (first | (simp only [sGap, *, bs, go_sem]; done) | (simp_all [sGap]; done) | (simp_all [sGap]; omega) | grind [sGap])
 case' refine_2 => have e : sGap s b = (0, false) := by (first | (simp only [sGap, *, bs, go_sem]; done) | (simp_all [sGap]; done) | (simp_all [sGap]; omega) | grind [sGap])
 all_goals (rw [e] at h; refine tv h (by first | exact ⟨_, rfl⟩ | exact ⟨[], (List.append_nil _).symm⟩ | exact hx | exact hx.app _) ⟨rfl, rfl⟩)
end
end Go.Proofs.YtlaipllgmddkiaaGreat.Ax

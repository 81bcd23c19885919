/- Texts put behind one another: SFind, SFind2. Conditions: none. -/
import Derived.Test.YtlaipllgmddkiaaGreatZSt
import Derived.Test.YtlaipllgmddkiaaGreatZMo
import Derived.Test.YtlaipllgmddkiaaGreatZT
set_option linter.all false
namespace Go.Proofs.YtlaipllgmddkiaaGreat.Ax
open Go Go.Ax Go.Ax.M
set_option maxRecDepth 100000
section
variable {H : Heap} {K : AVal → Heap → Prop} {s : State} {oS oT : Nat} {fS fT rS rT : Bool}
theorem path_Good_1_spec {n : Int} (h : K (.bool (!(decide (0 ≤ n) && decide (n ≤ 15)))) H) : ACalls Tryz.prog 191 [.int .i64 n] H K := by
 refine into ok191 ?_; (try simp only [c191, wpx_of k191_0.eq_1, go_sem]); repeat' ((first | refine orR ?_ | (refine sp ?_ ?_ <;> intro hc) | fail) <;> try simp only [*, wpx_of k191_0.eq_1, go_sem])
 all_goals (refine kb h ?_; clear h; rw [Bool.eq_iff_iff]; simp <;> omega)
theorem ints_IndexFunc_spec {g : FuncId} {cap : List AVal} {l : List Int} {p : Int → Bool} {o : Nat} {f r : Bool} (ho : H[o]? = some (.arr 1 (ints l) r)) (hl : l.length ≤ 1000) (hc : callable Tryz.prog g = true)
 (hp : ∀ n, ∀ K' : AVal → Heap → Prop, K' (.bool (p n)) H → ACalls Tryz.prog g (.int .i64 n :: cap) H K') (h : K (.int .i64 (findI (fun k => p (l.getD k 0)) l.length)) H) :
 ACalls Tryz.prog 229 [.slice o l.length 0 l.length f, .func g cap] H K := by
 refine into ok229 ?_; (try simp only [c229, w229, go_sem]); repeat' ((first | refine orR ?_ | (refine sp ?_ ?_ <;> intro hc) | fail) <;> try simp only [*, w229, go_sem])
 refine ALoop.keep [8, 0, 1, 7] ?_; simp only [mpC, go_sem]
 refine ALoop.cnt (fun k => (List.range k).all (fun j => !p (l.getD j 0)) = true) l.length (by simp) fun k hk hI next => ?_
 refine ALoop.unfold ?_
 have hw := wrap_succ (k := k) (by omega)
 have hg : k < l.length → (ints l)[k]? = some [.int .i64 (l.getD k 0)] := fun h => ints_get h
 have hp' : ∀ K' : AVal → Heap → Prop, K' (.bool (p (l.getD k 0))) H → ACalls Tryz.prog g (.int .i64 (l.getD k 0) :: cap) H K' := hp _
 clear hp
 (try simp only [w229, hg, hw, ho, hc, wpx_of b229_3.eq_1, nlt_iff, n0_le, go_sem]); repeat' ((first | refine orR ?_ | (refine sp ?_ ?_ <;> intro hc) | refine hp' _ ?_) <;> try simp only [*, w229, hg, hw, ho, hc, wpx_of b229_3.eq_1, nlt_iff, n0_le, go_sem])
 ·exact ki h (findI_hit (by assumption) hI (by assumption)).symm
 ·(refine ALoop.keep [8, 0, 1, 7] ?_; simp only [mpC, go_sem]; refine next (by assumption) ?_)
  rw [all_range (N := 0), hI]; (first | (simp only [Bool.or_self, *, bs, go_sem]; done) | (simp_all [Bool.or_self]; done) | (simp_all [Bool.or_self]; omega) | grind [Bool.or_self])
 ·have hk : k = l.length := by omega
  subst hk
  exact ki h (findI_none hI).symm
theorem findI_neg {p : Nat → Bool} {n : Nat} : decide (0 ≤ findI p n) = !(List.range n).all fun k => !p k := by
 cases e : (List.range n).find? p with
 | none => simp only [findI, e]; rw [List.find?_eq_none] at e; simp; simpa using e
 | some k =>
  simp only [findI, e]
  have h1 := List.find?_some e
  have h2 := List.mem_of_find?_eq_some e
  simp at h2
  simp; exact ⟨k, h2, h1⟩
theorem ints_ContainsFunc_spec {g : FuncId} {cap : List AVal} {l : List Int} {p : Int → Bool} {o : Nat} {f r : Bool} (ho : H[o]? = some (.arr 1 (ints l) r)) (hl : l.length ≤ 1000) (hc : callable Tryz.prog g = true)
 (hp : ∀ n, ∀ K' : AVal → Heap → Prop, K' (.bool (p n)) H → ACalls Tryz.prog g (.int .i64 n :: cap) H K') (h : K (.bool (!l.all fun n => !p n)) H) :
 ACalls Tryz.prog 192 [.slice o l.length 0 l.length f, .func g cap] H K := by
 refine into ok192 ?_; (try simp only [c192, wpx_of k192_0.eq_1, go_sem]); repeat' ((first | refine orR ?_ | (refine sp ?_ ?_ <;> intro hc) | refine ints_IndexFunc_spec ho hl hc hp ?_) <;> try simp only [*, wpx_of k192_0.eq_1, go_sem])
 refine kb h ?_
 rw [findI_neg]
 congr 1
 rw [Bool.eq_iff_iff]
 simp only [List.all_eq_true, List.mem_range]
 constructor
 ·intro h x hx
  obtain ⟨i, hi, rfl⟩ := List.mem_iff_getElem.1 hx
  have := h i hi
  simpa [List.getD, hi] using this
 ·intro h i hi
  simpa [List.getD, hi] using h l[i] (List.getElem_mem hi)
theorem path_Good_spec {p : List Int} {o : Nat} {f r : Bool} (ho : H[o]? = some (.arr 1 (ints p) r)) (h : K (.bool (pGood p)) H) : ACalls Tryz.prog 116 [.agg [.slice o p.length 0 p.length f]] H K := by
 have ko := Keeps.of ho
 refine ACalls.tidy ?_
 refine into ok116 ?_; (try simp only [c116, wpx_of k116_0.eq_1, go_sem]); repeat' ((first | refine orR ?_ | (refine sp ?_ ?_ <;> intro hc) | refine ints_ContainsFunc_spec (ko _) (by omega) (callable_fn ok191) (fun n K' hK' => path_Good_1_spec hK') ?_) <;> try simp only [*, wpx_of k116_0.eq_1, go_sem])
 all_goals (refine tb h (by first | exact ⟨_, rfl⟩ | exact ⟨[], (List.append_nil _).symm⟩ | exact hx | exact hx.app _) ?_; first | (simp only [pGood, Bool.not_not, *, bs, go_sem]; done) | (simp_all [pGood, Bool.not_not]; done) | (simp_all [pGood, Bool.not_not]; omega) | grind [pGood, Bool.not_not])
theorem call_in_spec {n lo hi : Int} (h : K (.bool (inB n lo hi)) H) : ACalls Tryz.prog 194 [.int .i64 n, .int .i64 lo, .int .i64 hi] H K := by
 refine into ok194 ?_; (try simp only [c194, wpx_of k194_0.eq_1, go_sem]); repeat' ((first | refine orR ?_ | (refine sp ?_ ?_ <;> intro hc) | fail) <;> try simp only [*, wpx_of k194_0.eq_1, go_sem])
 all_goals (refine kb h ?_; first | (simp only [inB, *, bs, go_sem]; done) | (simp_all [inB]; done) | (simp_all [inB]; omega) | grind [inB])
theorem find_in_spec {n lo hi : Int} (h : K (.bool (inB n lo hi)) H) : ACalls Tryz.prog 135 [.int .i64 n, .int .i64 lo, .int .i64 hi] H K := by
 refine into ok135 ?_; (try simp only [c135, wpx_of k135_0.eq_1, go_sem]); repeat' ((first | refine orR ?_ | (refine sp ?_ ?_ <;> intro hc) | fail) <;> try simp only [*, wpx_of k135_0.eq_1, go_sem])
 all_goals (refine kb h ?_; first | (simp only [inB, *, bs, go_sem]; done) | (simp_all [inB]; done) | (simp_all [inB]; omega) | grind [inB])
theorem call_fields_spec {op : Int} (h : K (.tup [.str (callW op), .str (callL op)]) H) : ACalls Tryz.prog 114 [.int .i64 op] H K := by
 rcases op_cases op with hc | hc
 ·rcases hc with rfl | rfl | rfl | rfl | rfl | rfl | rfl | rfl | rfl | rfl | rfl | rfl | rfl <;> exact run_known (loops := 60) (k := 20) tabOk (by kernel_rfl) rfl rfl (by simpa [callW, callL] using h)
 ·rw [(call_none hc).1, (call_none hc).2] at h
  refine ACalls.tidy ?_
  refine into ok114 ?_; (try simp only [c114, w114, go_sem]); repeat' ((first | refine orR ?_ | (refine sp ?_ ?_ <;> intro hc) | fail) <;> try simp only [*, w114, go_sem])
  all_goals first | omega | exact ⟨rfl, _, rfl⟩ | exact tv h (by first | exact ⟨_, rfl⟩ | exact ⟨[], (List.append_nil _).symm⟩ | exact hx | exact hx.app _) ⟨rfl, rfl⟩
theorem call_Contains_spec {op : Int} {c : UInt8} (hc : c = 66 ∨ c = 87) (h : K (.bool ((callL op).contains c)) H) : ACalls Tryz.prog 115 [.str (callL op), .str [c]] H K := by
 have : callL op = [65, 66, 88, 89] ∨ callL op = [65, 66, 88] ∨ callL op = [65, 66] ∨ callL op = [65] ∨ callL op = [65, 98, 87] ∨ callL op = [65, 98] ∨ callL op = [65, 88, 87] ∨ callL op = [65, 88] ∨ callL op = [] := by
  rcases op_cases op with hc | hc
  ·rcases hc with rfl | rfl | rfl | rfl | rfl | rfl | rfl | rfl | rfl | rfl | rfl | rfl | rfl <;> simp [callL]
  ·rw [(call_none hc).2]; simp
 rcases hc with rfl | rfl <;> rcases this with e | e | e | e | e | e | e | e | e <;> rw [e] at h ⊢ <;> exact run_known (loops := 60) (k := 20) tabOk (by kernel_rfl) rfl rfl h
theorem call_ContainsAny_spec {op : Int} (h : K (.bool ((callL op).contains 66 || (callL op).contains 98)) H) : ACalls Tryz.prog 117 [.str (callL op), .str [66, 98]] H K := by
 have : callL op = [65, 66, 88, 89] ∨ callL op = [65, 66, 88] ∨ callL op = [65, 66] ∨ callL op = [65] ∨ callL op = [65, 98, 87] ∨ callL op = [65, 98] ∨ callL op = [65, 88, 87] ∨ callL op = [65, 88] ∨ callL op = [] := by
  rcases op_cases op with hc | hc
  ·rcases hc with rfl | rfl | rfl | rfl | rfl | rfl | rfl | rfl | rfl | rfl | rfl | rfl | rfl <;> simp [callL]
  ·rw [(call_none hc).2]; simp
 rcases this with e | e | e | e | e | e | e | e | e <;> rw [e] at h ⊢ <;> exact run_known (loops := 60) (k := 20) tabOk (by kernel_rfl) rfl rfl h
theorem call_numbers_spec {c : M.Call} {oA oB : Nat} {fA fB : Bool} (h : K (.bool (cNumbers c)) H) : ACalls Tryz.prog 118 [.agg [.int .i64 c.op, .slice oA c.a.length 0 c.a.length fA, .slice oB c.b.length 0 c.b.length fB, .int .i64 c.x, .int .i64 c.y, .int .u64 c.w]] H K := by
 refine ACalls.tidy ?_
 refine into ok118 ?_; (try simp only [c118, w118, go_sem]); repeat' ((first | refine orR ?_ | (refine sp ?_ ?_ <;> intro hc) | refine call_in_spec ?_ | refine right_Good_spec ?_) <;> try simp only [*, w118, go_sem])
 all_goals (refine tb h (by first | exact ⟨_, rfl⟩ | exact ⟨[], (List.append_nil _).symm⟩ | exact hx | exact hx.app _) ?_; first | (simp only [cNumbers, *, bs, go_sem]; done) | (simp_all [cNumbers]; done) | (simp_all [cNumbers]; omega) | grind [cNumbers])
theorem call_Good_spec {c : M.Call} {oA oB : Nat} {fA fB rA rB : Bool} (hA : H[oA]? = some (.arr 1 (ints c.a) rA)) (hB : H[oB]? = some (.arr 1 (ints c.b) rB)) (h : K (.bool (callGood c)) H) : ACalls Tryz.prog 50 [.agg [.int .i64 c.op, .slice oA c.a.length 0 c.a.length fA, .slice oB c.b.length 0 c.b.length fB, .int .i64 c.x, .int .i64 c.y, .int .u64 c.w]] H K := by
 have kA := Keeps.of hA
 have kB := Keeps.of hB
 have he : (callL c.op = []) = (callL c.op = []) := rfl
 refine ACalls.tidy ?_
 refine into ok50 ?_; (try simp only [c50, w50, go_sem]); repeat' ((first | refine orR ?_ | (refine sp ?_ ?_ <;> intro hc) | refine call_fields_spec ?_ | refine call_Contains_spec (.inl rfl) ?_ | refine call_Contains_spec (.inr rfl) ?_ | refine call_ContainsAny_spec ?_ | refine path_Good_spec (kA _) ?_ | refine path_Good_spec (kB _) ?_ | refine call_numbers_spec (c := c) ?_) <;> try simp only [*, w50, go_sem])
 all_goals (refine tb h (by first | exact ⟨_, rfl⟩ | exact ⟨[], (List.append_nil _).symm⟩ | exact hx | exact hx.app _) ?_; first | (simp only [callGood, *, bs, go_sem]; done) | (simp_all [callGood]; done) | (simp_all [callGood]; omega) | grind [callGood])
end
end Go.Proofs.YtlaipllgmddkiaaGreat.Ax
namespace Go.Proofs.YtlaipllgmddkiaaGreat.Ax
open Go Go.Ax Go.Ax.M
section
variable {H : Heap} {K : AVal → Heap → Prop} {s : State} {oS oT : Nat} {fS fT rS rT : Bool}
theorem find_step_spec {t : Thing} {n : Int} (hb : inB t.bits 1 4 = true) (h1 : 0 ≤ t.base ∧ t.base ≤ 96) (h2 : 0 ≤ n) (h : K (.int .i64 (stepI t n)) H) : ACalls Tryz.prog 203 [.agg t.cells, .int .i64 n] H K := by
 have hsh := shl_spec hb
 have hp := p2_bits hb
 have hw : ¬ p2 t.bits ≤ n → IntKind.wrap .i64 (t.base + n) = t.base + n := fun h2 => w64 (by omega) (by omega)
 refine ACalls.tidy ?_
 unfold Thing.cells
 refine into ok203 ?_; (try simp only [c203, w203, hsh, go_sem]); repeat' ((first | refine orR ?_ | (refine sp ?_ ?_ <;> intro hc) | fail) <;> try simp only [*, w203, hsh, go_sem])
 all_goals (refine ti h (by first | exact ⟨_, rfl⟩ | exact ⟨[], (List.append_nil _).symm⟩ | exact hx | exact hx.app _) ?_; first | (simp only [stepI, *, bs, go_sem]; done) | (simp_all [stepI]; done) | (simp_all [stepI]; omega) | grind [stepI])
theorem find_through_spec {n : Int} (hS : H[oS]? = some (.arr 5 (s.slots.map Slot.cells) rS)) (hT : H[oT]? = some (.arr 13 (s.things.map Thing.cells) rT)) (ok : StOk s) (h0 : 0 ≤ n) (h1 : n < s.slots.length)
 (h : K (.tup [.agg (bif throughB s n then s.thing (s.slot n.toNat).cap.th.toNat else .zero).cells, .bool (throughB s n)]) H) : ACalls Tryz.prog 202 [stA s oS oT fS fT, .int .i64 n] H K := by
 have kT := Keeps.of hT
 have kS := Keeps.of hS
 have hg := slots_get (s := s) (k := n.toNat) (by omega)
 have hth : (s.slot n.toNat).cap.ty = 2 → _ := fun h2 => there_get (cap_thing ok (k := n.toNat) (by omega) (cNone_ty (by omega))).1
 refine ACalls.tidy ?_
 refine into ok202 ?_; (try simp only [c202, w202, kS, kT, hg, hth, h0, h1, go_sem]); repeat' ((first | refine orR ?_ | (refine sp ?_ ?_ <;> intro hc) | refine right_Within_spec ?_) <;> try simp only [*, w202, kS, kT, hg, hth, h0, h1, go_sem])
 all_goals (refine tv h (by first | exact ⟨_, rfl⟩ | exact ⟨[], (List.append_nil _).symm⟩ | exact hx | exact hx.app _) ?_; first | (simp only [throughB, Thing.cells, Thing.zero, AVal.plain, plains, *, bs, go_sem]; done) | (simp_all [throughB, Thing.cells, Thing.zero, AVal.plain, plains]; done) | (simp_all [throughB, Thing.cells, Thing.zero, AVal.plain, plains]; omega) | grind [throughB, Thing.cells, Thing.zero, AVal.plain, plains])
theorem find_step_x {x0 x1 x2 x3 x4 x5 x6 : Int} {x7 : Bool} {x8 x9 x10 x11 x12 : Int} {n : Int} (hb : inB x1 1 4 = true ∧ 0 ≤ x2 ∧ x2 ≤ 96) (h2 : 0 ≤ n) (h : K (.int .i64 (stepI ⟨x0, x1, x2, x3, x4, x5, x6, x7, x8, x9, x10, x11, x12⟩ n)) H) : ACalls Tryz.prog 203 [.agg [.int .i64 x0, .int .i64 x1, .int .i64 x2, .int .i64 x3, .int .i64 x4, .int .i64 x5, .int .i64 x6, .bool x7, .int .u64 x8, .int .u64 x9, .int .u64 x10, .int .u64 x11, .int .u64 x12], .int .i64 n] H K := find_step_spec (t := ⟨x0, x1, x2, x3, x4, x5, x6, x7, x8, x9, x10, x11, x12⟩) hb.1 hb.2 h2 h
theorem find_Slot_spec {th : Int} {p : List Int} {o : Nat} {f r : Bool} (hS : H[oS]? = some (.arr 5 (s.slots.map Slot.cells) rS)) (hT : H[oT]? = some (.arr 13 (s.things.map Thing.cells) rT)) (ho : H[o]? = some (.arr 1 (ints p) r))
 (h : K (.tup [.int .i64 (fSlot s th p).1, .int .i64 (fSlot s th p).2]) H) : ACalls Tryz.prog 134 [stA s oS oT fS fT, .int .i64 th, .agg [.slice o p.length 0 p.length f]] H K := by
 have kT := Keeps.of hT
 have kS := Keeps.of hS
 have ko := Keeps.of ho
 have hwt : sGood s = true → IntKind.wrap .i64 (s.geo.threads - 1) = s.geo.threads - 1 := fun h => by have := gGood_bb (stOk_of h).geo; exact w64 (by omega) (by omega)
 have hw2 : sGood s = true → inB th 0 (s.geo.threads - 1) = true → IntKind.wrap .i64 (2 + th) = 2 + th := fun h h2 => by have := gGood_bb (stOk_of h).geo; rw [inB_iff] at h2; exact w64 (by omega) (by omega)
 have hg : sGood s = true → inB th 0 (s.geo.threads - 1) = true → _ := fun h h2 => by rw [inB_iff] at h2; exact things_get (s := s) (root_node (stOk_of h) h2.1 h2.2).1
 have hg2 : sGood s = true → inB th 0 (s.geo.threads - 1) = true → (0 ≤ 2 + th) = True ∧ (2 + th < (s.things.length : Int)) = True := fun h h2 => by rw [inB_iff] at h2; have := root_node (stOk_of h) h2.1 h2.2; exact ⟨by simp; omega, by simp; omega⟩
 refine ACalls.tidy ?_
 refine into ok134 ?_; (try simp only [c134, w134, kS, kT, ko, go_sem]); repeat' ((first | refine orR ?_ | (refine sp ?_ ?_ <;> intro hc) | refine state_Good_spec (kS _) (kT _) ?_ | refine find_in_spec ?_ | refine path_Good_spec (ko _) ?_) <;> try simp only [*, w134, kS, kT, ko, go_sem])
 case' refine_1.refine_1.refine_2 =>
  have ok := stOk_of (s := s) (by assumption)
  have hpl := pGood_len (p := p) (by assumption)
  have hpg := fun k hk => pGood_get (p := p) (by assumption) (k := k) hk
  have hroot : (2 + th).toNat < s.things.length ∧ (s.thing (2 + th).toNat).ty = 2 := by
   have h2 : inB th 0 (s.geo.threads - 1) = true := by assumption
   rw [inB_iff] at h2; exact root_node ok h2.1 h2.2
  have hrf := node_fine ok hroot.1 hroot.2
  have hrl := fun n (hn : 0 ≤ n) => stepI_lt ok hroot.1 hroot.2 (n := n) hn
  have hfs : fSlot s th p = fFirst s th p := by (first | (simp only [fSlot, *, bs, go_sem]; done) | (simp_all [fSlot]; done) | (simp_all [fSlot]; omega) | grind [fSlot])
  rw [hfs] at h
  clear hg hg2 hw2 hwt hfs
  refine ALoop.keep [39, 10, 3, 8, 9, 37, 38] ?_; simp only [mpC, go_sem]
  refine ALoop.acc (fun k (a : Thing × Int) => [(39, .int .i64 (k : Int)), (10, .int .i64 a.2)]) (fun k a => H ++ _ :: _ :: [.arr 13 [a.1.cells] false]) (fun k a => (k = 0 → a.1 = s.thing (2 + th).toNat) ∧ (0 < k → 0 ≤ a.2 ∧ a.2 < s.slots.length ∧ fFirst s th p = fWalk s (p.drop k) a.2)) p.length ?_ (a0 := (s.thing (2 + th).toNat, 0)) ⟨fun _ => rfl, fun h => absurd h (by omega)⟩
  rintro k ⟨t, i⟩ hk ⟨hI1, hI2⟩ next
  simp only at hI1 hI2
  have hgp : k < p.length → (ints p)[k]? = some [.int .i64 (p.getD k 0)] := fun h => ints_get h
  have hw := wrap_succ (k := k) (by omega)
  refine ALoop.hid fun W hW => ?_
  have kS := kS.ex hW.ex
  have kT := kT.ex hW.ex
  have ko := ko.ex hW.ex
  have kst := hW.keep0
  have kt := hW.keep2
  have kS0 := kS.at
  have kT0 := kT.at
  have ko0 := ko.at
  have kst0 := kst.at
  have kt0 := kt.at
  simp only [Thing.cells] at kt kt0
  refine ALoop.unfold ?_
  rcases Nat.eq_zero_or_pos k with hk0 | hk0
  ·subst hk0
   have ht := hI1 rfl
   subst ht
   clear hI1 hI2
   have hp0 := (hpg 0 (by omega)).1
   have hgp0 : (ints p)[0]? = some [.int .i64 (p.getD 0 0)] := ints_get (by omega)
   have hc0 : (0 : Int) < p.length := by omega
   have hw1 : IntKind.wrap .i64 1 = 1 := rfl
   obtain ⟨n, r, hpn⟩ : ∃ n r, p = n :: r := by
    cases p with
    | nil => simp at hpl
    | cons n r => exact ⟨n, r, rfl⟩
   have hfe : fFirst s th p = (bif !decide (stepI (s.thing (2 + th).toNat) (p.getD 0 0) < 0) then fWalk s (p.drop 1) (stepI (s.thing (2 + th).toNat) (p.getD 0 0)) else (0, 3)) := by
    rw [hpn]; rfl
   clear hpn
   have hrl0 := hrl _ hp0
   clear hpg hrl hroot
   (try simp only [w134, hgp0, hw1, wpx_of b134_7.eq_1, nlt_iff, n0_le, apC, go_sem]); repeat' ((first | refine orR ?_ | (refine sp ?_ ?_ <;> intro hc) | refine find_step_x hrf hp0 ?_) <;> try simp only [*, w134, hgp0, hw1, wpx_of b134_7.eq_1, nlt_iff, n0_le, apC, go_sem])
   ·refine tv h hW.ex ⟨?_, rfl⟩
    rw [hfe]; (first | (simp only [Bool.or_self, *, bs, go_sem]; done) | (simp_all [Bool.or_self]; done) | (simp_all [Bool.or_self]; omega) | grind [Bool.or_self])
   ·have hW : W = _ := hW
    subst hW
    simp only [go_sem] at next
    simp only [go_sem]
    have hs : ¬ stepI (s.thing (2 + th).toNat) (p.getD 0 0) < 0 := by assumption
    have this := hrl0.resolve_left hs
    (refine ALoop.keep [39, 10, 3, 8, 9, 37, 38] ?_; simp only [mpC, go_sem]; refine next (s.thing (2 + th).toNat, stepI (s.thing (2 + th).toNat) (p.getD 0 0)) (by omega) ⟨this.1, this.2, ?_⟩)
    rw [hfe]; (first | (simp only [Bool.or_self, *, bs, go_sem]; done) | (simp_all [Bool.or_self]; done) | (simp_all [Bool.or_self]; omega) | grind [Bool.or_self])
   ·omega
  ·obtain ⟨hi0, hi1, hI⟩ := hI2 hk0
   clear hI1 hI2
   have h0k : ((0 : Int) < (k : Int)) = True := eq_true (by omega)
   have hnode := fun hb => through_node ok hi0 hi1 hb
   have hfine := fun hb => node_fine ok (hnode hb).1 (hnode hb).2
   have hlt := fun (hb : throughB s i = true) (hkp : k < p.length) => stepI_lt ok (hnode hb).1 (hnode hb).2 (hpg _ hkp).1
   have hdr : k < p.length → p.drop k = p.getD k 0 :: p.drop (k + 1) := fun h => by rw [List.drop_eq_getElem_cons h]; simp [List.getD, h]
   have kself := kt.self0
   clear hnode hroot hrl
   (try simp only [w134, hgp, hw, h0k, kself, wpx_of b134_7.eq_1, nlt_iff, n0_le, apC, cond_true, cond_false, Thing.cells, go_sem]); repeat' ((first | refine orR ?_ | (refine sp ?_ ?_ <;> intro hc) | refine find_through_spec kS0 kT0 ok hi0 hi1 ?_ | refine find_step_x (hfine (by assumption)) (hpg _ (by assumption)).1 ?_) <;> try simp only [*, w134, hgp, hw, h0k, kself, wpx_of b134_7.eq_1, nlt_iff, n0_le, apC, cond_true, cond_false, Thing.cells, go_sem])
   case' refine_1.refine_1.refine_2.inr.refine_1.refine_1.refine_1 =>
    refine tv h (hW.ex.set (by omega) _) ⟨?_, rfl⟩
    rw [hI, hdr (by assumption), fWalk]; (first | (simp only [Bool.or_self, *, bs, go_sem]; done) | (simp_all [Bool.or_self]; done) | (simp_all [Bool.or_self]; omega) | grind [Bool.or_self])
   case' refine_1.refine_1.refine_2.inr.refine_1.refine_2 =>
    refine tv h (hW.ex.set (by omega) _) ⟨?_, rfl⟩
    rw [hI, hdr (by assumption), fWalk]; (first | (simp only [Bool.or_self, *, bs, go_sem]; done) | (simp_all [Bool.or_self]; done) | (simp_all [Bool.or_self]; omega) | grind [Bool.or_self])
   case' refine_1.refine_1.refine_2.inr.refine_2 =>
    refine tv h hW.ex ⟨?_, rfl⟩
    rw [hI, List.drop_eq_nil_of_le (by omega), fWalk]
   case' refine_1.refine_1.refine_2.inr.refine_1.refine_1.refine_2 =>
    have hs := (hlt (by assumption) (by assumption)).resolve_left (by assumption)
    have hW : W = _ := hW
    subst hW
    simp only [Thing.cells, go_sem] at next
    simp only [go_sem]
    (refine ALoop.keep [39, 10, 3, 8, 9, 37, 38] ?_; simp only [mpC, go_sem]; refine next (s.thing (s.slot i.toNat).cap.th.toNat, stepI (s.thing (s.slot i.toNat).cap.th.toNat) (p.getD k 0)) (by assumption) ?_)
    refine fun _ => ⟨hs.1, hs.2, ?_⟩
    rw [hI, hdr (by assumption), fWalk]; (first | (simp only [Bool.or_self, *, bs, go_sem]; done) | (simp_all [Bool.or_self]; done) | (simp_all [Bool.or_self]; omega) | grind [Bool.or_self])
 all_goals (refine tv h (by first | exact ⟨_, rfl⟩ | exact ⟨[], (List.append_nil _).symm⟩ | exact hx | exact hx.app _) ?_; first | (simp only [fSlot, AVal.plain, plains, *, bs, go_sem]; done) | (simp_all [fSlot, AVal.plain, plains]; done) | (simp_all [fSlot, AVal.plain, plains]; omega) | grind [fSlot, AVal.plain, plains])
theorem find_Cap_spec {th : Int} {p : List Int} {o : Nat} {f r : Bool} (hS : H[oS]? = some (.arr 5 (s.slots.map Slot.cells) rS)) (hT : H[oT]? = some (.arr 13 (s.things.map Thing.cells) rT)) (ho : H[o]? = some (.arr 1 (ints p) r))
 (h : K (.tup [.int .i64 (fCap s th p).1, .agg (fCap s th p).2.1.cells, .int .i64 (fCap s th p).2.2]) H) : ACalls Tryz.prog 65 [stA s oS oT fS fT, .int .i64 th, .agg [.slice o p.length 0 p.length f]] H K := by
 have kT := Keeps.of hT
 have kS := Keeps.of hS
 have ko := Keeps.of ho
 have hg : (fSlot s th p).2 = 0 → (0 ≤ (fSlot s th p).1) = True ∧ ((fSlot s th p).1 < (s.slots.length : Int)) = True := fun h => ⟨eq_true (fSlot_ok h).2.2.2.1, eq_true (fSlot_ok h).2.2.2.2⟩
 have hg2 : (fSlot s th p).2 = 0 → _ := fun h => slots_get (s := s) (k := (fSlot s th p).1.toNat) (by have := (fSlot_ok h).2.2.2; omega)
 refine ACalls.tidy ?_
 refine into ok65 ?_; (try simp only [c65, w65, kS, kT, ko, hg, hg2, go_sem]); repeat' ((first | refine orR ?_ | (refine sp ?_ ?_ <;> intro hc) | refine find_Slot_spec (kS _) (kT _) (ko _) ?_ | refine cap_None_x ?_) <;> try simp only [*, w65, kS, kT, ko, hg, hg2, go_sem])
 all_goals (refine tv h (by first | exact ⟨_, rfl⟩ | exact ⟨[], (List.append_nil _).symm⟩ | exact hx | exact hx.app _) ?_; first | (simp only [fCap, Cap.cells, Cap.zero, AVal.plain, plains, *, bs, go_sem]; done) | (simp_all [fCap, Cap.cells, Cap.zero, AVal.plain, plains]; done) | (simp_all [fCap, Cap.cells, Cap.zero, AVal.plain, plains]; omega) | grind [fCap, Cap.cells, Cap.zero, AVal.plain, plains])
theorem find_Empty_spec {th : Int} {p : List Int} {o : Nat} {f r : Bool} (hS : H[oS]? = some (.arr 5 (s.slots.map Slot.cells) rS)) (hT : H[oT]? = some (.arr 13 (s.things.map Thing.cells) rT)) (ho : H[o]? = some (.arr 1 (ints p) r))
 (h : K (.tup [.int .i64 (fEmpty s th p).1, .int .i64 (fEmpty s th p).2]) H) : ACalls Tryz.prog 148 [stA s oS oT fS fT, .int .i64 th, .agg [.slice o p.length 0 p.length f]] H K := by
 have kT := Keeps.of hT
 have kS := Keeps.of hS
 have ko := Keeps.of ho
 have hg : (fSlot s th p).2 = 0 → (0 ≤ (fSlot s th p).1) = True ∧ ((fSlot s th p).1 < (s.slots.length : Int)) = True := fun h => ⟨eq_true (fSlot_ok h).2.2.2.1, eq_true (fSlot_ok h).2.2.2.2⟩
 have hg2 : (fSlot s th p).2 = 0 → _ := fun h => slots_get (s := s) (k := (fSlot s th p).1.toNat) (by have := (fSlot_ok h).2.2.2; omega)
 refine ACalls.tidy ?_
 refine into ok148 ?_; (try simp only [c148, w148, kS, kT, ko, hg, hg2, go_sem]); repeat' ((first | refine orR ?_ | (refine sp ?_ ?_ <;> intro hc) | refine find_Slot_spec (kS _) (kT _) (ko _) ?_ | refine cap_None_x ?_) <;> try simp only [*, w148, kS, kT, ko, hg, hg2, go_sem])
 all_goals (refine tv h (by first | exact ⟨_, rfl⟩ | exact ⟨[], (List.append_nil _).symm⟩ | exact hx | exact hx.app _) ?_; first | (simp only [fEmpty, AVal.plain, plains, *, bs, go_sem]; done) | (simp_all [fEmpty, AVal.plain, plains]; done) | (simp_all [fEmpty, AVal.plain, plains]; omega) | grind [fEmpty, AVal.plain, plains])
end
end Go.Proofs.YtlaipllgmddkiaaGreat.Ax

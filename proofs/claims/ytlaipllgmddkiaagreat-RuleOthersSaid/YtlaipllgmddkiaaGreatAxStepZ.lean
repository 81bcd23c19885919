/- Whatever operation passes the closed test tells true. Conditions: none. -/
import Derived.Test.YtlaipllgmddkiaaGreatAxMoreZ
set_option linter.all false
namespace Go.Ax
open Go Go.RowKit
theorem step_sound {P : Program} {B : Nat → Prop} {σ : Sig} {H H' : Heap} {w : World} {T : List AVal} {a : Act} {o : Oper} {v : AVal} {ao : AOp} (hok : okOp P ao o.op = true) (hs : aStep T H ao = some (v, H'))
 (hR : RelH B σ H w) (hT : VRs σ H T a.tmps.toList) : Yields P B σ H w (execOp a.eval o) v H' := by
 obtain ⟨dst, op, type, pos, after, guard⟩ := o
 simp only at hok
 unfold okOp at hok
 split at hok
 ·-- move
  simp only [aStep, Option.some.injEq, Prod.mk.injEq] at hs
  obtain ⟨rfl, rfl⟩ := hs
  exact Yields.pure hR (VR_arg hT hok) (by simp [execOp])
 ·simp only [aStep, Option.some.injEq, Prod.mk.injEq] at hs
  obtain ⟨rfl, rfl⟩ := hs
  exact Yields.pure hR (VR_arg hT hok) (by simp [execOp])
 ·simp only [Bool.and_eq_true] at hok
  exact s_pick rfl hok.1.1 hok.1.2 hok.2 hs hR hT
 ·simp only [Bool.and_eq_true, beq_iff_eq] at hok
  exact s_bin rfl hok.1.1 hok.1.2 hok.2 hs hR hT
 ·simp only [Bool.and_eq_true, beq_iff_eq] at hok
  exact s_sbin rfl hok.1.1 hok.1.2 hok.2 hs hR hT
 ·simp only [Bool.and_eq_true, beq_iff_eq] at hok
  obtain ⟨⟨⟨h1, h2⟩, h3⟩, h4⟩ := hok
  split at h4
  case h_2 => cases h4
  rename_i hu
  exact s_eqb rfl h1 h2 h3 hu hs hR hT
 ·simp only [Bool.and_eq_true, beq_iff_eq] at hok
  obtain ⟨⟨⟨⟨⟨h1, h2⟩, h3⟩, h4⟩, h5⟩, h6⟩ := hok
  exact s_eqs rfl h1 h2 h3 h4 h5 h6 hs hR hT
 ·simp only [Bool.and_eq_true, beq_iff_eq] at hok
  exact s_un rfl hok.1 hok.2 hs hR hT
 ·simp only [Bool.and_eq_true] at hok
  obtain ⟨h1, h2⟩ := hok
  split at h2
  case h_2 => cases h2
  rename_i fs hu
  split at h2
  case h_2 => cases h2
  rename_i fd hf
  simp only [Bool.and_eq_true, beq_iff_eq] at h2
  obtain ⟨h2, h3⟩ := h2
  split at h3
  case h_2 => cases h3
  rename_i i hi
  exact s_fld rfl h1 hu hf h2 hi (by simpa using h3) hs hR hT
 ·simp only [Bool.and_eq_true] at hok
  exact s_ld rfl hok.1 hok.2 hs hR hT
 ·simp only [Bool.and_eq_true] at hok
  exact s_st rfl hok.1.1 hok.1.2 hok.2 hs hR hT
 ·exact s_nck rfl hok hs hR hT
 ·simp only [Bool.and_eq_true] at hok
  obtain ⟨⟨h1, h2⟩, h3⟩ := hok
  split at h3
  case h_2 => cases h3
  rename_i m e hu
  simp only [Bool.and_eq_true, beq_iff_eq, sizeOk] at h3
  obtain ⟨rfl, h4⟩ := h3
  split at h4
  case h_2 => cases h4
  rename_i i hi
  exact s_ixa rfl h1 h2 hu hi (by simpa using h4) hs hR hT
 ·simp only [Bool.and_eq_true] at hok
  obtain ⟨⟨h1, h2⟩, h3⟩ := hok
  split at h3
  case h_2 => cases h3
  rename_i e hu
  simp only [sizeOk] at h3
  split at h3
  case h_2 => cases h3
  rename_i i hi
  exact s_ixs rfl h1 h2 hu hi (by simpa using h3) hs hR hT
 ·simp only [Bool.and_eq_true] at hok
  obtain ⟨⟨h1, h2⟩, h3⟩ := hok
  split at h3
  case h_2 => cases h3
  rename_i hu
  exact s_ixstr rfl h1 h2 hu hs hR hT
 ·simp only [Bool.and_eq_true] at hok
  obtain ⟨h1, h2⟩ := hok
  split at h1
  case h_2 => cases h1
  rename_i x' ha
  split at h2
  case h_2 => cases h2
  rename_i t hat
  split at h2
  ·rename_i hu
   subst h2
   exact s_len rfl rfl ha hat h1 hu (.inl ⟨rfl, rfl⟩) hs hR hT
  ·rename_i e hu
   simp only [Bool.not_eq_true'] at h2
   subst h2
   exact s_len rfl rfl ha hat h1 hu (.inr ⟨rfl, e, rfl⟩) hs hR hT
  ·cases h2
 ·simp only [Bool.and_eq_true, beq_iff_eq] at hok
  obtain ⟨h1, rfl⟩ := hok
  exact s_ext rfl h1 hs hR hT
 ·simp only [Bool.and_eq_true] at hok
  obtain ⟨h1, h2⟩ := hok
  refine s_build rfl h1 ?_ hs hR hT
  split at h2
  ·rename_i fs hu
   simp only [Bool.and_eq_true] at h2
   exact .inl ⟨fs, hu, h2.1, h2.2⟩
  ·rename_i n e hu
   split at h2
   case h_2 => cases h2
   rename_i i hi
   exact .inr ⟨n, e, i, hu, hi, h2⟩
  ·cases h2
 ·simp only [Bool.and_eq_true, beq_iff_eq, decide_eq_true_eq, bne_iff_ne, ne_eq] at hok
  obtain ⟨⟨⟨⟨rfl, h2⟩, h3⟩, h4⟩, h5⟩ := hok
  split at h5
  case h_2 => cases h5
  rename_i e hu
  simp only [Bool.and_eq_true, beq_iff_eq] at h5
  exact s_bsl rfl h5.1 hu h5.2 h4 h2 h3 hs hR hT
 ·exact s_box rfl hok hs hR hT
 ·exact s_new rfl hok hs hR hT
 ·simp only [Bool.and_eq_true, bne_iff_ne, ne_eq] at hok
  obtain ⟨⟨⟨h1, h2⟩, h3⟩, h4⟩ := hok
  split at h4
  case h_2 => cases h4
  rename_i e hu
  simp only [Bool.and_eq_true, beq_iff_eq] at h4
  obtain ⟨⟨h5, h6⟩, h7⟩ := h4
  split at h7
  case h_2 => cases h7
  rename_i i hi
  exact s_mks rfl h1 h2 h3 hu h5 h6 hi (by simpa using h7) hs hR hT
 ·simp only [Bool.and_eq_true, bne_iff_ne, ne_eq] at hok
  obtain ⟨⟨⟨h1, h2⟩, h3⟩, h4⟩ := hok
  split at h3
  case h_2 => cases h3
  rename_i s' x' ha
  simp only [Bool.and_eq_true] at h3
  split at h4
  case h_2 => cases h4
  rename_i t u hat
  split at h4
  case h_2 => cases h4
  rename_i e hu
  split at h4
  case h_2 => cases h4
  rename_i i hi
  simp only [Bool.and_eq_true, beq_iff_eq] at h4
  obtain ⟨⟨⟨⟨g1, g2⟩, g3⟩, g4⟩, g5⟩ := h4
  obtain ⟨z, hz⟩ := Option.isSome_iff_exists.1 g3
  rw [hz] at g4
  simp only [Option.map_some, Option.some.injEq] at g4
  split at g5
  ·rename_i hku
   exact s_app rfl rfl ha hat h3.1 h3.2 hu hi hz g1 g2 g4 h1 h2 (.inr hku) hs hR hT
  ·rename_i e' hku
   exact s_app rfl rfl ha hat h3.1 h3.2 hu hi hz g1 g2 g4 h1 h2 (.inl ⟨e', hku⟩) hs hR hT
  ·cases g5
 ·simp only [Bool.and_eq_true, beq_iff_eq] at hok
  obtain ⟨⟨⟨h1, h2⟩, h3⟩, h4⟩ := hok
  exact s_isNil rfl h1 h2 h3 h4 hs hR hT
 ·simp only [Bool.and_eq_true] at hok
  obtain ⟨h1, h2⟩ := hok
  split at h2
  case h_2 => cases h2
  rename_i hu
  exact s_rng rfl h1 hu hs hR hT
 ·simp only [Bool.and_eq_true] at hok
  exact s_nxt rfl hok.1 hok.2 hs hR hT
 ·simp only [Bool.and_eq_true] at hok
  obtain ⟨⟨⟨h1, h2⟩, h3⟩, h4⟩ := hok
  split at h4
  case h_2 => cases h4
  rename_i m e hu
  simp only [Bool.and_eq_true, beq_iff_eq, sizeOk] at h4
  obtain ⟨rfl, h5⟩ := h4
  split at h5
  case h_2 => cases h5
  rename_i i hi
  exact s_sla rfl h1 h2 h3 hu hi (by simpa using h5) hs hR hT
 ·simp only [Bool.and_eq_true, Bool.or_eq_true, Option.isNone_iff_eq_none] at hok
  obtain ⟨⟨⟨⟨⟨h1, h2⟩, h3⟩, h4⟩, h5⟩, h6⟩ := hok
  split at h6
  case h_2 => cases h6
  rename_i e hu
  simp only [sizeOk] at h6
  split at h6
  case h_2 => cases h6
  rename_i i hi
  exact s_sls rfl h1 h2 h3 h4 h5 hu hi (by simpa using h6) hs hR hT
 ·simp only [Bool.and_eq_true] at hok
  obtain ⟨⟨⟨h1, h2⟩, h3⟩, h4⟩ := hok
  split at h4
  case h_2 => cases h4
  rename_i hu
  exact s_sstr rfl h1 h2 h3 hu hs hR hT
 ·simp only [Bool.and_eq_true, beq_iff_eq] at hok
  exact s_mxn rfl rfl hok.1 hok.2 hs hR hT
 ·simp only [Bool.and_eq_true] at hok
  obtain ⟨⟨h1, h2⟩, h3⟩ := hok
  obtain ⟨ds, hds⟩ := Option.isSome_iff_exists.1 h2
  split at h3
  case h_2 => cases h3
  rename_i k' hu
  rw [← eq_of_beq h3] at hu
  exact s_cvt rfl h1 hds hu hs hR hT
 ·simp only [Bool.and_eq_true] at hok
  obtain ⟨⟨h1, h2⟩, h3⟩ := hok
  obtain ⟨ds, hds⟩ := Option.isSome_iff_exists.1 h2
  split at h3
  case h_2 => cases h3
  rename_i hu
  exact s_i2s rfl h1 hds hu hs hR hT
 ·simp only [Bool.and_eq_true, beq_iff_eq] at hok
  obtain ⟨⟨rfl, h1⟩, h2⟩ := hok
  exact s_mkf rfl h1 h2 hs hR hT
 ·exact s_mkm rfl hs hR hT
 ·simp only [Bool.and_eq_true, Bool.not_eq_true'] at hok
  obtain ⟨⟨⟨rfl, h1⟩, h2⟩, h3⟩ := hok
  split at h3
  case h_2 => cases h3
  rename_i kt e hu
  simp only [Bool.and_eq_true] at h3
  obtain ⟨h4, h5⟩ := h3
  split at h4
  case h_2 => cases h4
  rename_i kk hk
  exact s_mlk rfl h1 h2 hu hk h5 hs hR hT
 ·simp only [Bool.and_eq_true] at hok
  obtain ⟨⟨⟨h1, h2⟩, h3⟩, h4⟩ := hok
  split at h4
  case h_2 => cases h4
  rename_i kt e hu
  split at h4
  case h_2 => cases h4
  rename_i kk hk
  exact s_mup rfl h1 h2 h3 hu hk hs hR hT
 ·simp only [Bool.and_eq_true, bne_iff_ne, ne_eq] at hok
  obtain ⟨⟨h0, h1⟩, h2⟩ := hok
  split at h1
  case h_2 => cases h1
  rename_i d' s' ha
  split at h2
  case h_2 => cases h2
  rename_i t u hat
  split at h2
  case h_2 => cases h2
  rename_i e hu
  simp only [Bool.and_eq_true, sizeOk] at h2
  obtain ⟨h3, h4⟩ := h2
  split at h3
  case h_2 => cases h3
  rename_i i hi
  split at h4
  case h_2 => cases h4
  rename_i e2 hu2
  simp only [Bool.and_eq_true] at h1
  exact s_cpy rfl rfl ha hat h1.1 h1.2 hu hi (by simpa using h3) hu2 h0 hs hR hT
 ·cases hok
end Go.Ax

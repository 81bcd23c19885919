/- Whatever operation passes the closed test tells true. Conditions: none. -/
import Derived.Test.YtohgndhnndeijaaGreatZFl
set_option linter.all false
open Bool renaming and_eq_true -> Qa, not_eq_true' -> Qd
open Option renaming isSome_iff_exists -> Qb
open Option.some renaming injEq -> Qc
namespace Go.Ax
open Go Go.RowKit
theorem KX{P:Program}{B:Nat->Prop}{σ:B0}{H H':AP}{w:World}{T:List AH}{a:Act}{o:Oper}{v:AH}{ao:GS}(hok:OI P ao o.op=true)(hs:AV T H ao=some (v,H'))
 (hR:BL B σ H w) (hT:BQ σ H T a.tmps.toList):Yields P B σ H w (execOp a.eval o) v H':=by
 obtain⟨dst,op,type,pos,after,guard⟩:=o
 simp only at hok
 unfold OI at hok
 split at hok
 ·-- move
  simp only[AV,Qc,Prod.mk.injEq]at hs
  obtain⟨rfl,rfl⟩:=hs
  exact Yields.pure hR (Bi hT hok) (by simp[execOp])
 ·simp only[AV,Qc,Prod.mk.injEq]at hs
  obtain⟨rfl,rfl⟩:=hs
  exact Yields.pure hR (Bi hT hok) (by simp[execOp])
 ·simp only[Qa]at hok
  exact fm rfl hok.1.1 hok.1.2 hok.2 hs hR hT
 ·simp only[Qa,beq_iff_eq]at hok
  exact iq rfl hok.1.1 hok.1.2 hok.2 hs hR hT
 ·simp only[Qa,beq_iff_eq]at hok
  exact fo rfl hok.1.1 hok.1.2 hok.2 hs hR hT
 ·simp only[Qa,beq_iff_eq]at hok
  obtain⟨⟨⟨h1,h2⟩,h3⟩,h4⟩:=hok
  split at h4
  case h_2=>cases h4
  rename_i hu
  exact ix rfl h1 h2 h3 hu hs hR hT
 ·simp only[Qa,beq_iff_eq]at hok
  obtain⟨⟨⟨⟨⟨h1,h2⟩,h3⟩,h4⟩,h5⟩,h6⟩:=hok
  exact iy rfl h1 h2 h3 h4 h5 h6 hs hR hT
 ·simp only[Qa,beq_iff_eq]at hok
  exact m9 rfl hok.1 hok.2 hs hR hT
 ·simp only[Qa]at hok
  obtain⟨h1,h2⟩:=hok
  split at h2
  case h_2=>cases h2
  rename_i fs hu
  split at h2
  case h_2=>cases h2
  rename_i fd hf
  simp only[Qa,beq_iff_eq]at h2
  obtain⟨h2,h3⟩:=h2
  split at h3
  case h_2=>cases h3
  rename_i i hi
  exact kE rfl h1 hu hf h2 hi (by simpa using h3) hs hR hT
 ·simp only[Qa]at hok
  exact m7 rfl hok.1 hok.2 hs hR hT
 ·simp only[Qa]at hok
  exact m8 rfl hok.1.1 hok.1.2 hok.2 hs hR hT
 ·exact kR rfl hok hs hR hT
 ·simp only[Qa]at hok
  obtain⟨⟨h1,h2⟩,h3⟩:=hok
  split at h3
  case h_2=>cases h3
  rename_i m e hu
  simp only[Qa,beq_iff_eq,Ea]at h3
  obtain⟨rfl,h4⟩:=h3
  split at h4
  case h_2=>cases h4
  rename_i i hi
  exact s_ixa rfl h1 h2 hu hi (by simpa using h4) hs hR hT
 ·simp only[Qa]at hok
  obtain⟨⟨h1,h2⟩,h3⟩:=hok
  split at h3
  case h_2=>cases h3
  rename_i e hu
  simp only[Ea]at h3
  split at h3
  case h_2=>cases h3
  rename_i i hi
  exact kH rfl h1 h2 hu hi (by simpa using h3) hs hR hT
 ·simp only[Qa]at hok
  obtain⟨⟨h1,h2⟩,h3⟩:=hok
  split at h3
  case h_2=>cases h3
  rename_i hu
  exact dk rfl h1 h2 hu hs hR hT
 ·simp only[Qa]at hok
  obtain⟨h1,h2⟩:=hok
  split at h1
  case h_2=>cases h1
  rename_i x' ha
  split at h2
  case h_2=>cases h2
  rename_i t hat
  split at h2
  ·rename_i hu
   subst h2
   exact tA rfl rfl ha hat h1 hu (.inl ⟨rfl,rfl⟩) hs hR hT
  ·rename_i e hu
   simp only[Qd]at h2
   subst h2
   exact tA rfl rfl ha hat h1 hu (.inr ⟨rfl,e,rfl⟩) hs hR hT
  ·cases h2
 ·simp only[Qa,beq_iff_eq]at hok
  obtain⟨h1,rfl⟩:=hok
  exact iz rfl h1 hs hR hT
 ·simp only[Qa]at hok
  obtain⟨h1,h2⟩:=hok
  refine di rfl h1 ?_ hs hR hT
  split at h2
  ·rename_i fs hu
   simp only[Qa]at h2
   exact .inl ⟨fs,hu,h2.1,h2.2⟩
  ·rename_i n e hu
   split at h2
   case h_2=>cases h2
   rename_i i hi
   exact .inr ⟨n,e,i,hu,hi,h2⟩
  ·cases h2
 ·simp only[Qa,beq_iff_eq,decide_eq_true_eq,bne_iff_ne,ne_eq]at hok
  obtain⟨⟨⟨⟨rfl,h2⟩,h3⟩,h4⟩,h5⟩:=hok
  split at h5
  case h_2=>cases h5
  rename_i e hu
  simp only[Qa,beq_iff_eq]at h5
  exact iu rfl h5.1 hu h5.2 h4 h2 h3 hs hR hT
 ·exact ir rfl hok hs hR hT
 ·exact kU rfl hok hs hR hT
 ·simp only[Qa,bne_iff_ne,ne_eq]at hok
  obtain⟨⟨⟨h1,h2⟩,h3⟩,h4⟩:=hok
  split at h4
  case h_2=>cases h4
  rename_i e hu
  simp only[Qa,beq_iff_eq]at h4
  obtain⟨⟨h5,h6⟩,h7⟩:=h4
  split at h7
  case h_2=>cases h7
  rename_i i hi
  exact kK rfl h1 h2 h3 hu h5 h6 hi (by simpa using h7) hs hR hT
 ·simp only[Qa,bne_iff_ne,ne_eq]at hok
  obtain⟨⟨⟨h1,h2⟩,h3⟩,h4⟩:=hok
  split at h3
  case h_2=>cases h3
  rename_i s' x' ha
  simp only[Qa]at h3
  split at h4
  case h_2=>cases h4
  rename_i t u hat
  split at h4
  case h_2=>cases h4
  rename_i e hu
  split at h4
  case h_2=>cases h4
  rename_i i hi
  simp only[Qa,beq_iff_eq]at h4
  obtain⟨⟨⟨⟨g1,g2⟩,g3⟩,g4⟩,g5⟩:=h4
  obtain⟨z,hz⟩:=Qb.1 g3
  rw[hz]at g4
  simp only[Option.map_some,Qc]at g4
  split at g5
  ·rename_i hku
   exact eQ rfl rfl ha hat h3.1 h3.2 hu hi hz g1 g2 g4 h1 h2 (.inr hku) hs hR hT
  ·rename_i e' hku
   exact eQ rfl rfl ha hat h3.1 h3.2 hu hi hz g1 g2 g4 h1 h2 (.inl ⟨e',hku⟩) hs hR hT
  ·cases g5
 ·simp only[Qa,beq_iff_eq]at hok
  obtain⟨⟨⟨h1,h2⟩,h3⟩,h4⟩:=hok
  exact dj rfl h1 h2 h3 h4 hs hR hT
 ·simp only[Qa]at hok
  obtain⟨h1,h2⟩:=hok
  split at h2
  case h_2=>cases h2
  rename_i hu
  exact s_rng rfl h1 hu hs hR hT
 ·simp only[Qa]at hok
  exact kV rfl hok.1 hok.2 hs hR hT
 ·simp only[Qa]at hok
  obtain⟨⟨⟨h1,h2⟩,h3⟩,h4⟩:=hok
  split at h4
  case h_2=>cases h4
  rename_i m e hu
  simp only[Qa,beq_iff_eq,Ea]at h4
  obtain⟨rfl,h5⟩:=h4
  split at h5
  case h_2=>cases h5
  rename_i i hi
  exact kY rfl h1 h2 h3 hu hi (by simpa using h5) hs hR hT
 ·simp only[Qa,Bool.or_eq_true,Option.isNone_iff_eq_none]at hok
  obtain⟨⟨⟨⟨⟨h1,h2⟩,h3⟩,h4⟩,h5⟩,h6⟩:=hok
  split at h6
  case h_2=>cases h6
  rename_i e hu
  simp only[Ea]at h6
  split at h6
  case h_2=>cases h6
  rename_i i hi
  exact kZ rfl h1 h2 h3 h4 h5 hu hi (by simpa using h6) hs hR hT
 ·simp only[Qa]at hok
  obtain⟨⟨⟨h1,h2⟩,h3⟩,h4⟩:=hok
  split at h4
  case h_2=>cases h4
  rename_i hu
  exact fq rfl h1 h2 h3 hu hs hR hT
 ·simp only[Qa,beq_iff_eq]at hok
  exact kQ rfl rfl hok.1 hok.2 hs hR hT
 ·simp only[Qa]at hok
  obtain⟨⟨h1,h2⟩,h3⟩:=hok
  obtain⟨ds,hds⟩:=Qb.1 h2
  split at h3
  case h_2=>cases h3
  rename_i k' hu
  rw[<-eq_of_beq h3]at hu
  exact iw rfl h1 hds hu hs hR hT
 ·simp only[Qa]at hok
  obtain⟨⟨h1,h2⟩,h3⟩:=hok
  obtain⟨ds,hds⟩:=Qb.1 h2
  split at h3
  case h_2=>cases h3
  rename_i hu
  exact kF rfl h1 hds hu hs hR hT
 ·simp only[Qa,beq_iff_eq]at hok
  obtain⟨⟨rfl,h1⟩,h2⟩:=hok
  exact kI rfl h1 h2 hs hR hT
 ·exact kJ rfl hs hR hT
 ·simp only[Qa,Qd]at hok
  obtain⟨⟨⟨rfl,h1⟩,h2⟩,h3⟩:=hok
  split at h3
  case h_2=>cases h3
  rename_i kt e hu
  simp only[Qa]at h3
  obtain⟨h4,h5⟩:=h3
  split at h4
  case h_2=>cases h4
  rename_i kk hk
  exact kM rfl h1 h2 hu hk h5 hs hR hT
 ·simp only[Qa]at hok
  obtain⟨⟨⟨h1,h2⟩,h3⟩,h4⟩:=hok
  split at h4
  case h_2=>cases h4
  rename_i kt e hu
  split at h4
  case h_2=>cases h4
  rename_i kk hk
  exact kN rfl h1 h2 h3 hu hk hs hR hT
 ·simp only[Qa,bne_iff_ne,ne_eq]at hok
  obtain⟨⟨h0,h1⟩,h2⟩:=hok
  split at h1
  case h_2=>cases h1
  rename_i d' s' ha
  split at h2
  case h_2=>cases h2
  rename_i t u hat
  split at h2
  case h_2=>cases h2
  rename_i e hu
  simp only[Qa,Ea]at h2
  obtain⟨h3,h4⟩:=h2
  split at h3
  case h_2=>cases h3
  rename_i i hi
  split at h4
  case h_2=>cases h4
  rename_i e2 hu2
  simp only[Qa]at h1
  exact iv rfl rfl ha hat h1.1 h1.2 hu hi (by simpa using h3) hu2 h0 hs hR hT
 ·simp only[Qa]at hok
  obtain⟨h1,h2⟩:=hok
  split at h2
  case h_2=>cases h2
  rename_i fs hu
  split at h2
  case h_2=>cases h2
  rename_i fd hf
  simp only[Qa,beq_iff_eq]at h2
  exact s_part rfl h1 hu hf h2.1.1 h2.1.2 h2.2 hs hR hT
 ·simp only[Qa,bne_iff_ne,ne_eq]at hok
  obtain⟨⟨h0,h1⟩,h2⟩:=hok
  split at h1
  case h_2=>cases h1
  rename_i x' ha
  split at h2
  case h_2=>cases h2
  rename_i t hat
  split at h2
  case h_2=>cases h2
  rename_i e hu
  simp only[Qa,beq_iff_eq]at h2
  exact s_clr rfl rfl ha hat h1 hu h2.1 h2.2 h0 hs hR hT
 ·exact s_flo rfl hok hs hR hT
 ·cases hok
end Go.Ax

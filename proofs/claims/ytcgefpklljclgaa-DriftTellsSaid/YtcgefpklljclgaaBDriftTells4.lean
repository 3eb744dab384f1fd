/- DriftTells: a part -/
import Derived.Laws.Strings
import Derived.Shelf.Abstract
import Derived.StillTailTactics
import Derived.Laws.Cover1
import Derived.WalkSpells
import Derived.Lib.SliceRun
import Derived.Lib.JoinLaws
import Derived.Lib.AppendZerosOnto
import Derived.Lib.Overlaps
import Derived.Laws.Externs
import Derived.Laws.IdiomCopy
import Derived.Laws.NewBlocks
import Derived.Deep.RegionLaw
import Derived.Shelf.RegionOpenPlain
import Derived.Test.YtcgefpklljclgaaRows
import Derived.WalkKit
import Derived.ProofKit
import Derived.OpenShut
import Derived.JoinedOf
import Derived.SizedLaws
import Derived.ChangeSlices
import Derived.Test.YtcgefpklljclgaaBDriftTells0
import Derived.Test.YtcgefpklljclgaaBDriftTells1
import Derived.Test.YtcgefpklljclgaaBDriftTells2
import Derived.Test.YtcgefpklljclgaaBDriftTells3
set_option linter.unusedVariables false
set_option linter.unusedSimpArgs false
namespace Go.Proofs.Ytcgefpklljclgaa.Print
open Go.RowKit Go.Proofs.YtcgefpklljclgaaW.PrintWords Go.Proofs.YtcgefpklljclgaaW.PrintLast Go.Proofs.YtcgefpklljclgaaW.PrintMore
attribute [local go_sem] max2_int min2_int max_two min_two max_three min_three max_four min_four

attribute [local go_sem high] eqA27 eqA37
mutual
def law17_DriftTells.l0:Nat→List (S54)→List (S31)→List (S37)→Int→Int→Option (Bool)
 |0,_,_,_,_,_=>none
 |k+1,x5,x6,x7,x8,x9=>if x9<(x5.length:Int) then (if 0≤x9 then ((r10_Find.f k x6 ((rd_T54 x5 x9).f0)).bind fun t19=>(if t19<0 then (law17_DriftTells.j2 k x5 x6 x7 x8 x9 (([1]:List Int))) else (if 0≤t19 then (if t19<(x6.length:Int) then (if ((rd_T31 x6 t19).f1).toList=((rd_T54 x5 x9).f1).toList then (law17_DriftTells.j1 k x5 x6 x7 x8 x9 t19 ([]:List Int) false) else (law17_DriftTells.j1 k x5 x6 x7 x8 x9 t19 ([]:List Int) (!(((rd_T31 x6 t19).f2.f0)==((rd_T54 x5 x9).f2.f0))||(!(((rd_T31 x6 t19).f2.f1)==((rd_T54 x5 x9).f2.f1))||(!(((rd_T31 x6 t19).f2.f2)==((rd_T54 x5 x9).f2.f2))))))) else (none)) else (none)))) else (none)) else ((drift_Fresh.f k x5 x6).bind fun t43=>(if x8=(x7.length:Int) then ((drift_Of.f t43 x6).bind fun t46=>(if (t46.length:Int)=0 then ((drift_Fresh.f k t43 x6).bind fun t49=>((r16_SameMarks.f k t49 t43).bind fun t52=>(if t52=true then ((law17_awake.f).bind fun t53=>(some t53)) else (none)))) else (none))) else (none)))
def law17_DriftTells.j2:Nat→List (S54)→List (S31)→List (S37)→Int→Int→List Int→Option (Bool)
 |0,_,_,_,_,_,_=>none
 |k+1,x5,x6,x7,x8,x9,x11=>law17_DriftTells.l1 k x5 x6 x7 x8 x9 x11 0
def law17_DriftTells.l1:Nat→List (S54)→List (S31)→List (S37)→Int→Int→List Int→Int→Option (Bool)
 |0,_,_,_,_,_,_,_=>none
 |k+1,x5,x6,x7,x8,x9,x11,x12=>if x12<(x11.length:Int) then (if x8≥(x7.length:Int) then (none) else (if 0≤x8 then (if x8<(x7.length:Int) then (if 0≤x9 then (if x9<(x5.length:Int) then (if 0≤x12 then (if (!((((rd_T37 x7 x8).f0).toList)==(((rd_T54 x5 x9).f0).toList))||(!(((rd_T37 x7 x8).f1)==(rd x11 x12))))=true then (none) else (law17_DriftTells.l1 k x5 x6 x7 (wrap64 (x8+1)) x9 x11 (wrap64 (x12+1)))) else (none)) else (none)) else (none)) else (none)) else (none))) else (law17_DriftTells.l0 k x5 x6 x7 x8 (wrap64 (x9+1)))
def law17_DriftTells.j1:Nat→List (S54)→List (S31)→List (S37)→Int→Int→Int→List Int→Bool→Option (Bool)
 |0,_,_,_,_,_,_,_,_=>none
 |k+1,x5,x6,x7,x8,x9,x10,x11,x45=>if x45=true then (law17_DriftTells.j2 k x5 x6 x7 x8 x9 (([2,3]:List Int))) else (if 0≤x10 then (if x10<(x6.length:Int) then (if 0≤x9 then (if x9<(x5.length:Int) then (if ((rd_T31 x6 x10).f1).toList=((rd_T54 x5 x9).f1).toList then (if (!(((rd_T31 x6 x10).f2.f0)==((rd_T54 x5 x9).f2.f0))||(!(((rd_T31 x6 x10).f2.f1)==((rd_T54 x5 x9).f2.f1))||(!(((rd_T31 x6 x10).f2.f2)==((rd_T54 x5 x9).f2.f2)))))=true then (law17_DriftTells.j2 k x5 x6 x7 x8 x9 (([3]:List Int))) else (law17_DriftTells.j2 k x5 x6 x7 x8 x9 x11)) else (law17_DriftTells.j2 k x5 x6 x7 x8 x9 (([2]:List Int)))) else (none)) else (none)) else (none)) else (none))
end
def law17_DriftTells.f (k:Nat) (l0:List Int) (l1:List Int):Option (Bool):=if (l0.length:Int)>60 then ((law17_awake.f).bind fun t1=>(some t1)) else ((law16_Make.f k l0 ([]:List Int) 0).bind fun bt2=>((law12_Make.f k l0).bind fun t9=>((law17_Turned.f k t9 l1).bind fun t12=>((drift_Of.f bt2.1 t12).bind fun t15=>(law17_DriftTells.l0 k bt2.1 t12 t15 0 0)))))
theorem law17_DriftTells.mono_l: ∀k,(∀y0 y1 y2 y3 y4,LeO (law17_DriftTells.l0 k y0 y1 y2 y3 y4) (law17_DriftTells.l0 (k+1) y0 y1 y2 y3 y4))∧(∀y0 y1 y2 y3 y4 y5,LeO (law17_DriftTells.j2 k y0 y1 y2 y3 y4 y5) (law17_DriftTells.j2 (k+1) y0 y1 y2 y3 y4 y5))∧(∀y0 y1 y2 y3 y4 y5 y6,LeO (law17_DriftTells.l1 k y0 y1 y2 y3 y4 y5 y6) (law17_DriftTells.l1 (k+1) y0 y1 y2 y3 y4 y5 y6))∧(∀y0 y1 y2 y3 y4 y5 y6 y7,LeO (law17_DriftTells.j1 k y0 y1 y2 y3 y4 y5 y6 y7) (law17_DriftTells.j1 (k+1) y0 y1 y2 y3 y4 y5 y6 y7))
 |0=>⟨fun _ _ _ _ _ r h=>by simp [law17_DriftTells.l0] at h,fun _ _ _ _ _ _ r h=>by simp [law17_DriftTells.j2] at h,fun _ _ _ _ _ _ _ r h=>by simp [law17_DriftTells.l1] at h,fun _ _ _ _ _ _ _ _ r h=>by simp [law17_DriftTells.j1] at h⟩
 |k+1=>by
  obtain ⟨ih0,ih1,ih2,ih3⟩:=law17_DriftTells.mono_l k
  refine ⟨?_, ?_, ?_, ?_⟩
  ·intro y0 y1 y2 y3 y4
   unfold law17_DriftTells.l0
   repeat' first
   |(with_reducible exact ih0 _ _ _ _ _)
   |(with_reducible exact ih1 _ _ _ _ _ _)
   |(with_reducible exact ih2 _ _ _ _ _ _ _)
   |(with_reducible exact ih3 _ _ _ _ _ _ _ _)
   |(with_reducible exact drift_Fresh.mono _ _ _)
   |(with_reducible exact law12_Make.mono _ _)
   |(with_reducible exact law16_Make.mono _ _ _ _)
   |(with_reducible exact law17_Turned.mono _ _ _)
   |(with_reducible exact r10_Find.mono _ _ _)
   |(with_reducible exact r16_SameMarks.mono _ _ _)
   |(with_reducible exact LeO.refl _)
   |(with_reducible exact LeO.none _)
   |(with_reducible refine LeO.ite ?_ ?_)
   |(with_reducible refine LeO.bind ?_ (fun _=> ?_))
   |exact ih0 _ _ _ _ _
   |exact ih1 _ _ _ _ _ _
   |exact ih2 _ _ _ _ _ _ _
   |exact ih3 _ _ _ _ _ _ _ _
   |exact drift_Fresh.mono _ _ _
   |exact law12_Make.mono _ _
   |exact law16_Make.mono _ _ _ _
   |exact law17_Turned.mono _ _ _
   |exact r10_Find.mono _ _ _
   |exact r16_SameMarks.mono _ _ _
   |exact LeO.none _
   |refine LeO.ite ?_ ?_
   |refine LeO.bind ?_ (fun _=> ?_)
  ·intro y0 y1 y2 y3 y4 y5
   unfold law17_DriftTells.j2
   repeat' first
   |(with_reducible exact ih0 _ _ _ _ _)
   |(with_reducible exact ih1 _ _ _ _ _ _)
   |(with_reducible exact ih2 _ _ _ _ _ _ _)
   |(with_reducible exact ih3 _ _ _ _ _ _ _ _)
   |(with_reducible exact drift_Fresh.mono _ _ _)
   |(with_reducible exact law12_Make.mono _ _)
   |(with_reducible exact law16_Make.mono _ _ _ _)
   |(with_reducible exact law17_Turned.mono _ _ _)
   |(with_reducible exact r10_Find.mono _ _ _)
   |(with_reducible exact r16_SameMarks.mono _ _ _)
   |(with_reducible exact LeO.refl _)
   |(with_reducible exact LeO.none _)
   |(with_reducible refine LeO.ite ?_ ?_)
   |(with_reducible refine LeO.bind ?_ (fun _=> ?_))
   |exact ih0 _ _ _ _ _
   |exact ih1 _ _ _ _ _ _
   |exact ih2 _ _ _ _ _ _ _
   |exact ih3 _ _ _ _ _ _ _ _
   |exact drift_Fresh.mono _ _ _
   |exact law12_Make.mono _ _
   |exact law16_Make.mono _ _ _ _
   |exact law17_Turned.mono _ _ _
   |exact r10_Find.mono _ _ _
   |exact r16_SameMarks.mono _ _ _
   |exact LeO.none _
   |refine LeO.ite ?_ ?_
   |refine LeO.bind ?_ (fun _=> ?_)
  ·intro y0 y1 y2 y3 y4 y5 y6
   unfold law17_DriftTells.l1
   repeat' first
   |(with_reducible exact ih0 _ _ _ _ _)
   |(with_reducible exact ih1 _ _ _ _ _ _)
   |(with_reducible exact ih2 _ _ _ _ _ _ _)
   |(with_reducible exact ih3 _ _ _ _ _ _ _ _)
   |(with_reducible exact drift_Fresh.mono _ _ _)
   |(with_reducible exact law12_Make.mono _ _)
   |(with_reducible exact law16_Make.mono _ _ _ _)
   |(with_reducible exact law17_Turned.mono _ _ _)
   |(with_reducible exact r10_Find.mono _ _ _)
   |(with_reducible exact r16_SameMarks.mono _ _ _)
   |(with_reducible exact LeO.refl _)
   |(with_reducible exact LeO.none _)
   |(with_reducible refine LeO.ite ?_ ?_)
   |(with_reducible refine LeO.bind ?_ (fun _=> ?_))
   |exact ih0 _ _ _ _ _
   |exact ih1 _ _ _ _ _ _
   |exact ih2 _ _ _ _ _ _ _
   |exact ih3 _ _ _ _ _ _ _ _
   |exact drift_Fresh.mono _ _ _
   |exact law12_Make.mono _ _
   |exact law16_Make.mono _ _ _ _
   |exact law17_Turned.mono _ _ _
   |exact r10_Find.mono _ _ _
   |exact r16_SameMarks.mono _ _ _
   |exact LeO.none _
   |refine LeO.ite ?_ ?_
   |refine LeO.bind ?_ (fun _=> ?_)
  intro y0 y1 y2 y3 y4 y5 y6 y7
  unfold law17_DriftTells.j1
  repeat' first
  |(with_reducible exact ih0 _ _ _ _ _)
  |(with_reducible exact ih1 _ _ _ _ _ _)
  |(with_reducible exact ih2 _ _ _ _ _ _ _)
  |(with_reducible exact ih3 _ _ _ _ _ _ _ _)
  |(with_reducible exact drift_Fresh.mono _ _ _)
  |(with_reducible exact law12_Make.mono _ _)
  |(with_reducible exact law16_Make.mono _ _ _ _)
  |(with_reducible exact law17_Turned.mono _ _ _)
  |(with_reducible exact r10_Find.mono _ _ _)
  |(with_reducible exact r16_SameMarks.mono _ _ _)
  |(with_reducible exact LeO.refl _)
  |(with_reducible exact LeO.none _)
  |(with_reducible refine LeO.ite ?_ ?_)
  |(with_reducible refine LeO.bind ?_ (fun _=> ?_))
  |exact ih0 _ _ _ _ _
  |exact ih1 _ _ _ _ _ _
  |exact ih2 _ _ _ _ _ _ _
  |exact ih3 _ _ _ _ _ _ _ _
  |exact drift_Fresh.mono _ _ _
  |exact law12_Make.mono _ _
  |exact law16_Make.mono _ _ _ _
  |exact law17_Turned.mono _ _ _
  |exact r10_Find.mono _ _ _
  |exact r16_SameMarks.mono _ _ _
  |exact LeO.none _
  |refine LeO.ite ?_ ?_
  |refine LeO.bind ?_ (fun _=> ?_)
theorem law17_DriftTells.mono: ∀a0 a1 k,LeO (law17_DriftTells.f k a0 a1) (law17_DriftTells.f (k+1) a0 a1):=by
 intro a0 a1 k
 obtain ⟨ih0,ih1,ih2,ih3⟩:=law17_DriftTells.mono_l k
 unfold law17_DriftTells.f
 repeat' first
  |(with_reducible exact ih0 _ _ _ _ _)
  |(with_reducible exact ih1 _ _ _ _ _ _)
  |(with_reducible exact ih2 _ _ _ _ _ _ _)
  |(with_reducible exact ih3 _ _ _ _ _ _ _ _)
  |(with_reducible exact drift_Fresh.mono _ _ _)
  |(with_reducible exact law12_Make.mono _ _)
  |(with_reducible exact law16_Make.mono _ _ _ _)
  |(with_reducible exact law17_Turned.mono _ _ _)
  |(with_reducible exact r10_Find.mono _ _ _)
  |(with_reducible exact r16_SameMarks.mono _ _ _)
  |(with_reducible exact LeO.refl _)
  |(with_reducible exact LeO.none _)
  |(with_reducible refine LeO.ite ?_ ?_)
  |(with_reducible refine LeO.bind ?_ (fun _=> ?_))
  |exact ih0 _ _ _ _ _
  |exact ih1 _ _ _ _ _ _
  |exact ih2 _ _ _ _ _ _ _
  |exact ih3 _ _ _ _ _ _ _ _
  |exact drift_Fresh.mono _ _ _
  |exact law12_Make.mono _ _
  |exact law16_Make.mono _ _ _ _
  |exact law17_Turned.mono _ _ _
  |exact r10_Find.mono _ _ _
  |exact r16_SameMarks.mono _ _ _
  |exact LeO.none _
  |refine LeO.ite ?_ ?_
  |refine LeO.bind ?_ (fun _=> ?_)
theorem run_fld3_0 {P:Program} {a b c:Value} {t:Nat} {f0 f1 f2:Field} {w:World} (h:P.underlying t=some (.struct #[f0,f1,f2])) (h1:f0.offset=0) (h2: ∀w,Sem.run P (isAgg f0.type) w= .ok false w):Sem.run P (Instr.field t (.agg #[a,b,c]) 0) w= .ok a w:=by
 simp [Instr.field,underlying,h,h1,asAgg,part,h2]
theorem isAggSl {P:Program} {t e:Nat} (h:P.underlying t=some (.slice e)): ∀w,Sem.run P (isAgg t) w= .ok false w:=by
 intro w
 simp [isAgg,underlying,h]
set_option maxHeartbeats 80000000 in
set_option maxRecDepth 100000 in
theorem law17_DriftTells.calls (k:Nat) (A0:Option Addr) (c0:Nat) (l0:List Int) (A1:Option Addr) (c1:Nat) (l1:List Int) (r:Bool) (w:World) (hr0:Kd.C (Kd.int .u8) w A0 l0.length l0) (hc0:l0.length≤c0) (hr1:Kd.C (Kd.int .u8) w A1 l1.length l1) (hc1:l1.length≤c1) (h:law17_DriftTells.f k l0 l1=some r):
  Calls Try.prog 5 #[.slice A0 l0.length c0, .slice A1 l1.length c1] w fun e w'=>e= .returned (.bool r)∧Below w.heap.size w w':=by
 have hu27:=Try.underlying27
 have hu37:=Try.underlying37
 have HR0:=Aside0.mk hr0
 have HC0:=Aside0.mk hc0
 clear hr0 hc0
 have HR1:=Aside0.mk hr1
 have HC1:=Aside0.mk hc1
 clear hr1 hc1
 have HB:=am_ (Below.refl w.heap.size w)
 have H:(if (l0.length:Int)>60 then ((law17_awake.f).bind fun t1=>(some t1)) else ((law16_Make.f k l0 ([]:List Int) 0).bind fun bt2=>((law12_Make.f k l0).bind fun t9=>((law17_Turned.f k t9 l1).bind fun t12=>((drift_Of.f bt2.1 t12).bind fun t15=>(law17_DriftTells.l0 k bt2.1 t12 t15 0 0))))))=some r:=h
 clear h
 by_cases c3:(l0.length:Int)>60
 ·rw [if_pos c3] at H
  have c3b0:decide (60<(l0.length:Int))=true:=decide_eq_true c3
  have c3b1:decide (60<l0.length)=true:=decide_eq_true (by omega)
  clear c3
  replace H:=Option.bind_eq_some_iff.mp H
  obtain ⟨t1,A40,H⟩:=H
  try dsimp only at H
  have A4:=Aside0.mk A40
  clear A40
  obtain rfl:=Option.some.inj H
  go_enter Try.func5,Try.ntmps5
  go_wp2_with (first|(go_at_call 38;(with_reducible refine (law17_awake.calls t1 _ A4.out).mono ?_);rintro e w5 ⟨rfl,hb⟩;replace HB:=am_ (below_step (zl0_ HB) hb);(try clear hb);(try clear hb2);(try clear hk);(try clear hi)))
  repeat (go_quiet (first|(go_at_call 38;(with_reducible refine (law17_awake.calls t1 _ A4.out).mono ?_);rintro e w5 ⟨rfl,hb⟩;replace HB:=am_ (below_step (zl0_ HB) hb);(try clear hb);(try clear hb2);(try clear hk);(try clear hi)));try go_wp2_with (first|(go_at_call 38;(with_reducible refine (law17_awake.calls t1 _ A4.out).mono ?_);rintro e w5 ⟨rfl,hb⟩;replace HB:=am_ (below_step (zl0_ HB) hb);(try clear hb);(try clear hb2);(try clear hk);(try clear hi))))
  go_ret
  exact ⟨by first|rfl|(simp [errW_none,errW_some]<;>rfl)|(simp [*,errW_none,errW_some]<;>rfl),zl0_ HB⟩
 rw [if_neg c3] at H
 have c3b0:decide (60<(l0.length:Int))=false:=decide_eq_false c3
 have c3b1:decide (60<l0.length)=false:=decide_eq_false (by omega)
 clear c3
 replace H:=Option.bind_eq_some_iff.mp H
 obtain ⟨⟨t2,t5,t8⟩,A60,H⟩:=H
 try dsimp only at H
 have A6:=Aside0.mk A60
 clear A60
 replace H:=Option.bind_eq_some_iff.mp H
 obtain ⟨t9,A70,H⟩:=H
 try dsimp only at H
 have A7:=Aside0.mk A70
 clear A70
 replace H:=Option.bind_eq_some_iff.mp H
 obtain ⟨t12,A80,H⟩:=H
 try dsimp only at H
 have A8:=Aside0.mk A80
 clear A80
 replace H:=Option.bind_eq_some_iff.mp H
 obtain ⟨t15,A90,H⟩:=H
 try dsimp only at H
 have A9:=Aside0.mk A90
 clear A90
 have H':=Aside0.mk H
 clear H
 go_enter Try.func5,Try.ntmps5
 go_wp2_with (first|(go_at_call 48;(refine (law16_Make.calls k _ _ l0 _ _ ([]:List Int) 0 t2 t5 t8 _ ?side1 ?side2 ?side3 ?side4 A6.out).mono ?_);(case side1=>repeat (first|exact HR0.out|(with_reducible refine Kd.C_alloc ?_ _)|(with_reducible refine Kd.C_drewN ?_ _)|(with_reducible refine Kd.C_drew ?_)));(case side2=>exact HC0.out);(case side3=>exact Kd.C_nil _ _);(case side4=>exact Nat.le_refl _);rintro e w10 ⟨v3,v6,rfl,ho0,ho1,hb⟩;have HO4:=am_ (Kd.R_lower ho0 (below_size (zl0_ HB)));have HO7:=am_ (Kd.R_lower ho1 (below_size (zl0_ HB)));replace HB:=am_ (below_step (zl0_ HB) hb);(try clear hb);(try clear hb2);(try clear hk);(try clear hi);(try clear ho0);(try clear ho1))|(go_at_call 32;(with_reducible refine (law12_Make.calls k _ _ l0 t9 _ ?side1 ?side2 A7.out).mono ?_);(case side1=>exact zc_ (Kd.C_below HR0.out HB.out));(case side2=>exact HC0.out);rintro e w11 ⟨v10,rfl,ho0,hb⟩;replace HO4:=am_ (Kd.R_below (zr_ HO4) hb);replace HO7:=am_ (Kd.R_below (zr_ HO7) hb);have HO11:=am_ (Kd.R_lower ho0 (below_size (zl0_ HB)));replace HB:=am_ (below_step (zl0_ HB) hb);(try clear hb);(try clear hb2);(try clear hk);(try clear hi);(try clear ho0);obtain ⟨Ao12,co12,eo12⟩:=Kd.R_slice HO11.out;subst eo12)|(go_at_call 49;(with_reducible refine (law17_Turned.calls k (fun k_=>some k_=(.slice Ao12 t9.length co12:Value).ownBlock) _ _ t9 _ _ l1 t12 _ ?side1 ?side2 ?side3 A8.out).mono ?_);(case side1=>exact Kd.R_V (Kd.R_tight rfl (Kd.R_apart' (Kd.R_apart' (HO11.out) (Kd.R_typed HO4.out) (by decide)) (Kd.R_typed HO7.out) (by decide))));(case side2=>exact zc_ (Kd.C_below HR1.out HB.out));(case side3=>exact HC1.out);rintro e w13 ⟨v13,rfl,ho0,hb⟩;have HO14:=am_ (Kd.V_lower (Kd.V_mono (ok':=fun k_=>some k_≠(v3:Value).ownBlock∧some k_≠(v6:Value).ownBlock) ho0 (fun k_ hk_=>⟨Or.elim hk_ (fun hs_=>((Kd.R_apart' (Kd.R_apart' (HO11.out) (Kd.R_typed HO4.out) (by decide)) (Kd.R_typed HO7.out) (by decide)).1 k_ hs_.symm).1.2) (fun hn_=>(Kd.fresh' (Kd.R_lt (zr_ HO4)) k_ hn_)),Or.elim hk_ (fun hs_=>((Kd.R_apart' (Kd.R_apart' (HO11.out) (Kd.R_typed HO4.out) (by decide)) (Kd.R_typed HO7.out) (by decide)).1 k_ hs_.symm).2) (fun hn_=>(Kd.fresh' (Kd.R_lt (zr_ HO7)) k_ hn_))⟩)) (below_size (zl0_ HB)));replace HO4:=am_ (Kd.R_below (zr_ HO4) hb);replace HO7:=am_ (Kd.R_below (zr_ HO7) hb);replace HO11:=am_ (Kd.R_below (zr_ HO11) hb);replace HB:=am_ (below_step (zl0_ HB) hb);(try clear hb);(try clear hb2);(try clear hk);(try clear hi);(try clear ho0);obtain ⟨Ao14,co14,eo14⟩:=Kd.R_slice HO4.out;subst eo14;obtain ⟨Ao15,co15,eo15⟩:=Kd.V_slice HO14.out;subst eo15)|(go_at_call 43;(with_reducible refine (drift_Of.calls _ _ t2 _ _ t12 t15 _ ?side1 ?side2 ?side3 ?side4 A9.out).mono ?_);(case side1=>exact zc_ (Kd.R_reads' HO4.out).2.2);(case side2=>exact (Kd.R_reads' HO4.out).2.1);(case side3=>exact zc_ (Kd.V_reads' HO14.out).2.2);(case side4=>exact (Kd.V_reads' HO14.out).2.1);rintro e w16 ⟨v16,rfl,ho0,hb⟩;replace HO4:=am_ (Kd.R_below (zr_ HO4) hb);replace HO7:=am_ (Kd.R_below (zr_ HO7) hb);replace HO11:=am_ (Kd.R_below (zr_ HO11) hb);replace HO14:=am_ (Kd.V_elder' (by (with_reducible repeat (first|apply Kd.V_alloc|apply Kd.V_drewN|apply Kd.V_drew));exact HO14.out) (Kd.R_base ho0) hb);have HO17:=am_ (Kd.R_lower ho0 (below_size (zl0_ HB)));replace HB:=am_ (below_step (zl0_ HB) hb);(try clear hb);(try clear hb2);(try clear hk);(try clear hi);(try clear ho0)))
 rw [run_fld3_0 Try.underlying42 rfl (isAggSl Try.underlying35)]
 go_wp2_with (first|(go_at_call 48;(refine (law16_Make.calls k _ _ l0 _ _ ([]:List Int) 0 t2 t5 t8 _ ?side1 ?side2 ?side3 ?side4 A6.out).mono ?_);(case side1=>repeat (first|exact HR0.out|(with_reducible refine Kd.C_alloc ?_ _)|(with_reducible refine Kd.C_drewN ?_ _)|(with_reducible refine Kd.C_drew ?_)));(case side2=>exact HC0.out);(case side3=>exact Kd.C_nil _ _);(case side4=>exact Nat.le_refl _);rintro e w10 ⟨v3,v6,rfl,ho0,ho1,hb⟩;have HO4:=am_ (Kd.R_lower ho0 (below_size (zl0_ HB)));have HO7:=am_ (Kd.R_lower ho1 (below_size (zl0_ HB)));replace HB:=am_ (below_step (zl0_ HB) hb);(try clear hb);(try clear hb2);(try clear hk);(try clear hi);(try clear ho0);(try clear ho1))|(go_at_call 32;(with_reducible refine (law12_Make.calls k _ _ l0 t9 _ ?side1 ?side2 A7.out).mono ?_);(case side1=>exact zc_ (Kd.C_below HR0.out HB.out));(case side2=>exact HC0.out);rintro e w11 ⟨v10,rfl,ho0,hb⟩;replace HO4:=am_ (Kd.R_below (zr_ HO4) hb);replace HO7:=am_ (Kd.R_below (zr_ HO7) hb);have HO11:=am_ (Kd.R_lower ho0 (below_size (zl0_ HB)));replace HB:=am_ (below_step (zl0_ HB) hb);(try clear hb);(try clear hb2);(try clear hk);(try clear hi);(try clear ho0);obtain ⟨Ao12,co12,eo12⟩:=Kd.R_slice HO11.out;subst eo12)|(go_at_call 49;(with_reducible refine (law17_Turned.calls k (fun k_=>some k_=(.slice Ao12 t9.length co12:Value).ownBlock) _ _ t9 _ _ l1 t12 _ ?side1 ?side2 ?side3 A8.out).mono ?_);(case side1=>exact Kd.R_V (Kd.R_tight rfl (Kd.R_apart' (Kd.R_apart' (HO11.out) (Kd.R_typed HO4.out) (by decide)) (Kd.R_typed HO7.out) (by decide))));(case side2=>exact zc_ (Kd.C_below HR1.out HB.out));(case side3=>exact HC1.out);rintro e w13 ⟨v13,rfl,ho0,hb⟩;have HO14:=am_ (Kd.V_lower (Kd.V_mono (ok':=fun k_=>some k_≠(v3:Value).ownBlock∧some k_≠(v6:Value).ownBlock) ho0 (fun k_ hk_=>⟨Or.elim hk_ (fun hs_=>((Kd.R_apart' (Kd.R_apart' (HO11.out) (Kd.R_typed HO4.out) (by decide)) (Kd.R_typed HO7.out) (by decide)).1 k_ hs_.symm).1.2) (fun hn_=>(Kd.fresh' (Kd.R_lt (zr_ HO4)) k_ hn_)),Or.elim hk_ (fun hs_=>((Kd.R_apart' (Kd.R_apart' (HO11.out) (Kd.R_typed HO4.out) (by decide)) (Kd.R_typed HO7.out) (by decide)).1 k_ hs_.symm).2) (fun hn_=>(Kd.fresh' (Kd.R_lt (zr_ HO7)) k_ hn_))⟩)) (below_size (zl0_ HB)));replace HO4:=am_ (Kd.R_below (zr_ HO4) hb);replace HO7:=am_ (Kd.R_below (zr_ HO7) hb);replace HO11:=am_ (Kd.R_below (zr_ HO11) hb);replace HB:=am_ (below_step (zl0_ HB) hb);(try clear hb);(try clear hb2);(try clear hk);(try clear hi);(try clear ho0);obtain ⟨Ao14,co14,eo14⟩:=Kd.R_slice HO4.out;subst eo14;obtain ⟨Ao15,co15,eo15⟩:=Kd.V_slice HO14.out;subst eo15)|(go_at_call 43;(with_reducible refine (drift_Of.calls _ _ t2 _ _ t12 t15 _ ?side1 ?side2 ?side3 ?side4 A9.out).mono ?_);(case side1=>exact zc_ (Kd.R_reads' HO4.out).2.2);(case side2=>exact (Kd.R_reads' HO4.out).2.1);(case side3=>exact zc_ (Kd.V_reads' HO14.out).2.2);(case side4=>exact (Kd.V_reads' HO14.out).2.1);rintro e w16 ⟨v16,rfl,ho0,hb⟩;replace HO4:=am_ (Kd.R_below (zr_ HO4) hb);replace HO7:=am_ (Kd.R_below (zr_ HO7) hb);replace HO11:=am_ (Kd.R_below (zr_ HO11) hb);replace HO14:=am_ (Kd.V_elder' (by (with_reducible repeat (first|apply Kd.V_alloc|apply Kd.V_drewN|apply Kd.V_drew));exact HO14.out) (Kd.R_base ho0) hb);have HO17:=am_ (Kd.R_lower ho0 (below_size (zl0_ HB)));replace HB:=am_ (below_step (zl0_ HB) hb);(try clear hb);(try clear hb2);(try clear hk);(try clear hi);(try clear ho0)))
 repeat (go_quiet (first|(go_at_call 48;(refine (law16_Make.calls k _ _ l0 _ _ ([]:List Int) 0 t2 t5 t8 _ ?side1 ?side2 ?side3 ?side4 A6.out).mono ?_);(case side1=>repeat (first|exact HR0.out|(with_reducible refine Kd.C_alloc ?_ _)|(with_reducible refine Kd.C_drewN ?_ _)|(with_reducible refine Kd.C_drew ?_)));(case side2=>exact HC0.out);(case side3=>exact Kd.C_nil _ _);(case side4=>exact Nat.le_refl _);rintro e w10 ⟨v3,v6,rfl,ho0,ho1,hb⟩;have HO4:=am_ (Kd.R_lower ho0 (below_size (zl0_ HB)));have HO7:=am_ (Kd.R_lower ho1 (below_size (zl0_ HB)));replace HB:=am_ (below_step (zl0_ HB) hb);(try clear hb);(try clear hb2);(try clear hk);(try clear hi);(try clear ho0);(try clear ho1))|(go_at_call 32;(with_reducible refine (law12_Make.calls k _ _ l0 t9 _ ?side1 ?side2 A7.out).mono ?_);(case side1=>exact zc_ (Kd.C_below HR0.out HB.out));(case side2=>exact HC0.out);rintro e w11 ⟨v10,rfl,ho0,hb⟩;replace HO4:=am_ (Kd.R_below (zr_ HO4) hb);replace HO7:=am_ (Kd.R_below (zr_ HO7) hb);have HO11:=am_ (Kd.R_lower ho0 (below_size (zl0_ HB)));replace HB:=am_ (below_step (zl0_ HB) hb);(try clear hb);(try clear hb2);(try clear hk);(try clear hi);(try clear ho0);obtain ⟨Ao12,co12,eo12⟩:=Kd.R_slice HO11.out;subst eo12)|(go_at_call 49;(with_reducible refine (law17_Turned.calls k (fun k_=>some k_=(.slice Ao12 t9.length co12:Value).ownBlock) _ _ t9 _ _ l1 t12 _ ?side1 ?side2 ?side3 A8.out).mono ?_);(case side1=>exact Kd.R_V (Kd.R_tight rfl (Kd.R_apart' (Kd.R_apart' (HO11.out) (Kd.R_typed HO4.out) (by decide)) (Kd.R_typed HO7.out) (by decide))));(case side2=>exact zc_ (Kd.C_below HR1.out HB.out));(case side3=>exact HC1.out);rintro e w13 ⟨v13,rfl,ho0,hb⟩;have HO14:=am_ (Kd.V_lower (Kd.V_mono (ok':=fun k_=>some k_≠(v3:Value).ownBlock∧some k_≠(v6:Value).ownBlock) ho0 (fun k_ hk_=>⟨Or.elim hk_ (fun hs_=>((Kd.R_apart' (Kd.R_apart' (HO11.out) (Kd.R_typed HO4.out) (by decide)) (Kd.R_typed HO7.out) (by decide)).1 k_ hs_.symm).1.2) (fun hn_=>(Kd.fresh' (Kd.R_lt (zr_ HO4)) k_ hn_)),Or.elim hk_ (fun hs_=>((Kd.R_apart' (Kd.R_apart' (HO11.out) (Kd.R_typed HO4.out) (by decide)) (Kd.R_typed HO7.out) (by decide)).1 k_ hs_.symm).2) (fun hn_=>(Kd.fresh' (Kd.R_lt (zr_ HO7)) k_ hn_))⟩)) (below_size (zl0_ HB)));replace HO4:=am_ (Kd.R_below (zr_ HO4) hb);replace HO7:=am_ (Kd.R_below (zr_ HO7) hb);replace HO11:=am_ (Kd.R_below (zr_ HO11) hb);replace HB:=am_ (below_step (zl0_ HB) hb);(try clear hb);(try clear hb2);(try clear hk);(try clear hi);(try clear ho0);obtain ⟨Ao14,co14,eo14⟩:=Kd.R_slice HO4.out;subst eo14;obtain ⟨Ao15,co15,eo15⟩:=Kd.V_slice HO14.out;subst eo15)|(go_at_call 43;(with_reducible refine (drift_Of.calls _ _ t2 _ _ t12 t15 _ ?side1 ?side2 ?side3 ?side4 A9.out).mono ?_);(case side1=>exact zc_ (Kd.R_reads' HO4.out).2.2);(case side2=>exact (Kd.R_reads' HO4.out).2.1);(case side3=>exact zc_ (Kd.V_reads' HO14.out).2.2);(case side4=>exact (Kd.V_reads' HO14.out).2.1);rintro e w16 ⟨v16,rfl,ho0,hb⟩;replace HO4:=am_ (Kd.R_below (zr_ HO4) hb);replace HO7:=am_ (Kd.R_below (zr_ HO7) hb);replace HO11:=am_ (Kd.R_below (zr_ HO11) hb);replace HO14:=am_ (Kd.V_elder' (by (with_reducible repeat (first|apply Kd.V_alloc|apply Kd.V_drewN|apply Kd.V_drew));exact HO14.out) (Kd.R_base ho0) hb);have HO17:=am_ (Kd.R_lower ho0 (below_size (zl0_ HB)));replace HB:=am_ (below_step (zl0_ HB) hb);(try clear hb);(try clear hb2);(try clear hk);(try clear hi);(try clear ho0)));try go_wp2_with (first|(go_at_call 48;(refine (law16_Make.calls k _ _ l0 _ _ ([]:List Int) 0 t2 t5 t8 _ ?side1 ?side2 ?side3 ?side4 A6.out).mono ?_);(case side1=>repeat (first|exact HR0.out|(with_reducible refine Kd.C_alloc ?_ _)|(with_reducible refine Kd.C_drewN ?_ _)|(with_reducible refine Kd.C_drew ?_)));(case side2=>exact HC0.out);(case side3=>exact Kd.C_nil _ _);(case side4=>exact Nat.le_refl _);rintro e w10 ⟨v3,v6,rfl,ho0,ho1,hb⟩;have HO4:=am_ (Kd.R_lower ho0 (below_size (zl0_ HB)));have HO7:=am_ (Kd.R_lower ho1 (below_size (zl0_ HB)));replace HB:=am_ (below_step (zl0_ HB) hb);(try clear hb);(try clear hb2);(try clear hk);(try clear hi);(try clear ho0);(try clear ho1))|(go_at_call 32;(with_reducible refine (law12_Make.calls k _ _ l0 t9 _ ?side1 ?side2 A7.out).mono ?_);(case side1=>exact zc_ (Kd.C_below HR0.out HB.out));(case side2=>exact HC0.out);rintro e w11 ⟨v10,rfl,ho0,hb⟩;replace HO4:=am_ (Kd.R_below (zr_ HO4) hb);replace HO7:=am_ (Kd.R_below (zr_ HO7) hb);have HO11:=am_ (Kd.R_lower ho0 (below_size (zl0_ HB)));replace HB:=am_ (below_step (zl0_ HB) hb);(try clear hb);(try clear hb2);(try clear hk);(try clear hi);(try clear ho0);obtain ⟨Ao12,co12,eo12⟩:=Kd.R_slice HO11.out;subst eo12)|(go_at_call 49;(with_reducible refine (law17_Turned.calls k (fun k_=>some k_=(.slice Ao12 t9.length co12:Value).ownBlock) _ _ t9 _ _ l1 t12 _ ?side1 ?side2 ?side3 A8.out).mono ?_);(case side1=>exact Kd.R_V (Kd.R_tight rfl (Kd.R_apart' (Kd.R_apart' (HO11.out) (Kd.R_typed HO4.out) (by decide)) (Kd.R_typed HO7.out) (by decide))));(case side2=>exact zc_ (Kd.C_below HR1.out HB.out));(case side3=>exact HC1.out);rintro e w13 ⟨v13,rfl,ho0,hb⟩;have HO14:=am_ (Kd.V_lower (Kd.V_mono (ok':=fun k_=>some k_≠(v3:Value).ownBlock∧some k_≠(v6:Value).ownBlock) ho0 (fun k_ hk_=>⟨Or.elim hk_ (fun hs_=>((Kd.R_apart' (Kd.R_apart' (HO11.out) (Kd.R_typed HO4.out) (by decide)) (Kd.R_typed HO7.out) (by decide)).1 k_ hs_.symm).1.2) (fun hn_=>(Kd.fresh' (Kd.R_lt (zr_ HO4)) k_ hn_)),Or.elim hk_ (fun hs_=>((Kd.R_apart' (Kd.R_apart' (HO11.out) (Kd.R_typed HO4.out) (by decide)) (Kd.R_typed HO7.out) (by decide)).1 k_ hs_.symm).2) (fun hn_=>(Kd.fresh' (Kd.R_lt (zr_ HO7)) k_ hn_))⟩)) (below_size (zl0_ HB)));replace HO4:=am_ (Kd.R_below (zr_ HO4) hb);replace HO7:=am_ (Kd.R_below (zr_ HO7) hb);replace HO11:=am_ (Kd.R_below (zr_ HO11) hb);replace HB:=am_ (below_step (zl0_ HB) hb);(try clear hb);(try clear hb2);(try clear hk);(try clear hi);(try clear ho0);obtain ⟨Ao14,co14,eo14⟩:=Kd.R_slice HO4.out;subst eo14;obtain ⟨Ao15,co15,eo15⟩:=Kd.V_slice HO14.out;subst eo15)|(go_at_call 43;(with_reducible refine (drift_Of.calls _ _ t2 _ _ t12 t15 _ ?side1 ?side2 ?side3 ?side4 A9.out).mono ?_);(case side1=>exact zc_ (Kd.R_reads' HO4.out).2.2);(case side2=>exact (Kd.R_reads' HO4.out).2.1);(case side3=>exact zc_ (Kd.V_reads' HO14.out).2.2);(case side4=>exact (Kd.V_reads' HO14.out).2.1);rintro e w16 ⟨v16,rfl,ho0,hb⟩;replace HO4:=am_ (Kd.R_below (zr_ HO4) hb);replace HO7:=am_ (Kd.R_below (zr_ HO7) hb);replace HO11:=am_ (Kd.R_below (zr_ HO11) hb);replace HO14:=am_ (Kd.V_elder' (by (with_reducible repeat (first|apply Kd.V_alloc|apply Kd.V_drewN|apply Kd.V_drew));exact HO14.out) (Kd.R_base ho0) hb);have HO17:=am_ (Kd.R_lower ho0 (below_size (zl0_ HB)));replace HB:=am_ (below_step (zl0_ HB) hb);(try clear hb);(try clear hb2);(try clear hk);(try clear hi);(try clear ho0))))
 go_loopg [8,9] k (fun kq v8 v9 w'=> ∃(x8_1:Int) (x9_1:Int),v8= .int .i64 x8_1∧v9= .int .i64 x9_1∧Aside0 (law17_DriftTells.l0 kq t2 t12 t15 x8_1 x9_1=some r)∧Aside0 (kq≤k)∧Aside0 (Kd.R k54 54 w' w.heap.size (fun _=>True) (.slice Ao14 t2.length co14) t2)∧Aside0 (Kd.V k31 31 w' w.heap.size (fun k_=>some k_≠((.slice Ao14 t2.length co14):Value).ownBlock∧some k_≠(v16:Value).ownBlock) (.slice Ao15 t12.length co15) t12)∧Aside0 (Kd.R k37 37 w' w.heap.size (fun _=>True) v16 t15)∧Aside0 (Below w.heap.size w w'))
 case atStart=>exact ⟨(0),(0),(by first|rfl|(simp;done)|(simp [*];done)),(by first|rfl|(simp;done)|(simp [*];done)),H',⟨Nat.le_refl _⟩,⟨by (with_reducible repeat (first|apply Kd.R_alloc|apply Kd.R_drewN|apply Kd.R_drew));exact HO4.out⟩,⟨by (with_reducible repeat (first|apply Kd.V_alloc|apply Kd.V_drewN|apply Kd.V_drew));exact Kd.V_mono HO14.out (fun _ hk=>⟨hk.1.1,hk.2⟩)⟩,⟨by (with_reducible repeat (first|apply Kd.R_alloc|apply Kd.R_drewN|apply Kd.R_drew));exact HO17.out⟩,⟨zl0_ HB⟩⟩
 case round=>
  clear H'
  try clear c1
  try clear p2
  try clear c3
  try clear c3b0
  try clear c3b1
  try clear c5
  obtain ⟨x8_1,x9_1,rfl,rfl,HA,HK1,HO_5,HO_6,HO_7,HB⟩:=hrel
  cases gk with
  |zero=>exact absurd HA.out (by simp [law17_DriftTells.l0])
  |succ k1=>
   have H:=HA.out
   clear HA
   simp only [law17_DriftTells.l0] at H
   by_cases c17:x9_1<(t2.length:Int)
   rotate_left
   ·rw [if_neg c17] at H
    have c17b0:decide (x9_1<(t2.length:Int))=false:=decide_eq_false c17
    clear c17
    replace H:=Option.bind_eq_some_iff.mp H
    obtain ⟨t43,A560,H⟩:=H
    try dsimp only at H
    have A56:=Aside0.mk A560
    clear A560
    by_cases c57:x8_1=(t15.length:Int)
    rotate_left
    ·rw [if_neg c57] at H
     cases H
    rw [if_pos c57] at H
    have c57b0:(x8_1==(t15.length:Int))=true:=beq_iff_eq.mpr c57
    have c57b1:(x8_1 !=(t15.length:Int))=false:=bne_eq_false_iff_eq.mpr c57
    clear c57
    replace H:=Option.bind_eq_some_iff.mp H
    obtain ⟨t46,A580,H⟩:=H
    try dsimp only at H
    have A58:=Aside0.mk A580
    clear A580
    by_cases c59:(t46.length:Int)=0
    rotate_left
    ·rw [if_neg c59] at H
     cases H
    rw [if_pos c59] at H
    have c59b0:((t46.length:Int)==0)=true:=beq_iff_eq.mpr c59
    have c59b1:((t46.length:Int) !=0)=false:=bne_eq_false_iff_eq.mpr c59
    clear c59
    replace H:=Option.bind_eq_some_iff.mp H
    obtain ⟨t49,A600,H⟩:=H
    try dsimp only at H
    have A60:=Aside0.mk A600
    clear A600
    replace H:=Option.bind_eq_some_iff.mp H
    obtain ⟨t52,A610,H⟩:=H
    try dsimp only at H
    have A61:=Aside0.mk A610
    clear A610
    by_cases c62:t52=true
    rotate_left
    ·replace c62:=Bool.eq_false_iff.mpr c62
     subst c62
     have H1:(none)=some r:=by rw [if_neg (show¬(false=true) by decide)] at H;exact H
     cases H1
    subst c62
    have H1:((law17_awake.f).bind fun t53=>(some t53))=some r:=by rw [if_pos rfl] at H;exact H
    clear H
    have H:=H1
    clear H1
    replace H:=Option.bind_eq_some_iff.mp H
    obtain ⟨t53,A630,H⟩:=H
    try dsimp only at H
    have A63:=Aside0.mk A630
    clear A630
    obtain rfl:=Option.some.inj H
    go_wp2_with (first|(go_at_call 46;(with_reducible refine (drift_Fresh.calls k1 _ _ t2 _ _ t12 t43 _ ?side1 ?side2 ?side3 ?side4 A56.out).mono ?_);(case side1=>exact zc_ (Kd.R_reads' HO_5.out).2.2);(case side2=>exact (Kd.R_reads' HO_5.out).2.1);(case side3=>exact zc_ (Kd.V_reads' HO_6.out).2.2);(case side4=>exact (Kd.V_reads' HO_6.out).2.1);rintro e w64 ⟨v44,rfl,ho0,hb⟩;replace HO_6:=am_ (Kd.V_elder' (by (with_reducible repeat (first|apply Kd.V_alloc|apply Kd.V_drewN|apply Kd.V_drew));exact HO_6.out) (Kd.R_base ho0) hb);replace HO_7:=am_ (Kd.R_below (zr_ HO_7) hb);have HO45:=am_ (Kd.R_lower (Kd.R_new' ho0 (Kd.R_lt (zr_ HO_5))) (below_size (zl0_ HB)));replace HO_5:=am_ (Kd.R_elder' (zr_ HO_5) (Kd.R_base ho0) hb);replace HB:=am_ (below_step (zl0_ HB) hb);(try clear hb);(try clear hb2);(try clear hk);(try clear hi);(try clear ho0);obtain ⟨Ao65,co65,eo65⟩:=Kd.R_slice HO_7.out;subst eo65;obtain ⟨Ao66,co66,eo66⟩:=Kd.R_slice HO45.out;subst eo66)|(go_at_call 43;(with_reducible refine (drift_Of.calls _ _ t43 _ _ t12 t46 _ ?side1 ?side2 ?side3 ?side4 A58.out).mono ?_);(case side1=>exact zc_ (Kd.R_reads' HO45.out).2.2);(case side2=>exact (Kd.R_reads' HO45.out).2.1);(case side3=>exact zc_ (Kd.V_reads' HO_6.out).2.2);(case side4=>exact (Kd.V_reads' HO_6.out).2.1);rintro e w67 ⟨v47,rfl,ho0,hb⟩;replace HO_5:=am_ (Kd.R_below (zr_ HO_5) hb);replace HO_6:=am_ (Kd.V_elder' (by (with_reducible repeat (first|apply Kd.V_alloc|apply Kd.V_drewN|apply Kd.V_drew));exact HO_6.out) (Kd.R_base ho0) hb);replace HO45:=am_ (Kd.R_below (zr_ HO45) hb);have HO48:=am_ (Kd.R_lower (Kd.R_new' ho0 (Kd.R_lt (zr_ HO_7))) (below_size (zl0_ HB)));replace HO_7:=am_ (Kd.R_elder' (zr_ HO_7) (Kd.R_base ho0) hb);replace HB:=am_ (below_step (zl0_ HB) hb);(try clear hb);(try clear hb2);(try clear hk);(try clear hi);(try clear ho0);obtain ⟨Ao68,co68,eo68⟩:=Kd.R_slice HO48.out;subst eo68)|(go_at_call 46;(with_reducible refine (drift_Fresh.calls k1 _ _ t43 _ _ t12 t49 _ ?side1 ?side2 ?side3 ?side4 A60.out).mono ?_);(case side1=>exact zc_ (Kd.R_reads' HO45.out).2.2);(case side2=>exact (Kd.R_reads' HO45.out).2.1);(case side3=>exact zc_ (Kd.V_reads' HO_6.out).2.2);(case side4=>exact (Kd.V_reads' HO_6.out).2.1);rintro e w69 ⟨v50,rfl,ho0,hb⟩;replace HO_6:=am_ (Kd.V_elder' (by (with_reducible repeat (first|apply Kd.V_alloc|apply Kd.V_drewN|apply Kd.V_drew));exact HO_6.out) (Kd.R_base ho0) hb);replace HO_7:=am_ (Kd.R_below (zr_ HO_7) hb);replace HO48:=am_ (Kd.R_below (zr_ HO48) hb);have HO51:=am_ (Kd.R_lower (Kd.R_new' (Kd.R_new' ho0 (Kd.R_lt (zr_ HO_5))) (Kd.R_lt (zr_ HO45))) (below_size (zl0_ HB)));replace HO_5:=am_ (Kd.R_elder' (zr_ HO_5) (Kd.R_base ho0) hb);replace HO45:=am_ (Kd.R_elder' (zr_ HO45) (Kd.R_base ho0) hb);replace HB:=am_ (below_step (zl0_ HB) hb);(try clear hb);(try clear hb2);(try clear hk);(try clear hi);(try clear ho0);obtain ⟨Ao70,co70,eo70⟩:=Kd.R_slice HO51.out;subst eo70)|(go_at_call 45;(with_reducible refine (r16_SameMarks.calls k1 _ _ t49 _ _ t43 true _ ?side1 ?side2 ?side3 ?side4 A61.out).mono ?_);(case side1=>exact zc_ (Kd.R_reads' HO51.out).2.2);(case side2=>exact (Kd.R_reads' HO51.out).2.1);(case side3=>exact zc_ (Kd.R_reads' HO45.out).2.2);(case side4=>exact (Kd.R_reads' HO45.out).2.1);rintro e w' ⟨rfl,⟨nd,rfl⟩⟩;(try first|exact ⟨rfl,_,World.drewN_drewN _ _ _⟩|exact ⟨rfl,_,Eq.trans (World.drewN_drewN _ _ _) (congrArg (World.drewN _) (Nat.add_assoc _ _ _))⟩))|(go_at_call 38;(with_reducible refine (law17_awake.calls t53 _ A63.out).mono ?_);rintro e w71 ⟨rfl,hb⟩;replace HO_5:=am_ (Kd.R_below (zr_ HO_5) hb);replace HO_6:=am_ (Kd.V_below (by (with_reducible repeat (first|apply Kd.V_alloc|apply Kd.V_drewN|apply Kd.V_drew));exact HO_6.out) hb);replace HO_7:=am_ (Kd.R_below (zr_ HO_7) hb);replace HO45:=am_ (Kd.R_below (zr_ HO45) hb);replace HO48:=am_ (Kd.R_below (zr_ HO48) hb);replace HO51:=am_ (Kd.R_below (zr_ HO51) hb);replace HB:=am_ (below_step (zl0_ HB) hb);(try clear hb);(try clear hb2);(try clear hk);(try clear hi)))
    repeat (go_quiet (first|(go_at_call 46;(with_reducible refine (drift_Fresh.calls k1 _ _ t2 _ _ t12 t43 _ ?side1 ?side2 ?side3 ?side4 A56.out).mono ?_);(case side1=>exact zc_ (Kd.R_reads' HO_5.out).2.2);(case side2=>exact (Kd.R_reads' HO_5.out).2.1);(case side3=>exact zc_ (Kd.V_reads' HO_6.out).2.2);(case side4=>exact (Kd.V_reads' HO_6.out).2.1);rintro e w64 ⟨v44,rfl,ho0,hb⟩;replace HO_6:=am_ (Kd.V_elder' (by (with_reducible repeat (first|apply Kd.V_alloc|apply Kd.V_drewN|apply Kd.V_drew));exact HO_6.out) (Kd.R_base ho0) hb);replace HO_7:=am_ (Kd.R_below (zr_ HO_7) hb);have HO45:=am_ (Kd.R_lower (Kd.R_new' ho0 (Kd.R_lt (zr_ HO_5))) (below_size (zl0_ HB)));replace HO_5:=am_ (Kd.R_elder' (zr_ HO_5) (Kd.R_base ho0) hb);replace HB:=am_ (below_step (zl0_ HB) hb);(try clear hb);(try clear hb2);(try clear hk);(try clear hi);(try clear ho0);obtain ⟨Ao65,co65,eo65⟩:=Kd.R_slice HO_7.out;subst eo65;obtain ⟨Ao66,co66,eo66⟩:=Kd.R_slice HO45.out;subst eo66)|(go_at_call 43;(with_reducible refine (drift_Of.calls _ _ t43 _ _ t12 t46 _ ?side1 ?side2 ?side3 ?side4 A58.out).mono ?_);(case side1=>exact zc_ (Kd.R_reads' HO45.out).2.2);(case side2=>exact (Kd.R_reads' HO45.out).2.1);(case side3=>exact zc_ (Kd.V_reads' HO_6.out).2.2);(case side4=>exact (Kd.V_reads' HO_6.out).2.1);rintro e w67 ⟨v47,rfl,ho0,hb⟩;replace HO_5:=am_ (Kd.R_below (zr_ HO_5) hb);replace HO_6:=am_ (Kd.V_elder' (by (with_reducible repeat (first|apply Kd.V_alloc|apply Kd.V_drewN|apply Kd.V_drew));exact HO_6.out) (Kd.R_base ho0) hb);replace HO45:=am_ (Kd.R_below (zr_ HO45) hb);have HO48:=am_ (Kd.R_lower (Kd.R_new' ho0 (Kd.R_lt (zr_ HO_7))) (below_size (zl0_ HB)));replace HO_7:=am_ (Kd.R_elder' (zr_ HO_7) (Kd.R_base ho0) hb);replace HB:=am_ (below_step (zl0_ HB) hb);(try clear hb);(try clear hb2);(try clear hk);(try clear hi);(try clear ho0);obtain ⟨Ao68,co68,eo68⟩:=Kd.R_slice HO48.out;subst eo68)|(go_at_call 46;(with_reducible refine (drift_Fresh.calls k1 _ _ t43 _ _ t12 t49 _ ?side1 ?side2 ?side3 ?side4 A60.out).mono ?_);(case side1=>exact zc_ (Kd.R_reads' HO45.out).2.2);(case side2=>exact (Kd.R_reads' HO45.out).2.1);(case side3=>exact zc_ (Kd.V_reads' HO_6.out).2.2);(case side4=>exact (Kd.V_reads' HO_6.out).2.1);rintro e w69 ⟨v50,rfl,ho0,hb⟩;replace HO_6:=am_ (Kd.V_elder' (by (with_reducible repeat (first|apply Kd.V_alloc|apply Kd.V_drewN|apply Kd.V_drew));exact HO_6.out) (Kd.R_base ho0) hb);replace HO_7:=am_ (Kd.R_below (zr_ HO_7) hb);replace HO48:=am_ (Kd.R_below (zr_ HO48) hb);have HO51:=am_ (Kd.R_lower (Kd.R_new' (Kd.R_new' ho0 (Kd.R_lt (zr_ HO_5))) (Kd.R_lt (zr_ HO45))) (below_size (zl0_ HB)));replace HO_5:=am_ (Kd.R_elder' (zr_ HO_5) (Kd.R_base ho0) hb);replace HO45:=am_ (Kd.R_elder' (zr_ HO45) (Kd.R_base ho0) hb);replace HB:=am_ (below_step (zl0_ HB) hb);(try clear hb);(try clear hb2);(try clear hk);(try clear hi);(try clear ho0);obtain ⟨Ao70,co70,eo70⟩:=Kd.R_slice HO51.out;subst eo70)|(go_at_call 45;(with_reducible refine (r16_SameMarks.calls k1 _ _ t49 _ _ t43 true _ ?side1 ?side2 ?side3 ?side4 A61.out).mono ?_);(case side1=>exact zc_ (Kd.R_reads' HO51.out).2.2);(case side2=>exact (Kd.R_reads' HO51.out).2.1);(case side3=>exact zc_ (Kd.R_reads' HO45.out).2.2);(case side4=>exact (Kd.R_reads' HO45.out).2.1);rintro e w' ⟨rfl,⟨nd,rfl⟩⟩;(try first|exact ⟨rfl,_,World.drewN_drewN _ _ _⟩|exact ⟨rfl,_,Eq.trans (World.drewN_drewN _ _ _) (congrArg (World.drewN _) (Nat.add_assoc _ _ _))⟩))|(go_at_call 38;(with_reducible refine (law17_awake.calls t53 _ A63.out).mono ?_);rintro e w71 ⟨rfl,hb⟩;replace HO_5:=am_ (Kd.R_below (zr_ HO_5) hb);replace HO_6:=am_ (Kd.V_below (by (with_reducible repeat (first|apply Kd.V_alloc|apply Kd.V_drewN|apply Kd.V_drew));exact HO_6.out) hb);replace HO_7:=am_ (Kd.R_below (zr_ HO_7) hb);replace HO45:=am_ (Kd.R_below (zr_ HO45) hb);replace HO48:=am_ (Kd.R_below (zr_ HO48) hb);replace HO51:=am_ (Kd.R_below (zr_ HO51) hb);replace HB:=am_ (below_step (zl0_ HB) hb);(try clear hb);(try clear hb2);(try clear hk);(try clear hi)));try go_wp2_with (first|(go_at_call 46;(with_reducible refine (drift_Fresh.calls k1 _ _ t2 _ _ t12 t43 _ ?side1 ?side2 ?side3 ?side4 A56.out).mono ?_);(case side1=>exact zc_ (Kd.R_reads' HO_5.out).2.2);(case side2=>exact (Kd.R_reads' HO_5.out).2.1);(case side3=>exact zc_ (Kd.V_reads' HO_6.out).2.2);(case side4=>exact (Kd.V_reads' HO_6.out).2.1);rintro e w64 ⟨v44,rfl,ho0,hb⟩;replace HO_6:=am_ (Kd.V_elder' (by (with_reducible repeat (first|apply Kd.V_alloc|apply Kd.V_drewN|apply Kd.V_drew));exact HO_6.out) (Kd.R_base ho0) hb);replace HO_7:=am_ (Kd.R_below (zr_ HO_7) hb);have HO45:=am_ (Kd.R_lower (Kd.R_new' ho0 (Kd.R_lt (zr_ HO_5))) (below_size (zl0_ HB)));replace HO_5:=am_ (Kd.R_elder' (zr_ HO_5) (Kd.R_base ho0) hb);replace HB:=am_ (below_step (zl0_ HB) hb);(try clear hb);(try clear hb2);(try clear hk);(try clear hi);(try clear ho0);obtain ⟨Ao65,co65,eo65⟩:=Kd.R_slice HO_7.out;subst eo65;obtain ⟨Ao66,co66,eo66⟩:=Kd.R_slice HO45.out;subst eo66)|(go_at_call 43;(with_reducible refine (drift_Of.calls _ _ t43 _ _ t12 t46 _ ?side1 ?side2 ?side3 ?side4 A58.out).mono ?_);(case side1=>exact zc_ (Kd.R_reads' HO45.out).2.2);(case side2=>exact (Kd.R_reads' HO45.out).2.1);(case side3=>exact zc_ (Kd.V_reads' HO_6.out).2.2);(case side4=>exact (Kd.V_reads' HO_6.out).2.1);rintro e w67 ⟨v47,rfl,ho0,hb⟩;replace HO_5:=am_ (Kd.R_below (zr_ HO_5) hb);replace HO_6:=am_ (Kd.V_elder' (by (with_reducible repeat (first|apply Kd.V_alloc|apply Kd.V_drewN|apply Kd.V_drew));exact HO_6.out) (Kd.R_base ho0) hb);replace HO45:=am_ (Kd.R_below (zr_ HO45) hb);have HO48:=am_ (Kd.R_lower (Kd.R_new' ho0 (Kd.R_lt (zr_ HO_7))) (below_size (zl0_ HB)));replace HO_7:=am_ (Kd.R_elder' (zr_ HO_7) (Kd.R_base ho0) hb);replace HB:=am_ (below_step (zl0_ HB) hb);(try clear hb);(try clear hb2);(try clear hk);(try clear hi);(try clear ho0);obtain ⟨Ao68,co68,eo68⟩:=Kd.R_slice HO48.out;subst eo68)|(go_at_call 46;(with_reducible refine (drift_Fresh.calls k1 _ _ t43 _ _ t12 t49 _ ?side1 ?side2 ?side3 ?side4 A60.out).mono ?_);(case side1=>exact zc_ (Kd.R_reads' HO45.out).2.2);(case side2=>exact (Kd.R_reads' HO45.out).2.1);(case side3=>exact zc_ (Kd.V_reads' HO_6.out).2.2);(case side4=>exact (Kd.V_reads' HO_6.out).2.1);rintro e w69 ⟨v50,rfl,ho0,hb⟩;replace HO_6:=am_ (Kd.V_elder' (by (with_reducible repeat (first|apply Kd.V_alloc|apply Kd.V_drewN|apply Kd.V_drew));exact HO_6.out) (Kd.R_base ho0) hb);replace HO_7:=am_ (Kd.R_below (zr_ HO_7) hb);replace HO48:=am_ (Kd.R_below (zr_ HO48) hb);have HO51:=am_ (Kd.R_lower (Kd.R_new' (Kd.R_new' ho0 (Kd.R_lt (zr_ HO_5))) (Kd.R_lt (zr_ HO45))) (below_size (zl0_ HB)));replace HO_5:=am_ (Kd.R_elder' (zr_ HO_5) (Kd.R_base ho0) hb);replace HO45:=am_ (Kd.R_elder' (zr_ HO45) (Kd.R_base ho0) hb);replace HB:=am_ (below_step (zl0_ HB) hb);(try clear hb);(try clear hb2);(try clear hk);(try clear hi);(try clear ho0);obtain ⟨Ao70,co70,eo70⟩:=Kd.R_slice HO51.out;subst eo70)|(go_at_call 45;(with_reducible refine (r16_SameMarks.calls k1 _ _ t49 _ _ t43 true _ ?side1 ?side2 ?side3 ?side4 A61.out).mono ?_);(case side1=>exact zc_ (Kd.R_reads' HO51.out).2.2);(case side2=>exact (Kd.R_reads' HO51.out).2.1);(case side3=>exact zc_ (Kd.R_reads' HO45.out).2.2);(case side4=>exact (Kd.R_reads' HO45.out).2.1);rintro e w' ⟨rfl,⟨nd,rfl⟩⟩;(try first|exact ⟨rfl,_,World.drewN_drewN _ _ _⟩|exact ⟨rfl,_,Eq.trans (World.drewN_drewN _ _ _) (congrArg (World.drewN _) (Nat.add_assoc _ _ _))⟩))|(go_at_call 38;(with_reducible refine (law17_awake.calls t53 _ A63.out).mono ?_);rintro e w71 ⟨rfl,hb⟩;replace HO_5:=am_ (Kd.R_below (zr_ HO_5) hb);replace HO_6:=am_ (Kd.V_below (by (with_reducible repeat (first|apply Kd.V_alloc|apply Kd.V_drewN|apply Kd.V_drew));exact HO_6.out) hb);replace HO_7:=am_ (Kd.R_below (zr_ HO_7) hb);replace HO45:=am_ (Kd.R_below (zr_ HO45) hb);replace HO48:=am_ (Kd.R_below (zr_ HO48) hb);replace HO51:=am_ (Kd.R_below (zr_ HO51) hb);replace HB:=am_ (below_step (zl0_ HB) hb);(try clear hb);(try clear hb2);(try clear hk);(try clear hi))))
    go_ret
    exact ⟨by first|rfl|(simp [errW_none,errW_some]<;>rfl)|(simp [*,errW_none,errW_some]<;>rfl),zl0_ HB⟩
   rw [if_pos c17] at H
   have c17b0:decide (x9_1<(t2.length:Int))=true:=decide_eq_true c17
   clear c17
   by_cases c18:0≤x9_1
   rotate_left
   ·rw [if_neg c18] at H
    exact absurd H (by simp)
   rw [if_pos c18] at H
   have c18b0:decide (0≤x9_1)=true:=decide_eq_true c18
   clear c18
   replace H:=Option.bind_eq_some_iff.mp H
   obtain ⟨t19,A190,H⟩:=H
   try dsimp only at H
   have A19:=Aside0.mk A190
   clear A190
   have HC20:=Aside0.mk H
   clear H
   have p18:0≤(x9_1:Int):=of_decide_eq_true zq_
   have q18:x9_1<(t2.length:Int):=of_decide_eq_true zq_
   obtain ⟨ad18,e18,hx18_0,hx18_1,hx18_2,hx18_3,hx18_4,hx18_5⟩:=at_T54 (Kd.R_reads' HO_5.out).2.2 x9_1 p18 q18
   cases e18
   replace p18:=eq_true p18
   replace q18:=eq_true q18
   go_upto_block 2 with (first|(go_at_call 50;(with_reducible refine (r10_Find.calls k1 _ _ t12 ((rd_T54 t2 x9_1).f0) t19 _ ?side1 ?side2 A19.out).mono ?_);(case side1=>exact zc_ (Kd.V_reads' HO_6.out).2.2);(case side2=>exact (Kd.V_reads' HO_6.out).2.1);rintro e w' ⟨rfl,⟨nd,rfl⟩⟩;(try first|exact ⟨rfl,_,World.drewN_drewN _ _ _⟩|exact ⟨rfl,_,Eq.trans (World.drewN_drewN _ _ _) (congrArg (World.drewN _) (Nat.add_assoc _ _ _))⟩)))
   repeat (go_quiet (first|(go_at_call 50;(with_reducible refine (r10_Find.calls k1 _ _ t12 ((rd_T54 t2 x9_1).f0) t19 _ ?side1 ?side2 A19.out).mono ?_);(case side1=>exact zc_ (Kd.V_reads' HO_6.out).2.2);(case side2=>exact (Kd.V_reads' HO_6.out).2.1);rintro e w' ⟨rfl,⟨nd,rfl⟩⟩;(try first|exact ⟨rfl,_,World.drewN_drewN _ _ _⟩|exact ⟨rfl,_,Eq.trans (World.drewN_drewN _ _ _) (congrArg (World.drewN _) (Nat.add_assoc _ _ _))⟩)));go_upto_block 2 with (first|(go_at_call 50;(with_reducible refine (r10_Find.calls k1 _ _ t12 ((rd_T54 t2 x9_1).f0) t19 _ ?side1 ?side2 A19.out).mono ?_);(case side1=>exact zc_ (Kd.V_reads' HO_6.out).2.2);(case side2=>exact (Kd.V_reads' HO_6.out).2.1);rintro e w' ⟨rfl,⟨nd,rfl⟩⟩;(try first|exact ⟨rfl,_,World.drewN_drewN _ _ _⟩|exact ⟨rfl,_,Eq.trans (World.drewN_drewN _ _ _) (congrArg (World.drewN _) (Nat.add_assoc _ _ _))⟩))))
   (try simp only [Act.put,List.setIfInBounds_toArray,List.set_cons_zero,List.set_cons_succ])
   go_cut [11] (fun v11 wc=> ∃(kq:Nat) (x11_19:List Int),Aside0 (law17_DriftTells.j2 kq t2 t12 t15 x8_1 x9_1 x11_19=some r)∧Aside0 (kq≤k1)∧Aside0 (Kd.R k54 54 wc w.heap.size (fun _=>True) (.slice (some ad18) t2.length co14) t2)∧Aside0 (Kd.V k31 31 wc w.heap.size (fun k_=>some k_≠((.slice (some ad18) t2.length co14):Value).ownBlock∧some k_≠(v16:Value).ownBlock∧some k_≠(v11:Value).ownBlock) (.slice Ao15 t12.length co15) t12)∧Aside0 (Kd.R k37 37 wc w.heap.size (fun _=>True) v16 t15)∧Aside0 (Kd.R (Kd.int .i64) 3 wc w.heap.size (fun _=>True) v11 x11_19)∧Aside0 (Below w.heap.size w wc))
   case first=>
    have H:=HC20.out
    clear HC20
    by_cases c21:t19<0
    ·rw [if_pos c21] at H
     have c21b0:decide (t19<0)=true:=decide_eq_true c21
     clear c21
     (first|rw [c21b0]|(simp only [i64_w,i32_w];rw [c21b0])|skip)
     obtain ⟨y20,hy20⟩: ∃y_:List Int,y_=(([1]:List Int)):=⟨_,rfl⟩
     replace H:(law17_DriftTells.j2 k1 t2 t12 t15 x8_1 x9_1 y20)=some r:=by first|(rw [hy20];with_reducible exact H)|(have H2_:=(Option.bind_some _ _).symm.trans H;rw [hy20];with_reducible exact H2_)|(have H2_:=(Option.bind_some _ _).symm.trans H;with_reducible exact H2_)|with_reducible exact H|(rw [hy20];exact H)|exact H
     have Ny20:=Aside0.mk hy20
     clear hy20
     have H':=Aside0.mk H
     clear H
     go_wp2_with (first|((with_reducible refine gate_dst (N:=44) rfl ?_);(try (refine gate_guard (by rfl) ?_;dsimp only));refine Kd.R_lit (Kd.int .i64) _ 3 ?hg (N:=44) ?hd (xs:=([1]:List Int)) (inner:=[.int .i64 1]) (ok:=fun _=>True) (okp:=fun _=>True) ?hr ?hp (fun _ hk=>hk) trivial (Below.refl _ _) (Nat.le_refl _) (by simp) ?_;(case hd=>rfl);(case hg=>rfl);(case hr=>first|(go_simp;done)|(go_simp;rfl));(case hp=>exact (Reps.one (show Kd.M (Kd.int .i64) _ _ _ 1 [.int .i64 1] from rfl) (Reps.none _ _)));intro v21 w22 ho23 hb hg_ hnew_;clear hg_ hnew_;(first|rw [←Ny20.out] at ho23|(simp only [Int.reduceToNat] at ho23;rw [←Ny20.out] at ho23));replace HO_5:=am_ (Kd.R_below (zr_ HO_5) hb);replace HO_6:=am_ (Kd.V_elder' (by (with_reducible repeat (first|apply Kd.V_alloc|apply Kd.V_drewN|apply Kd.V_drew));exact HO_6.out) (Kd.R_base ho23) hb);replace HO_7:=am_ (Kd.R_below (zr_ HO_7) hb);have HO22:=am_ (Kd.R_lower ho23 (below_size (zl0_ HB)));replace HB:=am_ (below_step (zl0_ HB) hb);clear hb ho23))
     repeat (go_quiet (first|((with_reducible refine gate_dst (N:=44) rfl ?_);(try (refine gate_guard (by rfl) ?_;dsimp only));refine Kd.R_lit (Kd.int .i64) _ 3 ?hg (N:=44) ?hd (xs:=([1]:List Int)) (inner:=[.int .i64 1]) (ok:=fun _=>True) (okp:=fun _=>True) ?hr ?hp (fun _ hk=>hk) trivial (Below.refl _ _) (Nat.le_refl _) (by simp) ?_;(case hd=>rfl);(case hg=>rfl);(case hr=>first|(go_simp;done)|(go_simp;rfl));(case hp=>exact (Reps.one (show Kd.M (Kd.int .i64) _ _ _ 1 [.int .i64 1] from rfl) (Reps.none _ _)));intro v21 w22 ho23 hb hg_ hnew_;clear hg_ hnew_;(first|rw [←Ny20.out] at ho23|(simp only [Int.reduceToNat] at ho23;rw [←Ny20.out] at ho23));replace HO_5:=am_ (Kd.R_below (zr_ HO_5) hb);replace HO_6:=am_ (Kd.V_elder' (by (with_reducible repeat (first|apply Kd.V_alloc|apply Kd.V_drewN|apply Kd.V_drew));exact HO_6.out) (Kd.R_base ho23) hb);replace HO_7:=am_ (Kd.R_below (zr_ HO_7) hb);have HO22:=am_ (Kd.R_lower ho23 (below_size (zl0_ HB)));replace HB:=am_ (below_step (zl0_ HB) hb);clear hb ho23));try go_wp2_with (first|((with_reducible refine gate_dst (N:=44) rfl ?_);(try (refine gate_guard (by rfl) ?_;dsimp only));refine Kd.R_lit (Kd.int .i64) _ 3 ?hg (N:=44) ?hd (xs:=([1]:List Int)) (inner:=[.int .i64 1]) (ok:=fun _=>True) (okp:=fun _=>True) ?hr ?hp (fun _ hk=>hk) trivial (Below.refl _ _) (Nat.le_refl _) (by simp) ?_;(case hd=>rfl);(case hg=>rfl);(case hr=>first|(go_simp;done)|(go_simp;rfl));(case hp=>exact (Reps.one (show Kd.M (Kd.int .i64) _ _ _ 1 [.int .i64 1] from rfl) (Reps.none _ _)));intro v21 w22 ho23 hb hg_ hnew_;clear hg_ hnew_;(first|rw [←Ny20.out] at ho23|(simp only [Int.reduceToNat] at ho23;rw [←Ny20.out] at ho23));replace HO_5:=am_ (Kd.R_below (zr_ HO_5) hb);replace HO_6:=am_ (Kd.V_elder' (by (with_reducible repeat (first|apply Kd.V_alloc|apply Kd.V_drewN|apply Kd.V_drew));exact HO_6.out) (Kd.R_base ho23) hb);replace HO_7:=am_ (Kd.R_below (zr_ HO_7) hb);have HO22:=am_ (Kd.R_lower ho23 (below_size (zl0_ HB)));replace HB:=am_ (below_step (zl0_ HB) hb);clear hb ho23)))
     go_meet
     case rel=>exact ⟨_,(y20),H',⟨by have:=HK1.out;first|omega|exact Nat.le_refl _⟩,⟨by (with_reducible repeat (first|apply Kd.R_alloc|apply Kd.R_drewN|apply Kd.R_drew));exact HO_5.out⟩,⟨by (with_reducible repeat (first|apply Kd.V_alloc|apply Kd.V_drewN|apply Kd.V_drew));exact Kd.V_mono HO_6.out (fun _ hk=>⟨hk.1.1,⟨hk.1.2,hk.2⟩⟩)⟩,⟨by (with_reducible repeat (first|apply Kd.R_alloc|apply Kd.R_drewN|apply Kd.R_drew));exact HO_7.out⟩,⟨by (with_reducible repeat (first|apply Kd.R_alloc|apply Kd.R_drewN|apply Kd.R_drew));exact HO22.out⟩,⟨zl0_ HB⟩⟩
    rw [if_neg c21] at H
    have c21b0:decide (t19<0)=false:=decide_eq_false c21
    clear c21
    (first|rw [c21b0]|(simp only [i64_w,i32_w];rw [c21b0])|skip)
    have HC24:=Aside0.mk H
    clear H
    go_upto_region 14 with (fail)
    repeat (go_quiet (fail);go_upto_region 14 with (fail))
    go_cut [45] (fun v45 wc=> ∃(kq:Nat) (x45_23:Bool),v45= .bool x45_23∧Aside0 (law17_DriftTells.j1 kq t2 t12 t15 x8_1 x9_1 t19 ([]:List Int) x45_23=some r)∧Aside0 (kq≤k1)∧Aside0 (Kd.R k54 54 wc w.heap.size (fun _=>True) (.slice (some ad18) t2.length co14) t2)∧Aside0 (Kd.V k31 31 wc w.heap.size (fun k_=>some k_≠((.slice (some ad18) t2.length co14):Value).ownBlock∧some k_≠(v16:Value).ownBlock∧some k_≠((.slice none 0 0):Value).ownBlock) (.slice Ao15 t12.length co15) t12)∧Aside0 (Kd.R k37 37 wc w.heap.size (fun _=>True) v16 t15)∧Aside0 (Kd.R (Kd.int .i64) 3 wc w.heap.size (fun _=>True) (.slice none 0 0) ([]:List Int))∧Aside0 (Below w.heap.size w wc))
    case first=>
     have H:=HC24.out
     clear HC24
     by_cases c25:0≤t19
     rotate_left
     ·rw [if_neg c25] at H
      cases H
     rw [if_pos c25] at H
     have c25b0:decide (0≤t19)=true:=decide_eq_true c25
     clear c25
     (first|rw [c25b0]|(simp only [i64_w,i32_w];rw [c25b0])|skip)
     by_cases c26:t19<(t12.length:Int)
     rotate_left
     ·rw [if_neg c26] at H
      cases H
     rw [if_pos c26] at H
     have c26b0:decide (t19<(t12.length:Int))=true:=decide_eq_true c26
     clear c26
     by_cases c27:((rd_T31 t12 t19).f1).toList=((rd_T54 t2 x9_1).f1).toList
     ·rw [if_pos c27] at H
      have c27b0:(((rd_T31 t12 t19).f1).toList==((rd_T54 t2 x9_1).f1).toList)=true:=beq_iff_eq.mpr c27
      have c27b1:(((rd_T31 t12 t19).f1).toList !=((rd_T54 t2 x9_1).f1).toList)=false:=bne_eq_false_iff_eq.mpr c27
      clear c27
      have H':=Aside0.mk H
      clear H
      have p23:0≤(t19:Int):=of_decide_eq_true zq_
      have q23:t19<(t12.length:Int):=of_decide_eq_true zq_
      obtain ⟨ad23,e23,hx23_0,hx23_1,hx23_2,hx23_3,hx23_4,hx23_5,hx23_6,hx23_7,hx23_8,hx23_9,hx23_10,hx23_11⟩:=at_T31 (Kd.V_reads' HO_6.out).2.2 t19 p23 q23
      cases e23
      replace p23:=eq_true p23
      replace q23:=eq_true q23
      have p24:0≤(x9_1:Int):=of_decide_eq_true zq_
      have q24:x9_1<(t2.length:Int):=of_decide_eq_true zq_
      obtain ⟨ad24,e24,hx24_0,hx24_1,hx24_2,hx24_3,hx24_4,hx24_5⟩:=at_T54 (Kd.R_reads' HO_5.out).2.2 x9_1 p24 q24
      obtain rfl:ad18=ad24:=(by injection e24)
      replace p24:=eq_true p24
      replace q24:=eq_true q24
      go_wp2
      repeat (go_quiet (fail);try go_wp2)
      go_meet
      case rel=>exact ⟨_,(false),(by first|rfl|(simp;done)|(simp [*];done)),H',⟨by have:=HK1.out;first|omega|exact Nat.le_refl _⟩,⟨by (with_reducible repeat (first|apply Kd.R_alloc|apply Kd.R_drewN|apply Kd.R_drew));exact HO_5.out⟩,⟨by (with_reducible repeat (first|apply Kd.V_alloc|apply Kd.V_drewN|apply Kd.V_drew));exact Kd.V_mono HO_6.out (fun _ hk=>⟨hk.1,⟨hk.2,(by simp [Value.ownBlock])⟩⟩)⟩,⟨by (with_reducible repeat (first|apply Kd.R_alloc|apply Kd.R_drewN|apply Kd.R_drew));exact HO_7.out⟩,⟨by first|exact Kd.R_nil _ _ _ _ _|exact Kd.N_nil _ _ _ _ _|exact Kd.V_nil _ _ _ _ _|exact Kd.Q_nil _ _ _ _ _|exact Kd.S_nil _ _ _ _ _⟩,⟨zl0_ HB⟩⟩
     rw [if_neg c27] at H
     have c27b0:(((rd_T31 t12 t19).f1).toList==((rd_T54 t2 x9_1).f1).toList)=false:=beq_eq_false_iff_ne.mpr c27
     have c27b1:(((rd_T31 t12 t19).f1).toList !=((rd_T54 t2 x9_1).f1).toList)=true:=bne_iff_ne.mpr c27
     have H':=Aside0.mk H
     clear H
     have p23:0≤(t19:Int):=of_decide_eq_true zq_
     have q23:t19<(t12.length:Int):=of_decide_eq_true zq_
     obtain ⟨ad23,e23,hx23_0,hx23_1,hx23_2,hx23_3,hx23_4,hx23_5,hx23_6,hx23_7,hx23_8,hx23_9,hx23_10,hx23_11⟩:=at_T31 (Kd.V_reads' HO_6.out).2.2 t19 p23 q23
     cases e23
     replace p23:=eq_true p23
     replace q23:=eq_true q23
     have p24:0≤(x9_1:Int):=of_decide_eq_true zq_
     have q24:x9_1<(t2.length:Int):=of_decide_eq_true zq_
     obtain ⟨ad24,e24,hx24_0,hx24_1,hx24_2,hx24_3,hx24_4,hx24_5⟩:=at_T54 (Kd.R_reads' HO_5.out).2.2 x9_1 p24 q24
     obtain rfl:ad18=ad24:=(by injection e24)
     replace p24:=eq_true p24
     replace q24:=eq_true q24
     have p25:0≤(t19:Int):=of_decide_eq_true zq_
     have q25:t19<(t12.length:Int):=of_decide_eq_true zq_
     obtain ⟨ad25,e25,hx25_0,hx25_1,hx25_2,hx25_3,hx25_4,hx25_5,hx25_6,hx25_7,hx25_8,hx25_9,hx25_10,hx25_11⟩:=at_T31 (Kd.V_reads' HO_6.out).2.2 t19 p25 q25
     obtain rfl:ad23=ad25:=(by injection e25)
     replace p25:=eq_true p25
     replace q25:=eq_true q25
     have p26:0≤(x9_1:Int):=of_decide_eq_true zq_
     have q26:x9_1<(t2.length:Int):=of_decide_eq_true zq_
     obtain ⟨ad26,e26,hx26_0,hx26_1,hx26_2,hx26_3,hx26_4,hx26_5⟩:=at_T54 (Kd.R_reads' HO_5.out).2.2 x9_1 p26 q26
     obtain rfl:ad18=ad26:=(by injection e26)
     replace p26:=eq_true p26
     replace q26:=eq_true q26
     go_wp2
     repeat (go_quiet (fail);try go_wp2)
     go_meet
     case rel=>exact ⟨_,((!(((rd_T31 t12 t19).f2.f0)==((rd_T54 t2 x9_1).f2.f0))||(!(((rd_T31 t12 t19).f2.f1)==((rd_T54 t2 x9_1).f2.f1))||(!(((rd_T31 t12 t19).f2.f2)==((rd_T54 t2 x9_1).f2.f2)))))),(by first|rfl|(simp;done)|(simp [*];done)),H',⟨by have:=HK1.out;first|omega|exact Nat.le_refl _⟩,⟨by (with_reducible repeat (first|apply Kd.R_alloc|apply Kd.R_drewN|apply Kd.R_drew));exact HO_5.out⟩,⟨by (with_reducible repeat (first|apply Kd.V_alloc|apply Kd.V_drewN|apply Kd.V_drew));exact Kd.V_mono HO_6.out (fun _ hk=>⟨hk.1,⟨hk.2,(by simp [Value.ownBlock])⟩⟩)⟩,⟨by (with_reducible repeat (first|apply Kd.R_alloc|apply Kd.R_drewN|apply Kd.R_drew));exact HO_7.out⟩,⟨by first|exact Kd.R_nil _ _ _ _ _|exact Kd.N_nil _ _ _ _ _|exact Kd.V_nil _ _ _ _ _|exact Kd.Q_nil _ _ _ _ _|exact Kd.S_nil _ _ _ _ _⟩,⟨zl0_ HB⟩⟩
    case rest=>
     clear HC24
     try clear c1
     try clear p1
     try clear q1
     try clear hx1
     try clear c2
     try clear p2
     try clear q2
     try clear hx2
     try clear c3
     try clear c3b0
     try clear c3b1
     try clear c5
     try clear c17
     try clear c17b0
     try clear c18
     try clear c18b0
     try clear p18
     try clear q18
     try clear hx18
     try clear c21
     try clear c21b0
     try clear p23
     try clear q23
     try clear hx23
     try clear p24
     try clear q24
     try clear hx24
     try clear c25
     try clear c25b0
     try clear p25
     try clear q25
     try clear hx25
     try clear c26
     try clear c26b0
     try clear p26
     try clear q26
     try clear hx26
     try clear c27
     try clear c27b0
     try clear c27b1
     try clear hx18_0
     try clear hx18_1
     try clear hx18_2
     try clear hx18_3
     try clear hx18_4
     try clear hx18_5
     try clear hx23_0
     try clear hx23_1
     try clear hx23_10
     try clear hx23_11
     try clear hx23_2
     try clear hx23_3
     try clear hx23_4
     try clear hx23_5
     try clear hx23_6
     try clear hx23_7
     try clear hx23_8
     try clear hx23_9
     try clear hx24_0
     try clear hx24_1
     try clear hx24_2
     try clear hx24_3
     try clear hx24_4
     try clear hx24_5
     try clear hx25_0
     try clear hx25_1
     try clear hx25_10
     try clear hx25_11
     try clear hx25_2
     try clear hx25_3
     try clear hx25_4
     try clear hx25_5
     try clear hx25_6
     try clear hx25_7
     try clear hx25_8
     try clear hx25_9
     try clear hx26_0
     try clear hx26_1
     try clear hx26_2
     try clear hx26_3
     try clear hx26_4
     try clear hx26_5
     try clear p18
     try clear p2
     try clear p23
     try clear p24
     try clear p25
     try clear p26
     try clear q18
     try clear q23
     try clear q24
     try clear q25
     try clear q26
     obtain ⟨kq,x45_23,rfl,HA,HJ23,HO_5,HO_6,HO_7,HO_11,HB⟩:=hcut
     cases kq with
     |zero=>exact absurd HA.out (by simp [law17_DriftTells.j1])
     |succ kj23=>
      have H:=HA.out
      clear HA
      simp only [law17_DriftTells.j1] at H
      by_cases c28:x45_23=true
      ·subst c28
       have H1:(law17_DriftTells.j2 kj23 t2 t12 t15 x8_1 x9_1 (([2,3]:List Int)))=some r:=by rw [if_pos rfl] at H;exact H
       clear H
       have H:=H1
       clear H1
       obtain ⟨y27,hy27⟩: ∃y_:List Int,y_=(([2,3]:List Int)):=⟨_,rfl⟩
       replace H:(law17_DriftTells.j2 kj23 t2 t12 t15 x8_1 x9_1 y27)=some r:=by first|(rw [hy27];with_reducible exact H)|(have H2_:=(Option.bind_some _ _).symm.trans H;rw [hy27];with_reducible exact H2_)|(have H2_:=(Option.bind_some _ _).symm.trans H;with_reducible exact H2_)|with_reducible exact H|(rw [hy27];exact H)|exact H
       have Ny27:=Aside0.mk hy27
       clear hy27
       have H':=Aside0.mk H
       clear H
       go_wp2_with (first|((with_reducible refine gate_dst (N:=70) rfl ?_);(try (refine gate_guard (by rfl) ?_;dsimp only));refine Kd.R_lit (Kd.int .i64) _ 3 ?hg (N:=70) ?hd (xs:=([2,3]:List Int)) (inner:=[.int .i64 2, .int .i64 3]) (ok:=fun _=>True) (okp:=fun _=>True) ?hr ?hp (fun _ hk=>hk) trivial (Below.refl _ _) (Nat.le_refl _) (by simp) ?_;(case hd=>rfl);(case hg=>rfl);(case hr=>first|(go_simp;done)|(go_simp;rfl));(case hp=>exact (Reps.one (show Kd.M (Kd.int .i64) _ _ _ 2 [.int .i64 2] from rfl) (Reps.one (show Kd.M (Kd.int .i64) _ _ _ 3 [.int .i64 3] from rfl) (Reps.none _ _))));intro v28 w29 ho30 hb hg_ hnew_;clear hg_ hnew_;(first|rw [←Ny27.out] at ho30|(simp only [Int.reduceToNat] at ho30;rw [←Ny27.out] at ho30));replace HO_5:=am_ (Kd.R_below (zr_ HO_5) hb);replace HO_6:=am_ (Kd.V_elder' (by (with_reducible repeat (first|apply Kd.V_alloc|apply Kd.V_drewN|apply Kd.V_drew));exact HO_6.out) (Kd.R_base ho30) hb);replace HO_7:=am_ (Kd.R_below (zr_ HO_7) hb);have HO29:=am_ (Kd.R_lower (Kd.R_new' ho30 (Kd.R_lt (zr_ HO_11))) (below_size (zl0_ HB)));replace HO_11:=am_ (Kd.R_elder' (zr_ HO_11) (Kd.R_base ho30) hb);replace HB:=am_ (below_step (zl0_ HB) hb);clear hb ho30))
       repeat (go_quiet (first|((with_reducible refine gate_dst (N:=70) rfl ?_);(try (refine gate_guard (by rfl) ?_;dsimp only));refine Kd.R_lit (Kd.int .i64) _ 3 ?hg (N:=70) ?hd (xs:=([2,3]:List Int)) (inner:=[.int .i64 2, .int .i64 3]) (ok:=fun _=>True) (okp:=fun _=>True) ?hr ?hp (fun _ hk=>hk) trivial (Below.refl _ _) (Nat.le_refl _) (by simp) ?_;(case hd=>rfl);(case hg=>rfl);(case hr=>first|(go_simp;done)|(go_simp;rfl));(case hp=>exact (Reps.one (show Kd.M (Kd.int .i64) _ _ _ 2 [.int .i64 2] from rfl) (Reps.one (show Kd.M (Kd.int .i64) _ _ _ 3 [.int .i64 3] from rfl) (Reps.none _ _))));intro v28 w29 ho30 hb hg_ hnew_;clear hg_ hnew_;(first|rw [←Ny27.out] at ho30|(simp only [Int.reduceToNat] at ho30;rw [←Ny27.out] at ho30));replace HO_5:=am_ (Kd.R_below (zr_ HO_5) hb);replace HO_6:=am_ (Kd.V_elder' (by (with_reducible repeat (first|apply Kd.V_alloc|apply Kd.V_drewN|apply Kd.V_drew));exact HO_6.out) (Kd.R_base ho30) hb);replace HO_7:=am_ (Kd.R_below (zr_ HO_7) hb);have HO29:=am_ (Kd.R_lower (Kd.R_new' ho30 (Kd.R_lt (zr_ HO_11))) (below_size (zl0_ HB)));replace HO_11:=am_ (Kd.R_elder' (zr_ HO_11) (Kd.R_base ho30) hb);replace HB:=am_ (below_step (zl0_ HB) hb);clear hb ho30));try go_wp2_with (first|((with_reducible refine gate_dst (N:=70) rfl ?_);(try (refine gate_guard (by rfl) ?_;dsimp only));refine Kd.R_lit (Kd.int .i64) _ 3 ?hg (N:=70) ?hd (xs:=([2,3]:List Int)) (inner:=[.int .i64 2, .int .i64 3]) (ok:=fun _=>True) (okp:=fun _=>True) ?hr ?hp (fun _ hk=>hk) trivial (Below.refl _ _) (Nat.le_refl _) (by simp) ?_;(case hd=>rfl);(case hg=>rfl);(case hr=>first|(go_simp;done)|(go_simp;rfl));(case hp=>exact (Reps.one (show Kd.M (Kd.int .i64) _ _ _ 2 [.int .i64 2] from rfl) (Reps.one (show Kd.M (Kd.int .i64) _ _ _ 3 [.int .i64 3] from rfl) (Reps.none _ _))));intro v28 w29 ho30 hb hg_ hnew_;clear hg_ hnew_;(first|rw [←Ny27.out] at ho30|(simp only [Int.reduceToNat] at ho30;rw [←Ny27.out] at ho30));replace HO_5:=am_ (Kd.R_below (zr_ HO_5) hb);replace HO_6:=am_ (Kd.V_elder' (by (with_reducible repeat (first|apply Kd.V_alloc|apply Kd.V_drewN|apply Kd.V_drew));exact HO_6.out) (Kd.R_base ho30) hb);replace HO_7:=am_ (Kd.R_below (zr_ HO_7) hb);have HO29:=am_ (Kd.R_lower (Kd.R_new' ho30 (Kd.R_lt (zr_ HO_11))) (below_size (zl0_ HB)));replace HO_11:=am_ (Kd.R_elder' (zr_ HO_11) (Kd.R_base ho30) hb);replace HB:=am_ (below_step (zl0_ HB) hb);clear hb ho30)))
       go_meet
       case rel=>exact ⟨_,(y27),H',⟨by have:=HK1.out;have:=HJ23.out;first|omega|exact Nat.le_refl _⟩,⟨by (with_reducible repeat (first|apply Kd.R_alloc|apply Kd.R_drewN|apply Kd.R_drew));exact HO_5.out⟩,⟨by (with_reducible repeat (first|apply Kd.V_alloc|apply Kd.V_drewN|apply Kd.V_drew));exact Kd.V_mono HO_6.out (fun _ hk=>⟨hk.1.1,⟨hk.1.2.1,hk.2⟩⟩)⟩,⟨by (with_reducible repeat (first|apply Kd.R_alloc|apply Kd.R_drewN|apply Kd.R_drew));exact HO_7.out⟩,⟨by (with_reducible repeat (first|apply Kd.R_alloc|apply Kd.R_drewN|apply Kd.R_drew));exact Kd.R_mono HO29.out (fun _ hk=>trivial)⟩,⟨zl0_ HB⟩⟩
      replace c28:=Bool.eq_false_iff.mpr c28
      subst c28
      have H1:(if 0≤t19 then (if t19<(t12.length:Int) then (if 0≤x9_1 then (if x9_1<(t2.length:Int) then (if ((rd_T31 t12 t19).f1).toList=((rd_T54 t2 x9_1).f1).toList then (if (!(((rd_T31 t12 t19).f2.f0)==((rd_T54 t2 x9_1).f2.f0))||(!(((rd_T31 t12 t19).f2.f1)==((rd_T54 t2 x9_1).f2.f1))||(!(((rd_T31 t12 t19).f2.f2)==((rd_T54 t2 x9_1).f2.f2)))))=true then (law17_DriftTells.j2 kj23 t2 t12 t15 x8_1 x9_1 (([3]:List Int))) else (law17_DriftTells.j2 kj23 t2 t12 t15 x8_1 x9_1 ([]:List Int))) else (law17_DriftTells.j2 kj23 t2 t12 t15 x8_1 x9_1 (([2]:List Int)))) else (none)) else (none)) else (none)) else (none))=some r:=by rw [if_neg (show¬(false=true) by decide)] at H;exact H
      clear H
      have H:=H1
      clear H1
      by_cases c31:0≤t19
      rotate_left
      ·rw [if_neg c31] at H
       cases H
      rw [if_pos c31] at H
      have c31b0:decide (0≤t19)=true:=decide_eq_true c31
      clear c31
      by_cases c32:t19<(t12.length:Int)
      rotate_left
      ·rw [if_neg c32] at H
       cases H
      rw [if_pos c32] at H
      have c32b0:decide (t19<(t12.length:Int))=true:=decide_eq_true c32
      clear c32
      by_cases c33:0≤x9_1
      rotate_left
      ·rw [if_neg c33] at H
       cases H
      rw [if_pos c33] at H
      have c33b0:decide (0≤x9_1)=true:=decide_eq_true c33
      clear c33
      by_cases c34:x9_1<(t2.length:Int)
      rotate_left
      ·rw [if_neg c34] at H
       cases H
      rw [if_pos c34] at H
      have c34b0:decide (x9_1<(t2.length:Int))=true:=decide_eq_true c34
      clear c34
      by_cases c35:((rd_T31 t12 t19).f1).toList=((rd_T54 t2 x9_1).f1).toList
      rotate_left
      ·rw [if_neg c35] at H
       have c35b0:(((rd_T31 t12 t19).f1).toList==((rd_T54 t2 x9_1).f1).toList)=false:=beq_eq_false_iff_ne.mpr c35
       have c35b1:(((rd_T31 t12 t19).f1).toList !=((rd_T54 t2 x9_1).f1).toList)=true:=bne_iff_ne.mpr c35
       obtain ⟨y37,hy37⟩: ∃y_:List Int,y_=(([2]:List Int)):=⟨_,rfl⟩
       replace H:(law17_DriftTells.j2 kj23 t2 t12 t15 x8_1 x9_1 y37)=some r:=by first|(rw [hy37];with_reducible exact H)|(have H2_:=(Option.bind_some _ _).symm.trans H;rw [hy37];with_reducible exact H2_)|(have H2_:=(Option.bind_some _ _).symm.trans H;with_reducible exact H2_)|with_reducible exact H|(rw [hy37];exact H)|exact H
       have Ny37:=Aside0.mk hy37
       clear hy37
       have H':=Aside0.mk H
       clear H
       have p30:0≤(t19:Int):=of_decide_eq_true zq_
       have q30:t19<(t12.length:Int):=of_decide_eq_true zq_
       obtain ⟨ad30,e30,hx30_0,hx30_1,hx30_2,hx30_3,hx30_4,hx30_5,hx30_6,hx30_7,hx30_8,hx30_9,hx30_10,hx30_11⟩:=at_T31 (Kd.V_reads' HO_6.out).2.2 t19 p30 q30
       cases e30
       replace p30:=eq_true p30
       replace q30:=eq_true q30
       have p31:0≤(x9_1:Int):=of_decide_eq_true zq_
       have q31:x9_1<(t2.length:Int):=of_decide_eq_true zq_
       obtain ⟨ad31,e31,hx31_0,hx31_1,hx31_2,hx31_3,hx31_4,hx31_5⟩:=at_T54 (Kd.R_reads' HO_5.out).2.2 x9_1 p31 q31
       obtain rfl:ad18=ad31:=(by injection e31)
       replace p31:=eq_true p31
       replace q31:=eq_true q31
       go_wp2_with (first|((with_reducible refine gate_dst (N:=83) rfl ?_);(try (refine gate_guard (by rfl) ?_;dsimp only));refine Kd.R_lit (Kd.int .i64) _ 3 ?hg (N:=83) ?hd (xs:=([2]:List Int)) (inner:=[.int .i64 2]) (ok:=fun _=>True) (okp:=fun _=>True) ?hr ?hp (fun _ hk=>hk) trivial (Below.refl _ _) (Nat.le_refl _) (by simp) ?_;(case hd=>rfl);(case hg=>rfl);(case hr=>first|(go_simp;done)|(go_simp;rfl));(case hp=>exact (Reps.one (show Kd.M (Kd.int .i64) _ _ _ 2 [.int .i64 2] from rfl) (Reps.none _ _)));intro v38 w39 ho40 hb hg_ hnew_;clear hg_ hnew_;(first|rw [←Ny37.out] at ho40|(simp only [Int.reduceToNat] at ho40;rw [←Ny37.out] at ho40));replace HO_5:=am_ (Kd.R_below (zr_ HO_5) hb);replace HO_6:=am_ (Kd.V_elder' (by (with_reducible repeat (first|apply Kd.V_alloc|apply Kd.V_drewN|apply Kd.V_drew));exact HO_6.out) (Kd.R_base ho40) hb);replace HO_7:=am_ (Kd.R_below (zr_ HO_7) hb);have HO39:=am_ (Kd.R_lower (Kd.R_new' ho40 (Kd.R_lt (zr_ HO_11))) (below_size (zl0_ HB)));replace HO_11:=am_ (Kd.R_elder' (zr_ HO_11) (Kd.R_base ho40) hb);replace HB:=am_ (below_step (zl0_ HB) hb);clear hb ho40))
       repeat (go_quiet (first|((with_reducible refine gate_dst (N:=83) rfl ?_);(try (refine gate_guard (by rfl) ?_;dsimp only));refine Kd.R_lit (Kd.int .i64) _ 3 ?hg (N:=83) ?hd (xs:=([2]:List Int)) (inner:=[.int .i64 2]) (ok:=fun _=>True) (okp:=fun _=>True) ?hr ?hp (fun _ hk=>hk) trivial (Below.refl _ _) (Nat.le_refl _) (by simp) ?_;(case hd=>rfl);(case hg=>rfl);(case hr=>first|(go_simp;done)|(go_simp;rfl));(case hp=>exact (Reps.one (show Kd.M (Kd.int .i64) _ _ _ 2 [.int .i64 2] from rfl) (Reps.none _ _)));intro v38 w39 ho40 hb hg_ hnew_;clear hg_ hnew_;(first|rw [←Ny37.out] at ho40|(simp only [Int.reduceToNat] at ho40;rw [←Ny37.out] at ho40));replace HO_5:=am_ (Kd.R_below (zr_ HO_5) hb);replace HO_6:=am_ (Kd.V_elder' (by (with_reducible repeat (first|apply Kd.V_alloc|apply Kd.V_drewN|apply Kd.V_drew));exact HO_6.out) (Kd.R_base ho40) hb);replace HO_7:=am_ (Kd.R_below (zr_ HO_7) hb);have HO39:=am_ (Kd.R_lower (Kd.R_new' ho40 (Kd.R_lt (zr_ HO_11))) (below_size (zl0_ HB)));replace HO_11:=am_ (Kd.R_elder' (zr_ HO_11) (Kd.R_base ho40) hb);replace HB:=am_ (below_step (zl0_ HB) hb);clear hb ho40));try go_wp2_with (first|((with_reducible refine gate_dst (N:=83) rfl ?_);(try (refine gate_guard (by rfl) ?_;dsimp only));refine Kd.R_lit (Kd.int .i64) _ 3 ?hg (N:=83) ?hd (xs:=([2]:List Int)) (inner:=[.int .i64 2]) (ok:=fun _=>True) (okp:=fun _=>True) ?hr ?hp (fun _ hk=>hk) trivial (Below.refl _ _) (Nat.le_refl _) (by simp) ?_;(case hd=>rfl);(case hg=>rfl);(case hr=>first|(go_simp;done)|(go_simp;rfl));(case hp=>exact (Reps.one (show Kd.M (Kd.int .i64) _ _ _ 2 [.int .i64 2] from rfl) (Reps.none _ _)));intro v38 w39 ho40 hb hg_ hnew_;clear hg_ hnew_;(first|rw [←Ny37.out] at ho40|(simp only [Int.reduceToNat] at ho40;rw [←Ny37.out] at ho40));replace HO_5:=am_ (Kd.R_below (zr_ HO_5) hb);replace HO_6:=am_ (Kd.V_elder' (by (with_reducible repeat (first|apply Kd.V_alloc|apply Kd.V_drewN|apply Kd.V_drew));exact HO_6.out) (Kd.R_base ho40) hb);replace HO_7:=am_ (Kd.R_below (zr_ HO_7) hb);have HO39:=am_ (Kd.R_lower (Kd.R_new' ho40 (Kd.R_lt (zr_ HO_11))) (below_size (zl0_ HB)));replace HO_11:=am_ (Kd.R_elder' (zr_ HO_11) (Kd.R_base ho40) hb);replace HB:=am_ (below_step (zl0_ HB) hb);clear hb ho40)))
       go_meet
       case rel=>exact ⟨_,(y37),H',⟨by have:=HK1.out;have:=HJ23.out;first|omega|exact Nat.le_refl _⟩,⟨by (with_reducible repeat (first|apply Kd.R_alloc|apply Kd.R_drewN|apply Kd.R_drew));exact HO_5.out⟩,⟨by (with_reducible repeat (first|apply Kd.V_alloc|apply Kd.V_drewN|apply Kd.V_drew));exact Kd.V_mono HO_6.out (fun _ hk=>⟨hk.1.1,⟨hk.1.2.1,hk.2⟩⟩)⟩,⟨by (with_reducible repeat (first|apply Kd.R_alloc|apply Kd.R_drewN|apply Kd.R_drew));exact HO_7.out⟩,⟨by (with_reducible repeat (first|apply Kd.R_alloc|apply Kd.R_drewN|apply Kd.R_drew));exact Kd.R_mono HO39.out (fun _ hk=>trivial)⟩,⟨zl0_ HB⟩⟩
      rw [if_pos c35] at H
      have c35b0:(((rd_T31 t12 t19).f1).toList==((rd_T54 t2 x9_1).f1).toList)=true:=beq_iff_eq.mpr c35
      have c35b1:(((rd_T31 t12 t19).f1).toList !=((rd_T54 t2 x9_1).f1).toList)=false:=bne_eq_false_iff_eq.mpr c35
      clear c35
      by_cases c36:(!(((rd_T31 t12 t19).f2.f0)==((rd_T54 t2 x9_1).f2.f0))||(!(((rd_T31 t12 t19).f2.f1)==((rd_T54 t2 x9_1).f2.f1))||(!(((rd_T31 t12 t19).f2.f2)==((rd_T54 t2 x9_1).f2.f2)))))=true
      rotate_left
      ·rw [if_neg c36] at H
       have c36b0:(!(((rd_T31 t12 t19).f2.f0)==((rd_T54 t2 x9_1).f2.f0))||(!(((rd_T31 t12 t19).f2.f1)==((rd_T54 t2 x9_1).f2.f1))||(!(((rd_T31 t12 t19).f2.f2)==((rd_T54 t2 x9_1).f2.f2)))))=false:=by simpa using c36
       clear c36
       have H':=Aside0.mk H
       clear H
       have p30:0≤(t19:Int):=of_decide_eq_true zq_
       have q30:t19<(t12.length:Int):=of_decide_eq_true zq_
       obtain ⟨ad30,e30,hx30_0,hx30_1,hx30_2,hx30_3,hx30_4,hx30_5,hx30_6,hx30_7,hx30_8,hx30_9,hx30_10,hx30_11⟩:=at_T31 (Kd.V_reads' HO_6.out).2.2 t19 p30 q30
       cases e30
       replace p30:=eq_true p30
       replace q30:=eq_true q30
       have p31:0≤(x9_1:Int):=of_decide_eq_true zq_
       have q31:x9_1<(t2.length:Int):=of_decide_eq_true zq_
       obtain ⟨ad31,e31,hx31_0,hx31_1,hx31_2,hx31_3,hx31_4,hx31_5⟩:=at_T54 (Kd.R_reads' HO_5.out).2.2 x9_1 p31 q31
       obtain rfl:ad18=ad31:=(by injection e31)
       replace p31:=eq_true p31
       replace q31:=eq_true q31
       have p32:0≤(t19:Int):=of_decide_eq_true zq_
       have q32:t19<(t12.length:Int):=of_decide_eq_true zq_
       obtain ⟨ad32,e32,hx32_0,hx32_1,hx32_2,hx32_3,hx32_4,hx32_5,hx32_6,hx32_7,hx32_8,hx32_9,hx32_10,hx32_11⟩:=at_T31 (Kd.V_reads' HO_6.out).2.2 t19 p32 q32
       obtain rfl:ad30=ad32:=(by injection e32)
       replace p32:=eq_true p32
       replace q32:=eq_true q32
       have p33:0≤(x9_1:Int):=of_decide_eq_true zq_
       have q33:x9_1<(t2.length:Int):=of_decide_eq_true zq_
       obtain ⟨ad33,e33,hx33_0,hx33_1,hx33_2,hx33_3,hx33_4,hx33_5⟩:=at_T54 (Kd.R_reads' HO_5.out).2.2 x9_1 p33 q33
       obtain rfl:ad18=ad33:=(by injection e33)
       replace p33:=eq_true p33
       replace q33:=eq_true q33
       go_wp2
       repeat (go_quiet (fail);try go_wp2)
       go_meet
       case rel=>exact ⟨_,(([]:List Int)),H',⟨by have:=HK1.out;have:=HJ23.out;first|omega|exact Nat.le_refl _⟩,⟨by (with_reducible repeat (first|apply Kd.R_alloc|apply Kd.R_drewN|apply Kd.R_drew));exact HO_5.out⟩,⟨by (with_reducible repeat (first|apply Kd.V_alloc|apply Kd.V_drewN|apply Kd.V_drew));exact HO_6.out⟩,⟨by (with_reducible repeat (first|apply Kd.R_alloc|apply Kd.R_drewN|apply Kd.R_drew));exact HO_7.out⟩,⟨by (with_reducible repeat (first|apply Kd.R_alloc|apply Kd.R_drewN|apply Kd.R_drew));exact HO_11.out⟩,⟨zl0_ HB⟩⟩
      rw [if_pos c36] at H
      have c36b0:(!(((rd_T31 t12 t19).f2.f0)==((rd_T54 t2 x9_1).f2.f0))||(!(((rd_T31 t12 t19).f2.f1)==((rd_T54 t2 x9_1).f2.f1))||(!(((rd_T31 t12 t19).f2.f2)==((rd_T54 t2 x9_1).f2.f2)))))=true:=c36
      clear c36
      obtain ⟨y34,hy34⟩: ∃y_:List Int,y_=(([3]:List Int)):=⟨_,rfl⟩
      replace H:(law17_DriftTells.j2 kj23 t2 t12 t15 x8_1 x9_1 y34)=some r:=by first|(rw [hy34];with_reducible exact H)|(have H2_:=(Option.bind_some _ _).symm.trans H;rw [hy34];with_reducible exact H2_)|(have H2_:=(Option.bind_some _ _).symm.trans H;with_reducible exact H2_)|with_reducible exact H|(rw [hy34];exact H)|exact H
      have Ny34:=Aside0.mk hy34
      clear hy34
      have H':=Aside0.mk H
      clear H
      have p30:0≤(t19:Int):=of_decide_eq_true zq_
      have q30:t19<(t12.length:Int):=of_decide_eq_true zq_
      obtain ⟨ad30,e30,hx30_0,hx30_1,hx30_2,hx30_3,hx30_4,hx30_5,hx30_6,hx30_7,hx30_8,hx30_9,hx30_10,hx30_11⟩:=at_T31 (Kd.V_reads' HO_6.out).2.2 t19 p30 q30
      cases e30
      replace p30:=eq_true p30
      replace q30:=eq_true q30
      have p31:0≤(x9_1:Int):=of_decide_eq_true zq_
      have q31:x9_1<(t2.length:Int):=of_decide_eq_true zq_
      obtain ⟨ad31,e31,hx31_0,hx31_1,hx31_2,hx31_3,hx31_4,hx31_5⟩:=at_T54 (Kd.R_reads' HO_5.out).2.2 x9_1 p31 q31
      obtain rfl:ad18=ad31:=(by injection e31)
      replace p31:=eq_true p31
      replace q31:=eq_true q31
      have p32:0≤(t19:Int):=of_decide_eq_true zq_
      have q32:t19<(t12.length:Int):=of_decide_eq_true zq_
      obtain ⟨ad32,e32,hx32_0,hx32_1,hx32_2,hx32_3,hx32_4,hx32_5,hx32_6,hx32_7,hx32_8,hx32_9,hx32_10,hx32_11⟩:=at_T31 (Kd.V_reads' HO_6.out).2.2 t19 p32 q32
      obtain rfl:ad30=ad32:=(by injection e32)
      replace p32:=eq_true p32
      replace q32:=eq_true q32
      have p33:0≤(x9_1:Int):=of_decide_eq_true zq_
      have q33:x9_1<(t2.length:Int):=of_decide_eq_true zq_
      obtain ⟨ad33,e33,hx33_0,hx33_1,hx33_2,hx33_3,hx33_4,hx33_5⟩:=at_T54 (Kd.R_reads' HO_5.out).2.2 x9_1 p33 q33
      obtain rfl:ad18=ad33:=(by injection e33)
      replace p33:=eq_true p33
      replace q33:=eq_true q33
      go_wp2_with (first|((with_reducible refine gate_dst (N:=96) rfl ?_);(try (refine gate_guard (by rfl) ?_;dsimp only));refine Kd.R_lit (Kd.int .i64) _ 3 ?hg (N:=96) ?hd (xs:=([3]:List Int)) (inner:=[.int .i64 3]) (ok:=fun _=>True) (okp:=fun _=>True) ?hr ?hp (fun _ hk=>hk) trivial (Below.refl _ _) (Nat.le_refl _) (by simp) ?_;(case hd=>rfl);(case hg=>rfl);(case hr=>first|(go_simp;done)|(go_simp;rfl));(case hp=>exact (Reps.one (show Kd.M (Kd.int .i64) _ _ _ 3 [.int .i64 3] from rfl) (Reps.none _ _)));intro v35 w37 ho38 hb hg_ hnew_;clear hg_ hnew_;(first|rw [←Ny34.out] at ho38|(simp only [Int.reduceToNat] at ho38;rw [←Ny34.out] at ho38));replace HO_5:=am_ (Kd.R_below (zr_ HO_5) hb);replace HO_6:=am_ (Kd.V_elder' (by (with_reducible repeat (first|apply Kd.V_alloc|apply Kd.V_drewN|apply Kd.V_drew));exact HO_6.out) (Kd.R_base ho38) hb);replace HO_7:=am_ (Kd.R_below (zr_ HO_7) hb);have HO36:=am_ (Kd.R_lower (Kd.R_new' ho38 (Kd.R_lt (zr_ HO_11))) (below_size (zl0_ HB)));replace HO_11:=am_ (Kd.R_elder' (zr_ HO_11) (Kd.R_base ho38) hb);replace HB:=am_ (below_step (zl0_ HB) hb);clear hb ho38))
      repeat (go_quiet (first|((with_reducible refine gate_dst (N:=96) rfl ?_);(try (refine gate_guard (by rfl) ?_;dsimp only));refine Kd.R_lit (Kd.int .i64) _ 3 ?hg (N:=96) ?hd (xs:=([3]:List Int)) (inner:=[.int .i64 3]) (ok:=fun _=>True) (okp:=fun _=>True) ?hr ?hp (fun _ hk=>hk) trivial (Below.refl _ _) (Nat.le_refl _) (by simp) ?_;(case hd=>rfl);(case hg=>rfl);(case hr=>first|(go_simp;done)|(go_simp;rfl));(case hp=>exact (Reps.one (show Kd.M (Kd.int .i64) _ _ _ 3 [.int .i64 3] from rfl) (Reps.none _ _)));intro v35 w37 ho38 hb hg_ hnew_;clear hg_ hnew_;(first|rw [←Ny34.out] at ho38|(simp only [Int.reduceToNat] at ho38;rw [←Ny34.out] at ho38));replace HO_5:=am_ (Kd.R_below (zr_ HO_5) hb);replace HO_6:=am_ (Kd.V_elder' (by (with_reducible repeat (first|apply Kd.V_alloc|apply Kd.V_drewN|apply Kd.V_drew));exact HO_6.out) (Kd.R_base ho38) hb);replace HO_7:=am_ (Kd.R_below (zr_ HO_7) hb);have HO36:=am_ (Kd.R_lower (Kd.R_new' ho38 (Kd.R_lt (zr_ HO_11))) (below_size (zl0_ HB)));replace HO_11:=am_ (Kd.R_elder' (zr_ HO_11) (Kd.R_base ho38) hb);replace HB:=am_ (below_step (zl0_ HB) hb);clear hb ho38));try go_wp2_with (first|((with_reducible refine gate_dst (N:=96) rfl ?_);(try (refine gate_guard (by rfl) ?_;dsimp only));refine Kd.R_lit (Kd.int .i64) _ 3 ?hg (N:=96) ?hd (xs:=([3]:List Int)) (inner:=[.int .i64 3]) (ok:=fun _=>True) (okp:=fun _=>True) ?hr ?hp (fun _ hk=>hk) trivial (Below.refl _ _) (Nat.le_refl _) (by simp) ?_;(case hd=>rfl);(case hg=>rfl);(case hr=>first|(go_simp;done)|(go_simp;rfl));(case hp=>exact (Reps.one (show Kd.M (Kd.int .i64) _ _ _ 3 [.int .i64 3] from rfl) (Reps.none _ _)));intro v35 w37 ho38 hb hg_ hnew_;clear hg_ hnew_;(first|rw [←Ny34.out] at ho38|(simp only [Int.reduceToNat] at ho38;rw [←Ny34.out] at ho38));replace HO_5:=am_ (Kd.R_below (zr_ HO_5) hb);replace HO_6:=am_ (Kd.V_elder' (by (with_reducible repeat (first|apply Kd.V_alloc|apply Kd.V_drewN|apply Kd.V_drew));exact HO_6.out) (Kd.R_base ho38) hb);replace HO_7:=am_ (Kd.R_below (zr_ HO_7) hb);have HO36:=am_ (Kd.R_lower (Kd.R_new' ho38 (Kd.R_lt (zr_ HO_11))) (below_size (zl0_ HB)));replace HO_11:=am_ (Kd.R_elder' (zr_ HO_11) (Kd.R_base ho38) hb);replace HB:=am_ (below_step (zl0_ HB) hb);clear hb ho38)))
      go_meet
      case rel=>exact ⟨_,(y34),H',⟨by have:=HK1.out;have:=HJ23.out;first|omega|exact Nat.le_refl _⟩,⟨by (with_reducible repeat (first|apply Kd.R_alloc|apply Kd.R_drewN|apply Kd.R_drew));exact HO_5.out⟩,⟨by (with_reducible repeat (first|apply Kd.V_alloc|apply Kd.V_drewN|apply Kd.V_drew));exact Kd.V_mono HO_6.out (fun _ hk=>⟨hk.1.1,⟨hk.1.2.1,hk.2⟩⟩)⟩,⟨by (with_reducible repeat (first|apply Kd.R_alloc|apply Kd.R_drewN|apply Kd.R_drew));exact HO_7.out⟩,⟨by (with_reducible repeat (first|apply Kd.R_alloc|apply Kd.R_drewN|apply Kd.R_drew));exact Kd.R_mono HO36.out (fun _ hk=>trivial)⟩,⟨zl0_ HB⟩⟩
   case rest=>
    clear HC20
    try clear c1
    try clear p1
    try clear q1
    try clear hx1
    try clear c2
    try clear p2
    try clear q2
    try clear hx2
    try clear c3
    try clear c3b0
    try clear c3b1
    try clear p3
    try clear q3
    try clear hx3
    try clear c5
    try clear c17
    try clear c17b0
    try clear c18
    try clear c18b0
    try clear p18
    try clear q18
    try clear hx18
    try clear c21
    try clear c21b0
    try clear p23
    try clear q23
    try clear hx23
    try clear p24
    try clear q24
    try clear hx24
    try clear c25
    try clear c25b0
    try clear p25
    try clear q25
    try clear hx25
    try clear c26
    try clear c26b0
    try clear p26
    try clear q26
    try clear hx26
    try clear c27
    try clear c27b0
    try clear c27b1
    try clear c28
    try clear p30
    try clear q30
    try clear hx30
    try clear c31
    try clear c31b0
    try clear p31
    try clear q31
    try clear hx31
    try clear c32
    try clear c32b0
    try clear p32
    try clear q32
    try clear hx32
    try clear c33
    try clear c33b0
    try clear p33
    try clear q33
    try clear hx33
    try clear c34
    try clear c34b0
    try clear c35
    try clear c35b0
    try clear c35b1
    try clear c36
    try clear c36b0
    try clear hx18_0
    try clear hx18_1
    try clear hx18_2
    try clear hx18_3
    try clear hx18_4
    try clear hx18_5
    try clear hx23_0
    try clear hx23_1
    try clear hx23_10
    try clear hx23_11
    try clear hx23_2
    try clear hx23_3
    try clear hx23_4
    try clear hx23_5
    try clear hx23_6
    try clear hx23_7
    try clear hx23_8
    try clear hx23_9
    try clear hx24_0
    try clear hx24_1
    try clear hx24_2
    try clear hx24_3
    try clear hx24_4
    try clear hx24_5
    try clear hx25_0
    try clear hx25_1
    try clear hx25_10
    try clear hx25_11
    try clear hx25_2
    try clear hx25_3
    try clear hx25_4
    try clear hx25_5
    try clear hx25_6
    try clear hx25_7
    try clear hx25_8
    try clear hx25_9
    try clear hx26_0
    try clear hx26_1
    try clear hx26_2
    try clear hx26_3
    try clear hx26_4
    try clear hx26_5
    try clear hx30_0
    try clear hx30_1
    try clear hx30_10
    try clear hx30_11
    try clear hx30_2
    try clear hx30_3
    try clear hx30_4
    try clear hx30_5
    try clear hx30_6
    try clear hx30_7
    try clear hx30_8
    try clear hx30_9
    try clear hx31_0
    try clear hx31_1
    try clear hx31_2
    try clear hx31_3
    try clear hx31_4
    try clear hx31_5
    try clear hx32_0
    try clear hx32_1
    try clear hx32_10
    try clear hx32_11
    try clear hx32_2
    try clear hx32_3
    try clear hx32_4
    try clear hx32_5
    try clear hx32_6
    try clear hx32_7
    try clear hx32_8
    try clear hx32_9
    try clear hx33_0
    try clear hx33_1
    try clear hx33_2
    try clear hx33_3
    try clear hx33_4
    try clear hx33_5
    try clear p1
    try clear p18
    try clear p2
    try clear p23
    try clear p24
    try clear p25
    try clear p26
    try clear p30
    try clear p31
    try clear p32
    try clear p33
    try clear q1
    try clear q18
    try clear q2
    try clear q23
    try clear q24
    try clear q25
    try clear q26
    try clear q30
    try clear q31
    try clear q32
    try clear q33
    obtain ⟨kq,x11_19,HA,HJ19,HO_5,HO_6,HO_7,HO_11,HB⟩:=hcut
    cases kq with
    |zero=>exact absurd HA.out (by simp [law17_DriftTells.j2])
    |succ kj19=>
     have H:=HA.out
     clear HA
     simp only [law17_DriftTells.j2] at H
     have H':=Aside0.mk H
     clear H
     go_wp2
     repeat (go_quiet (fail);try go_wp2)
     go_loopg [8,12] kj19 (fun kq v8 v12 w'=> ∃(x8_3:Int) (x12_3:Int),v8= .int .i64 x8_3∧v12= .int .i64 x12_3∧Aside0 (law17_DriftTells.l1 kq t2 t12 t15 x8_3 x9_1 x11_19 x12_3=some r)∧Aside0 (kq≤kj19)∧Aside0 (Kd.R k54 54 w' w.heap.size (fun _=>True) (.slice (some ad18) t2.length co14) t2)∧Aside0 (Kd.V k31 31 w' w.heap.size (fun k_=>some k_≠((.slice (some ad18) t2.length co14):Value).ownBlock∧some k_≠(v16:Value).ownBlock∧some k_≠(u11:Value).ownBlock) (.slice Ao15 t12.length co15) t12)∧Aside0 (Kd.R k37 37 w' w.heap.size (fun _=>True) v16 t15)∧Aside0 (Kd.R (Kd.int .i64) 3 w' w.heap.size (fun _=>True) u11 x11_19)∧Aside0 (Below w.heap.size w w'))
     case atStart=>exact ⟨(x8_1),(0),(by first|rfl|(simp;done)|(simp [*];done)),(by first|rfl|(simp;done)|(simp [*];done)),H',⟨Nat.le_refl _⟩,⟨by (with_reducible repeat (first|apply Kd.R_alloc|apply Kd.R_drewN|apply Kd.R_drew));exact HO_5.out⟩,⟨by (with_reducible repeat (first|apply Kd.V_alloc|apply Kd.V_drewN|apply Kd.V_drew));exact HO_6.out⟩,⟨by (with_reducible repeat (first|apply Kd.R_alloc|apply Kd.R_drewN|apply Kd.R_drew));exact HO_7.out⟩,⟨by (with_reducible repeat (first|apply Kd.R_alloc|apply Kd.R_drewN|apply Kd.R_drew));exact HO_11.out⟩,⟨zl0_ HB⟩⟩
     case round=>
      clear H'
      try clear c1
      try clear p1
      try clear q1
      try clear hx1
      try clear c2
      try clear p2
      try clear q2
      try clear hx2
      try clear c3
      try clear c3b0
      try clear c3b1
      try clear p3
      try clear q3
      try clear hx3
      try clear c5
      try clear c17
      try clear c17b0
      try clear c18
      try clear c18b0
      try clear p18
      try clear q18
      try clear hx18
      try clear c21
      try clear c21b0
      try clear p23
      try clear q23
      try clear hx23
      try clear p24
      try clear q24
      try clear hx24
      try clear c25
      try clear c25b0
      try clear p25
      try clear q25
      try clear hx25
      try clear c26
      try clear c26b0
      try clear p26
      try clear q26
      try clear hx26
      try clear c27
      try clear c27b0
      try clear c27b1
      try clear c28
      try clear p30
      try clear q30
      try clear hx30
      try clear c31
      try clear c31b0
      try clear p31
      try clear q31
      try clear hx31
      try clear c32
      try clear c32b0
      try clear p32
      try clear q32
      try clear hx32
      try clear c33
      try clear c33b0
      try clear p33
      try clear q33
      try clear hx33
      try clear c34
      try clear c34b0
      try clear c35
      try clear c35b0
      try clear c35b1
      try clear c36
      try clear c36b0
      try clear hx18_0
      try clear hx18_1
      try clear hx18_2
      try clear hx18_3
      try clear hx18_4
      try clear hx18_5
      try clear hx23_0
      try clear hx23_1
      try clear hx23_10
      try clear hx23_11
      try clear hx23_2
      try clear hx23_3
      try clear hx23_4
      try clear hx23_5
      try clear hx23_6
      try clear hx23_7
      try clear hx23_8
      try clear hx23_9
      try clear hx24_0
      try clear hx24_1
      try clear hx24_2
      try clear hx24_3
      try clear hx24_4
      try clear hx24_5
      try clear hx25_0
      try clear hx25_1
      try clear hx25_10
      try clear hx25_11
      try clear hx25_2
      try clear hx25_3
      try clear hx25_4
      try clear hx25_5
      try clear hx25_6
      try clear hx25_7
      try clear hx25_8
      try clear hx25_9
      try clear hx26_0
      try clear hx26_1
      try clear hx26_2
      try clear hx26_3
      try clear hx26_4
      try clear hx26_5
      try clear hx30_0
      try clear hx30_1
      try clear hx30_10
      try clear hx30_11
      try clear hx30_2
      try clear hx30_3
      try clear hx30_4
      try clear hx30_5
      try clear hx30_6
      try clear hx30_7
      try clear hx30_8
      try clear hx30_9
      try clear hx31_0
      try clear hx31_1
      try clear hx31_2
      try clear hx31_3
      try clear hx31_4
      try clear hx31_5
      try clear hx32_0
      try clear hx32_1
      try clear hx32_10
      try clear hx32_11
      try clear hx32_2
      try clear hx32_3
      try clear hx32_4
      try clear hx32_5
      try clear hx32_6
      try clear hx32_7
      try clear hx32_8
      try clear hx32_9
      try clear hx33_0
      try clear hx33_1
      try clear hx33_2
      try clear hx33_3
      try clear hx33_4
      try clear hx33_5
      try clear p1
      try clear p18
      try clear p2
      try clear p23
      try clear p24
      try clear p25
      try clear p26
      try clear p3
      try clear p30
      try clear p31
      try clear p32
      try clear p33
      try clear q1
      try clear q18
      try clear q2
      try clear q23
      try clear q24
      try clear q25
      try clear q26
      try clear q3
      try clear q30
      try clear q31
      try clear q32
      try clear q33
      obtain ⟨x8_3,x12_3,rfl,rfl,HA,HK3,HO_5,HO_6,HO_7,HO_11,HB⟩:=hrel
      cases gk with
      |zero=>exact absurd HA.out (by simp [law17_DriftTells.l1])
      |succ k3=>
       have H:=HA.out
       clear HA
       simp only [law17_DriftTells.l1] at H
       by_cases c41:x12_3<(x11_19.length:Int)
       rotate_left
       ·rw [if_neg c41] at H
        have c41b0:decide (x12_3<(x11_19.length:Int))=false:=decide_eq_false c41
        clear c41
        have H':=Aside0.mk H
        clear H
        obtain ⟨Ao55,co55,eo55⟩:=Kd.R_slice HO_11.out
        subst eo55
        go_wp2
        repeat (go_quiet (fail);try go_wp2)
        go_roundg k3
        case measure=>have:=HK1.out;have:=HJ19.out;have:=HK3.out;omega
        case rel=>exact ⟨(x8_3),(wrap64 (x9_1+1)),(by first|rfl|(simp;done)|(simp [*];done)),(by first|rfl|(simp;done)|(simp [*];done)),H',⟨by have:=HK1.out;have:=HJ19.out;have:=HK3.out;omega⟩,⟨by (with_reducible repeat (first|apply Kd.R_alloc|apply Kd.R_drewN|apply Kd.R_drew));exact HO_5.out⟩,⟨by (with_reducible repeat (first|apply Kd.V_alloc|apply Kd.V_drewN|apply Kd.V_drew));exact Kd.V_mono HO_6.out (fun _ hk=>⟨hk.1,hk.2.1⟩)⟩,⟨by (with_reducible repeat (first|apply Kd.R_alloc|apply Kd.R_drewN|apply Kd.R_drew));exact HO_7.out⟩,⟨zl0_ HB⟩⟩
       rw [if_pos c41] at H
       have c41b0:decide (x12_3<(x11_19.length:Int))=true:=decide_eq_true c41
       clear c41
       by_cases c42:x8_3≥(t15.length:Int)
       ·rw [if_pos c42] at H
        exact absurd H (by simp)
       rw [if_neg c42] at H
       have c42b0:decide ((t15.length:Int)≤x8_3)=false:=decide_eq_false c42
       clear c42
       by_cases c45:0≤x8_3
       rotate_left
       ·rw [if_neg c45] at H
        exact absurd H (by simp)
       rw [if_pos c45] at H
       have c45b0:decide (0≤x8_3)=true:=decide_eq_true c45
       clear c45
       by_cases c46:x8_3<(t15.length:Int)
       rotate_left
       ·rw [if_neg c46] at H
        exact absurd H (by simp)
       rw [if_pos c46] at H
       have c46b0:decide (x8_3<(t15.length:Int))=true:=decide_eq_true c46
       clear c46
       by_cases c47:0≤x9_1
       rotate_left
       ·rw [if_neg c47] at H
        exact absurd H (by simp)
       rw [if_pos c47] at H
       have c47b0:decide (0≤x9_1)=true:=decide_eq_true c47
       clear c47
       by_cases c48:x9_1<(t2.length:Int)
       rotate_left
       ·rw [if_neg c48] at H
        exact absurd H (by simp)
       rw [if_pos c48] at H
       have c48b0:decide (x9_1<(t2.length:Int))=true:=decide_eq_true c48
       clear c48
       by_cases c49:0≤x12_3
       rotate_left
       ·rw [if_neg c49] at H
        exact absurd H (by simp)
       rw [if_pos c49] at H
       have c49b0:decide (0≤x12_3)=true:=decide_eq_true c49
       clear c49
       by_cases c50:(!((((rd_T37 t15 x8_3).f0).toList)==(((rd_T54 t2 x9_1).f0).toList))||(!(((rd_T37 t15 x8_3).f1)==(rd x11_19 x12_3))))=true
       ·rw [if_pos c50] at H
        exact absurd H (by simp)
       rw [if_neg c50] at H
       have c50b0:(!((((rd_T37 t15 x8_3).f0).toList)==(((rd_T54 t2 x9_1).f0).toList))||(!(((rd_T37 t15 x8_3).f1)==(rd x11_19 x12_3))))=false:=by simpa using c50
       clear c50
       have H':=Aside0.mk H
       clear H
       obtain ⟨Ao53,co53,eo53⟩:=Kd.R_slice HO_11.out
       subst eo53
       obtain ⟨Ao54,co54,eo54⟩:=Kd.R_slice HO_7.out
       subst eo54
       have p40:0≤(x8_3:Int):=of_decide_eq_true zq_
       have q40:x8_3<(t15.length:Int):=of_decide_eq_true zq_
       obtain ⟨ad40,e40,hx40_0,hx40_1⟩:=at_T37 (Kd.R_reads' HO_7.out).2.2 x8_3 p40 q40
       cases e40
       replace p40:=eq_true p40
       replace q40:=eq_true q40
       have p41:0≤(x9_1:Int):=of_decide_eq_true zq_
       have q41:x9_1<(t2.length:Int):=of_decide_eq_true zq_
       obtain ⟨ad41,e41,hx41_0,hx41_1,hx41_2,hx41_3,hx41_4,hx41_5⟩:=at_T54 (Kd.R_reads' HO_5.out).2.2 x9_1 p41 q41
       obtain rfl:ad18=ad41:=(by injection e41)
       replace p41:=eq_true p41
       replace q41:=eq_true q41
       have p42:0≤(x12_3:Int):=of_decide_eq_true zq_
       have q42:x12_3<(x11_19.length:Int):=of_decide_eq_true zq_
       obtain ⟨ad42,e42,hx42_0⟩:=Kd.at_int (Kd.R_reads' HO_11.out).2.2 x12_3 p42 q42
       cases e42
       replace p42:=eq_true p42
       replace q42:=eq_true q42
       go_wp2
       repeat (go_quiet (fail);try go_wp2)
       go_roundg k3
       case measure=>have:=HK1.out;have:=HJ19.out;have:=HK3.out;omega
       case rel=>exact ⟨(wrap64 (x8_3+1)),(wrap64 (x12_3+1)),(by first|rfl|(simp;done)|(simp [*];done)),(by first|rfl|(simp;done)|(simp [*];done)),H',⟨by have:=HK1.out;have:=HJ19.out;have:=HK3.out;omega⟩,⟨by (with_reducible repeat (first|apply Kd.R_alloc|apply Kd.R_drewN|apply Kd.R_drew));exact HO_5.out⟩,⟨by (with_reducible repeat (first|apply Kd.V_alloc|apply Kd.V_drewN|apply Kd.V_drew));exact HO_6.out⟩,⟨by (with_reducible repeat (first|apply Kd.R_alloc|apply Kd.R_drewN|apply Kd.R_drew));exact HO_7.out⟩,⟨by (with_reducible repeat (first|apply Kd.R_alloc|apply Kd.R_drewN|apply Kd.R_drew));exact HO_11.out⟩,⟨zl0_ HB⟩⟩
def law17_DriftTells.Pure:Prop:= ∀(l0:List Int) (l1:List Int),l0.length≤maxLen→l0.length*1≤140737488351232→(∀x∈l0,(Lit.int .u8 x).wf=true)→l1.length≤maxLen→l1.length*1≤140737488351232→(∀x∈l1,(Lit.int .u8 x).wf=true)→ ∃k,law17_DriftTells.f k l0 l1=some true
theorem law17_DriftTells.walk (P:law17_DriftTells.Pure) (a0:Option Addr) (len0 cap0:Nat) (z0:List Int) (a1:Option Addr) (len1 cap1:Nat) (z1:List Int) (w:World) (w0:(a0=none∧len0=0∧cap0=0∧z0=[])∨ ∃x,a0=some x∧len0≤cap0∧cap0≤maxLen∧z0.length=cap0∧(∀i,i<z0.length→w.cell? (x.add i)=some (.int .u8 (z0.getD i 0)))∧ ∀n∈z0,(Lit.int .u8 n).wf=true) (y0:len0*1≤140737488351232) (w1:(a1=none∧len1=0∧cap1=0∧z1=[])∨ ∃x,a1=some x∧len1≤cap1∧cap1≤maxLen∧z1.length=cap1∧(∀i,i<z1.length→w.cell? (x.add i)=some (.int .u8 (z1.getD i 0)))∧ ∀n∈z1,(Lit.int .u8 n).wf=true) (y1:len1*1≤140737488351232):
  Calls Try.prog 5 #[.slice a0 len0 cap0, .slice a1 len1 cap1] w fun e w'=>e= .returned (.bool true)∧Below w.heap.size w w':=by
 obtain ⟨l0,rfl,hr0,hm0,hw0,hc0⟩:=ReadsInt.ofRowC w0
 obtain ⟨l1,rfl,hr1,hm1,hw1,hc1⟩:=ReadsInt.ofRowC w1
 obtain ⟨k,h⟩:=P l0 l1 hm0 y0 hw0 hm1 y1 hw1
 refine (law17_DriftTells.calls k _ _ l0 _ _ l1 true w (Kd.C_of_reads (d:=(0:Int)) (h1:=fun _=>rfl) hr0) hc0 (Kd.C_of_reads (d:=(0:Int)) (h1:=fun _=>rfl) hr1) hc1 h).mono ?_
 rintro e w' ⟨rfl,hd⟩
 exact ⟨rfl,hd⟩

end Go.Proofs.Ytcgefpklljclgaa.Print

namespace Go.Proofs.Ytcgefpklljclgaa.Print
open Go.RowKit Go.Proofs.YtcgefpklljclgaaW.PrintWords Go.Proofs.YtcgefpklljclgaaW.PrintLast
abbrev Item:=S31
abbrev Vec:=S27
abbrev zItem:Item:=z31
theorem rd_item (l:List Item) (i:Int):rd_T31 l i=l.getD i.toNat zItem:=rfl
instance baLawful:LawfulBEq ByteArray where
 eq_of_beq {a b} h:=by
  obtain ⟨a⟩:=a
  obtain ⟨b⟩:=b
  have:(a==b)=true:=h
  rw [eq_of_beq this]
 rfl {a}:=by
  obtain ⟨a⟩:=a
  show (a==a)=true
  exact beq_self_eq_true a
theorem nm_inj {a b:ByteArray}:a.toList=b.toList↔a=b:=by
  constructor
  rotate_left
  · rintro rfl;rfl
  intro h
  rw [ByteArray.toList_eq,ByteArray.toList_eq] at h
  exact ByteArray.ext (Array.toList_inj.1 h)
theorem nm_beq (a b:ByteArray):(a.toList==b.toList)=decide (a=b):=by
 rw [Bool.eq_iff_iff,beq_iff_eq,nm_inj,decide_eq_true_iff]
theorem nm_empty {a:ByteArray}:a.toList=([]:List UInt8)↔a=⟨#[]⟩:=by
 rw [←nm_inj];rw [show (ByteArray.mk #[]).toList=[] from by rw [ByteArray.toList_eq]]
theorem Ev.const {α:Type} {g:Option α} {r:α} (h:g=some r):Ev (fun _=>g) r:=⟨0,fun _ _=>h⟩
theorem w64 {n:Int} (h0: -9223372036854775808≤n) (h1:n≤9223372036854775807):wrap64 n=n:=by unfold wrap64;omega
def look (l:List Item) (n:ByteArray):Option Item:=l.find? (fun x=>x.f0=n)
def fnd (l:List Item) (n:ByteArray):Int:=fidx (fun x:Item=>x.f0.toList==n.toList) l 0
theorem fidx_none {α:Type} {p:α→Bool}: ∀{l:List α} {i:Int},(∀x∈l,p x=false)→fidx p l i= -1
  |[],_,_=>rfl
  | x :: l, i, h => by
    unfold fidx
    rw [if_neg (by rw [h x (by simp)];simp)]
    exact fidx_none (fun y hy=>h y (by simp [hy]))
theorem fidx_some {α:Type} {p:α→Bool} (z:α): ∀{l:List α} {i:Int} {x:α},l.find? p=some x→ ∃j:Nat,j<l.length∧fidx p l i=i+j∧l.getD j z=x∧p x=true∧ ∀m,m<j→p (l.getD m z)=false
  |[],_,_,h=>by simp at h
  | y :: l, i, x, h => by
    unfold fidx
    by_cases hy:p y=true
    · rw [if_pos hy]
      simp only [List.find?_cons,hy] at h
      obtain rfl:=Option.some.inj h
      exact ⟨0,by simp,by simp,by simp,hy,fun m hm=>by omega⟩
    rw [if_neg hy]
    have hy':p y=false:=by simpa using hy
    simp only [List.find?_cons,hy'] at h
    obtain ⟨j,hj,h1,h2,h3,h4⟩:=fidx_some z (i:=i+1) h
    refine ⟨j+1,by simp;omega,by rw [h1];omega,by simpa using h2,h3,fun m hm=> ?_⟩
    cases m with
    |zero=>simpa using hy'
    |succ m=>simpa using h4 m (by omega)
theorem look_pred (n:ByteArray):(fun x:Item=>x.f0.toList==n.toList)=(fun x:Item=>decide (x.f0=n)):=by
 funext x;exact nm_beq _ _
theorem look_mem {l:List Item} {n:ByteArray} {x:Item} (h:look l n=some x):x∈l∧x.f0=n:=by
 unfold look at h
 exact ⟨List.mem_of_find?_eq_some h,by simpa using List.find?_some h⟩
theorem look_none {l:List Item} {n:ByteArray}:look l n=none↔ ∀x∈l,x.f0≠n:=by
 unfold look
 simp
theorem fnd_none {l:List Item} {n:ByteArray} (h:look l n=none):fnd l n= -1:=by
 unfold fnd
 refine fidx_none fun x hx=> ?_
 rw [nm_beq]
 simpa using look_none.1 h x hx
theorem fnd_some {l:List Item} {n:ByteArray} {x:Item} (h:look l n=some x): ∃j:Nat,j<l.length∧fnd l n=j∧l.getD j zItem=x∧x.f0=n∧ ∀m,m<j→(l.getD m zItem).f0≠n:=by
 have h':l.find? (fun x:Item=>x.f0.toList==n.toList)=some x:=by rw [look_pred];exact h
 obtain ⟨j,h1,h2,h3,h4,h5⟩:=fidx_some zItem (i:=0) h'
 refine ⟨j,h1,by unfold fnd;rw [h2];omega,h3,by simpa [nm_beq] using h4,fun m hm=> ?_⟩
 simpa [nm_beq] using h5 m hm
theorem fnd_lt (l:List Item) (n:ByteArray):fnd l n<l.length:=by
 cases h:look l n with
 |none=>rw [fnd_none h];omega
 |some x=>obtain ⟨j,h1,h2,_⟩:=fnd_some h;omega
theorem fnd_neg {l:List Item} {n:ByteArray}:fnd l n<0↔look l n=none:=by
 cases h:look l n with
 |none=>rw [fnd_none h];simp
 |some x=>obtain ⟨j,h1,h2,_⟩:=fnd_some h;simp;omega
theorem fnd_ge {l:List Item} {n:ByteArray}:0≤fnd l n↔ ∃x,look l n=some x:=by
 cases h:look l n with
 |none=>rw [fnd_none h];simp
 |some x=>obtain ⟨j,h1,h2,_⟩:=fnd_some h;simp;omega
theorem fnd_rd {l:List Item} {n:ByteArray} {x:Item} (h:look l n=some x):rd_T31 l (fnd l n)=x:=by
 obtain ⟨j,h1,h2,h3,_⟩:=fnd_some h
 rw [rd_item,h2,Int.toNat_natCast];exact h3
theorem tree_Find_eq (l:List Item) (n:ByteArray):tree_Find.f l n=some (fnd l n):=rfl
inductive Chain (l:List Item):ByteArray→List ByteArray→Prop where
 |nil {n:ByteArray}:look l n=none→Chain l n []
 |cons {n:ByteArray} {x:Item} {us:List ByteArray}:look l n=some x→Chain l x.f1 us→Chain l n (n::us)
def upGo (l:List Item):Nat→ByteArray→List ByteArray
  |0,_=> []
  | m + 1, n => match look l n with
    |none=> []
    |some x=>n::upGo l m x.f1
def up (l:List Item) (n:ByteArray):List ByteArray:=upGo l (l.length+1) n
theorem upGo_len (l:List Item): ∀(m:Nat) (n:ByteArray),(upGo l m n).length≤m
  |0,_=>by simp [upGo]
  | m + 1, n => by
    unfold upGo
    cases look l n with
    |none=>simp
    |some x=>have:=upGo_len l m x.f1;simp;omega
theorem up_len (l:List Item) (n:ByteArray):(up l n).length≤l.length+1:=upGo_len l _ n
theorem upGo_none {l:List Item} {n:ByteArray} (h:look l n=none) (m:Nat):upGo l m n=[]:=by
 cases m with
 |zero=>rfl
 |succ m=>unfold upGo;rw [h]
theorem upGo_some {l:List Item} {n:ByteArray} {x:Item} (h:look l n=some x) (m:Nat):upGo l (m+1) n=n::upGo l m x.f1:=by
 rw [upGo.eq_2,h]
theorem Chain.det {l:List Item} {n:ByteArray} {us:List ByteArray} (h:Chain l n us): ∀{vs:List ByteArray},Chain l n vs→us=vs:=by
  induction h with
  | nil h =>
    intro vs k
    cases k with
    |nil _=>rfl
    |cons k _=>rw [h] at k;cases k
  | cons h _ ih =>
    intro vs k
    cases k with
    |nil k=>rw [h] at k;cases k
    | cons k k2 =>
      rw [h] at k
      cases k
      rw [ih k2]
theorem Chain.upGo {l:List Item} {n:ByteArray} {us:List ByteArray} (h:Chain l n us): ∀m,us.length≤m→upGo l m n=us:=by
  induction h with
  |nil h=>intro m _;exact upGo_none h m
  | cons h _ ih =>
    intro m hm
    cases m with
    |zero=>simp at hm
    | succ m =>
      rw [upGo_some h,ih m (by simpa using hm)]
theorem Chain.suffix {l:List Item} {n:ByteArray} {us:List ByteArray} (h:Chain l n us): ∀{m:ByteArray},m∈us→ ∃vs ws,us=ws++vs∧Chain l m vs∧ ∃vt,vs=m::vt:=by
  induction h with
  |nil _=>intro m hm;cases hm
  | @cons n x us h k ih =>
    intro m hm
    rcases List.mem_cons.1 hm with rfl|hm
    · exact ⟨_,[],rfl, .cons h k,_,rfl⟩
    obtain ⟨vs,ws,e,hc,he⟩:=ih hm
    exact ⟨vs,n::ws,by rw [e];rfl,hc,he⟩
theorem Chain.mem_look {l:List Item} {n:ByteArray} {us:List ByteArray} (h:Chain l n us) {m:ByteArray} (hm:m∈us): ∃x,look l m=some x:=by
 obtain ⟨vs,ws,_,hc,vt,rfl⟩:=h.suffix hm
 cases hc with
 |cons h _=>exact ⟨_,h⟩
theorem Chain.nodup {l:List Item} {n:ByteArray} {us:List ByteArray} (h:Chain l n us):us.Nodup:=by
  induction h with
  |nil _=>simp
  | @cons n x us h k ih =>
    rw [List.nodup_cons]
    refine ⟨fun hm=> ?_,ih⟩
    obtain ⟨vs,ws,e,hc,_⟩:=k.suffix hm
    have:=hc.det (.cons h k)
    rw [this] at e
    have:=congrArg List.length e
    simp at this
    omega
theorem Chain.len {l:List Item} {n:ByteArray} {us:List ByteArray} (h:Chain l n us):us.length≤l.length:=by
 have:=h.nodup.length_le_of_subset (l₂:=l.map (·.f0)) (fun m hm=>by
  obtain ⟨x,hx⟩:=h.mem_look hm
  obtain ⟨h1,rfl⟩:=look_mem hx
  exact List.mem_map_of_mem h1)
 simpa using this
theorem Chain.up {l:List Item} {n:ByteArray} {us:List ByteArray} (h:Chain l n us):up l n=us:=h.upGo _ (by have:=h.len;omega)
def lt (a b:ByteArray):Bool:=Op.bytesLess a.toList b.toList
theorem bl_irrefl: ∀a:List UInt8,Op.bytesLess a a=false
 |[]=>rfl
 |x::a=>by unfold Op.bytesLess;simp [bl_irrefl a]
theorem bl_trans: ∀{a b c:List UInt8},Op.bytesLess a b=true→Op.bytesLess b c=true→Op.bytesLess a c=true
  |[],[],_,h,_=>by simp [Op.bytesLess] at h
  |[],_::_,[],_,k=>by simp [Op.bytesLess] at k
  |[],_::_,_::_,_,_=>by simp [Op.bytesLess]
  |_::_,[],_,h,_=>by simp [Op.bytesLess] at h
  |_::_,_::_,[],_,k=>by simp [Op.bytesLess] at k
  | x :: a, y :: b, z :: c, h, k => by
    simp only [Op.bytesLess,Bool.or_eq_true,Bool.and_eq_true,decide_eq_true_eq,beq_iff_eq] at h k ⊢
    rcases h with h|⟨rfl,h⟩
    · rcases k with k | ⟨rfl, k⟩
      · exact .inl (UInt8.lt_trans h k)
      exact .inl h
    rcases k with k|⟨rfl,k⟩
    · exact .inl k
    exact .inr ⟨rfl,bl_trans h k⟩
theorem bl_total: ∀{a b:List UInt8},Op.bytesLess a b=false→a≠b→Op.bytesLess b a=true
  |[],[],_,h=>absurd rfl h
  |[],_::_,h,_=>by simp [Op.bytesLess] at h
  |_::_,[],_,_=>by simp [Op.bytesLess]
  | x :: a, y :: b, h, k => by
    simp only [Op.bytesLess,Bool.or_eq_true,Bool.or_eq_false_iff,Bool.and_eq_false_iff,Bool.and_eq_true,decide_eq_true_eq,decide_eq_false_iff_not,beq_iff_eq,beq_eq_false_iff_ne] at h ⊢
    obtain ⟨h1,h2⟩:=h
    by_cases e:x=y
    · subst e
      rcases h2 with h2|h2
      · exact absurd rfl h2
      exact .inr ⟨rfl,bl_total h2 (fun e=>k (by rw [e]))⟩
    left
    have h3: ¬x.toNat<y.toNat:=by rwa [←UInt8.lt_iff_toNat_lt]
    have h4:x.toNat≠y.toNat:=fun q=>e (UInt8.toNat_inj.1 q)
    rw [UInt8.lt_iff_toNat_lt];omega
theorem lt_irrefl (a:ByteArray):lt a a=false:=bl_irrefl _
theorem lt_trans {a b c:ByteArray} (h:lt a b=true) (k:lt b c=true):lt a c=true:=bl_trans h k
theorem lt_total {a b:ByteArray} (h:lt a b=false) (k:a≠b):lt b a=true:=bl_total h (fun e=>k (nm_inj.1 e))
theorem lt_ne {a b:ByteArray} (h:lt a b=true):a≠b:=by rintro rfl;rw [lt_irrefl] at h;cases h
inductive Comp where|cpu|mem|pods
def Comp.of:Comp→Vec→Int| .cpu,v=>v.f0| .mem,v=>v.f1| .pods,v=>v.f2
def vadd (a b:Vec):Vec:=⟨a.f0+b.f0,a.f1+b.f1,a.f2+b.f2⟩
def vsub (a b:Vec):Vec:=⟨a.f0 - b.f0,a.f1 - b.f1,a.f2 - b.f2⟩
theorem of_vadd (c:Comp) (a b:Vec):c.of (vadd a b)=c.of a+c.of b:=by cases c<;>rfl
theorem of_vsub (c:Comp) (a b:Vec):c.of (vsub a b)=c.of a - c.of b:=by cases c<;>rfl
def MayP (v:Vec):Prop:= ∀c:Comp,0≤c.of v∧c.of v≤1099511627776
def LeP (a b:Vec):Prop:= ∀c:Comp,c.of a≤c.of b
theorem comp_all {p:Comp→Prop}:(∀c,p c)↔p .cpu∧p .mem∧p .pods:=
 ⟨fun h=>⟨h _,h _,h _⟩,fun ⟨a,b,d⟩ c=>by cases c<;>assumption⟩
instance (v:Vec):Decidable (MayP v):=decidable_of_iff _ comp_all.symm
instance (a b:Vec):Decidable (LeP a b):=decidable_of_iff _ comp_all.symm
theorem mayP_iff {a b d:Int}:MayP ⟨a,b,d⟩↔(0≤a∧a≤1099511627776)∧(0≤b∧b≤1099511627776)∧(0≤d∧d≤1099511627776):=comp_all
theorem leP_iff {a b d a' b' d':Int}:LeP ⟨a,b,d⟩ ⟨a',b',d'⟩↔a≤a'∧b≤b'∧d≤d':=comp_all
def sumBy (g:Item→Int) (l:List Item):Int:=(l.map g).sum
theorem sumBy_nil (g:Item→Int):sumBy g []=0:=rfl
theorem sumBy_cons (g:Item→Int) (x:Item) (l:List Item):sumBy g (x::l)=g x+sumBy g l:=by simp [sumBy]
theorem sumBy_append (g:Item→Int) (l m:List Item):sumBy g (l++m)=sumBy g l+sumBy g m:=by simp [sumBy]
theorem sumBy_congr {g h:Item→Int}: ∀{l:List Item},(∀x∈l,g x=h x)→sumBy g l=sumBy h l
 |[],_=>rfl
 |x::l,e=>by rw [sumBy_cons,sumBy_cons,e x (by simp),sumBy_congr (fun y hy=>e y (by simp [hy]))]
theorem sumBy_add (g h:Item→Int): ∀l:List Item,sumBy (fun x=>g x+h x) l=sumBy g l+sumBy h l
 |[]=>rfl
 |x::l=>by rw [sumBy_cons,sumBy_cons,sumBy_cons,sumBy_add g h l];omega
theorem sumBy_sub (g h:Item→Int): ∀l:List Item,sumBy (fun x=>g x - h x) l=sumBy g l - sumBy h l
 |[]=>rfl
 |x::l=>by rw [sumBy_cons,sumBy_cons,sumBy_cons,sumBy_sub g h l];omega
theorem sumBy_map (g:Item→Int) (f:Item→Item): ∀l:List Item,sumBy g (l.map f)=sumBy (fun x=>g (f x)) l
 |[]=>rfl
 |x::l=>by rw [List.map_cons,sumBy_cons,sumBy_cons,sumBy_map g f l]
theorem sumBy_zero {g:Item→Int}: ∀{l:List Item},(∀x∈l,g x=0)→sumBy g l=0
 |[],_=>rfl
 |x::l,e=>by rw [sumBy_cons,e x (by simp),sumBy_zero (fun y hy=>e y (by simp [hy]))];rfl
theorem sumBy_nonneg {g:Item→Int}: ∀{l:List Item},(∀x∈l,0≤g x)→0≤sumBy g l
 |[],_=>by simp [sumBy_nil]
 |x::l,e=>by rw [sumBy_cons];have:=e x (by simp);have:=sumBy_nonneg (l:=l) (fun y hy=>e y (by simp [hy]));omega
theorem sumBy_one {v:Int} {l:List Item} (hn:(l.map (·.f0)).Nodup) {x:Item} (hx:x∈l):sumBy (fun y=>if y.f0=x.f0 then v else 0) l=v:=by
  induction l with
  |nil=>cases hx
  | cons y l ih =>
    rw [List.map_cons,List.nodup_cons] at hn
    rw [sumBy_cons]
    rcases List.mem_cons.1 hx with rfl|hx
    · rw [if_pos rfl,sumBy_zero (fun z hz=>if_neg (fun e=>hn.1 (by rw [←e];exact List.mem_map_of_mem hz)))];omega
    rw [if_neg (fun e=>hn.1 (by rw [e];exact List.mem_map_of_mem hx)),ih hn.2 hx];omega
def csum (c:Comp) (l:List Item) (n:ByteArray):Int:=sumBy (fun y=>if y.f1=n then c.of y.f4 else 0) l
structure ItemOK (x:Item):Prop where
 name:x.f0≠⟨#[]⟩
 size:x.f0.size≤24
 lim:MayP x.f2
 own:MayP x.f3
 sub:MayP x.f4
 fit:LeP x.f4 x.f2
 ver:1≤x.f5∧x.f5≤9007199254740992
structure RightP (l:List Item):Prop where
 len:l.length≤120
 ok: ∀x∈l,ItemOK x
 sorted:l.Pairwise (fun x y=>lt x.f0 y.f0=true)
 par: ∀x∈l,x.f1=⟨#[]⟩∨ ∃y,look l x.f1=some y
 sum: ∀c:Comp,∀x∈l,c.of x.f4=c.of x.f3+csum c l x.f0
 chain: ∀x∈l,∃us,Chain l x.f0 us
theorem sorted_nodup {l:List Item} (h:l.Pairwise (fun x y=>lt x.f0 y.f0=true)):(l.map (·.f0)).Nodup:=by
 rw [List.Nodup,List.pairwise_map]
 exact h.imp (fun hxy=>lt_ne hxy)
theorem RightP.nodup {l:List Item} (h:RightP l):(l.map (·.f0)).Nodup:=sorted_nodup h.sorted
theorem look_of_mem {l:List Item} (hn:(l.map (·.f0)).Nodup) {x:Item} (hx:x∈l):look l x.f0=some x:=by
  induction l with
  |nil=>cases hx
  | cons y l ih =>
    rw [List.map_cons,List.nodup_cons] at hn
    unfold look
    rw [List.find?_cons]
    rcases List.mem_cons.1 hx with rfl|hx
    · simp
    have:y.f0≠x.f0:=fun e=>hn.1 (by rw [e];exact List.mem_map_of_mem hx)
    simp only [this,decide_false]
    exact ih hn.2 hx
theorem RightP.look {l:List Item} (h:RightP l) {x:Item} (hx:x∈l):look l x.f0=some x:=look_of_mem h.nodup hx
theorem RightP.chainAll {l:List Item} (h:RightP l) (n:ByteArray):Chain l n (up l n):=by
  cases hl:Print.look l n with
  |none=>have c:=Chain.nil hl;rw [c.up];exact c
  | some x =>
    obtain ⟨hx,rfl⟩:=look_mem hl
    obtain ⟨us,c⟩:=h.chain x hx
    rw [c.up];exact c
theorem right_nil:RightP []:=⟨by simp,by simp,by simp,by simp,by simp,by simp⟩
theorem RightP.eq_of {l:List Item} (h:RightP l) {x y:Item} (hx:x∈l) (hy:y∈l) (e:x.f0=y.f0):x=y:=by
 have h1:=h.look hx
 rw [e,h.look hy] at h1
 exact (Option.some.inj h1).symm
theorem look_map {f:Item→Item} (hf: ∀x,(f x).f0=x.f0) (l:List Item) (n:ByteArray):look (l.map f) n=(look l n).map f:=by
 unfold look
 rw [List.find?_map]
 congr 2
 funext x
 simp [hf]
theorem Chain.map {f:Item→Item} (hf: ∀x,(f x).f0=x.f0) (hp: ∀x,(f x).f1=x.f1) {l:List Item} {n:ByteArray} {us:List ByteArray} (h:Chain l n us):Chain (l.map f) n us:=by
 induction h with
 |nil h=>exact .nil (by rw [look_map hf,h];rfl)
 |@cons n x us h k ih=>exact .cons (x:=f x) (by rw [look_map hf,h];rfl) (by rw [hp];exact ih)
theorem up_self {l:List Item} {n:ByteArray} {x:Item} (h:look l n=some x):n∈up l n:=by
 unfold up
 rw [upGo_some h]
 simp
theorem chain_kids {l:List Item} (hl:RightP l) {n:ByteArray} {us:List ByteArray} (h:Chain l n us) (v:Int) {x:Item} (hx:x∈l):
    sumBy (fun y=>if y.f1=x.f0∧y.f0∈us then v else 0) l=if x.f0∈us∧x.f0≠n then v else 0:=by
  induction h with
  |nil _=>rw [sumBy_zero (fun y _=>by simp)];simp
  | @cons n z us h k ih =>
    obtain ⟨hz,rfl⟩:=look_mem h
    have hnd:=(Chain.cons h k).nodup
    rw [List.nodup_cons] at hnd
    have e:sumBy (fun y=>if y.f1=x.f0∧y.f0∈z.f0::us then v else 0) l=sumBy (fun y=>(if y.f0=z.f0 then (if z.f1=x.f0 then v else 0) else 0)+(if y.f1=x.f0∧y.f0∈us then v else 0)) l:=by
      refine sumBy_congr fun y hy=> ?_
      by_cases e1:y.f0=z.f0
      rotate_left
      · simp [e1]
      have:=hl.eq_of hy hz e1
      subst this
      by_cases e2:y.f1=x.f0<;>simp [e2,hnd.1]
    rw [e,sumBy_add,ih,sumBy_one hl.nodup hz]
    by_cases e2:z.f1=x.f0
    rotate_left
    · by_cases e3 : x.f0 = z.f0
      · simp [e2, e3, hnd.1]
        exact fun q=>absurd (q.trans e3.symm) e2
      have e4:x.f0≠z.f1:=fun q=>e2 q.symm
      simp [e2,e3,e4]
    have hm:x.f0∈us:=by
      rw [e2] at k
      cases k with
      |nil k=>rw [hl.look hx] at k;cases k
      |cons _ _=>simp
    have hne:x.f0≠z.f0:=fun q=>hnd.1 (by rw [←q];exact hm)
    simp [e2,hm,hne]
def admF (us:List ByteArray) (n:ByteArray) (v:Vec) (x:Item):Item:=⟨x.f0,x.f1,x.f2,if x.f0=n then vadd x.f3 v else x.f3,if x.f0∈us then vadd x.f4 v else x.f4,x.f5⟩
def admL (l:List Item) (n:ByteArray) (v:Vec):List Item:=l.map (admF (up l n) n v)
theorem csum_adm {l:List Item} (hl:RightP l) (c:Comp) (n:ByteArray) (v:Vec) {x:Item} (hx:x∈l):
  csum c (admL l n v) x.f0=csum c l x.f0+if x.f0∈up l n∧x.f0≠n then c.of v else 0:=by
 unfold csum admL
 rw [sumBy_map,←chain_kids hl (hl.chainAll n) (c.of v) hx,←sumBy_add]
 refine sumBy_congr fun y hy=> ?_
 simp only [admF]
 by_cases e1:y.f1=x.f0<;>by_cases e2:y.f0∈up l n<;>simp [e1,e2,of_vadd]
theorem adm_right {l:List Item} (hl:RightP l) {n:ByteArray} (v:Vec) (hin: ∃x,look l n=some x)
    (hown: ∀x∈l,x.f0=n→MayP (vadd x.f3 v)) (hsub: ∀x∈l,x.f0∈up l n→MayP (vadd x.f4 v)) (hfit: ∀x∈l,x.f0∈up l n→LeP (vadd x.f4 v) x.f2):RightP (admL l n v) where
  len:=by unfold admL;rw [List.length_map];exact hl.len
  ok:=by
    intro y hy
    obtain ⟨x,hx,rfl⟩:=List.mem_map.1 hy
    have k:=hl.ok x hx
    refine ⟨k.name,k.size,k.lim, ?_, ?_, ?_,k.ver⟩
    · show MayP (if x.f0 = n then vadd x.f3 v else x.f3)
      split
      · exact hown x hx (by assumption)
      exact k.own
    · show MayP (if x.f0 ∈ up l n then vadd x.f4 v else x.f4)
      split
      · exact hsub x hx (by assumption)
      exact k.sub
    show LeP (if x.f0∈up l n then vadd x.f4 v else x.f4) x.f2
    split
    · exact hfit x hx (by assumption)
    exact k.fit
  sorted:=by
    unfold admL
    rw [List.pairwise_map]
    exact hl.sorted
  par:=by
    intro y hy
    obtain ⟨x,hx,rfl⟩:=List.mem_map.1 hy
    rcases hl.par x hx with h|⟨z,h⟩
    · exact .inl h
    exact .inr ⟨_,by unfold admL;rw [look_map (f:=admF (up l n) n v) (fun _=>rfl)];show (look l x.f1).map _=_;rw [h];rfl⟩
  sum:=by
    intro c y hy
    obtain ⟨x,hx,rfl⟩:=List.mem_map.1 hy
    show c.of (if x.f0∈up l n then vadd x.f4 v else x.f4)=c.of (if x.f0=n then vadd x.f3 v else x.f3)+csum c (admL l n v) x.f0
    rw [csum_adm hl c n v hx]
    have hs:=hl.sum c x hx
    by_cases e:x.f0=n
    rotate_left
    · by_cases hm : x.f0 ∈ up l n
      · simp [e,hm,of_vadd];omega
      simp [e,hm];omega
    have hm:x.f0∈up l n:=by
      obtain ⟨z,hz⟩:=hin
      rw [e];exact up_self hz
    simp [e] at hm ⊢
    rw [if_pos hm,of_vadd,of_vadd,hs,e];omega
  chain:=by
    intro y hy
    obtain ⟨x,hx,rfl⟩:=List.mem_map.1 hy
    obtain ⟨us,h⟩:=hl.chain x hx
    exact ⟨us,h.map (f:=admF (up l n) n v) (fun _=>rfl) (fun _=>rfl)⟩
def insL (l:List Item) (it:Item):List Item:=l.takeWhile (fun x=>lt x.f0 it.f0)++it::l.dropWhile (fun x=>lt x.f0 it.f0)
theorem look_ins (a b:List Item) (it:Item) (n:ByteArray) (h:look (a++b) it.f0=none):look (a++it::b) n=if n=it.f0 then some it else look (a++b) n:=by
  unfold look at h ⊢
  rw [List.find?_append] at h ⊢
  rw [List.find?_append,List.find?_cons]
  by_cases e:it.f0=n
  rotate_left
  · have e' : n ≠ it.f0 := fun q => e q.symm
    simp [e,e']
  subst e
  cases ha:a.find? (fun x=>decide (x.f0=it.f0)) with
  |some y=>rw [ha] at h;simp at h
  |none=>simp
theorem insL_eq (l:List Item) (it:Item): ∃a b,l=a++b∧insL l it=a++it::b∧(∀x∈a,lt x.f0 it.f0=true)∧(∀x t,b=x::t→lt x.f0 it.f0=false):=by
  refine ⟨l.takeWhile (fun x=>lt x.f0 it.f0),l.dropWhile (fun x=>lt x.f0 it.f0),(List.takeWhile_append_dropWhile).symm,rfl,fun x hx=> ?_,fun x t e=> ?_⟩
  · exact List.all_eq_true.1 (List.all_takeWhile (p:=fun x:Item=>lt x.f0 it.f0) (l:=l)) x hx
  have:=List.head?_dropWhile_not (fun x:Item=>lt x.f0 it.f0) l
  rw [e] at this
  simpa using this
theorem csum_ins (c:Comp) (a b:List Item) (it:Item) (n:ByteArray):csum c (a++it::b) n=csum c (a++b) n+if it.f1=n then c.of it.f4 else 0:=by
 unfold csum
 rw [sumBy_append,sumBy_append,sumBy_cons];omega
theorem ins_right {l:List Item} (hl:RightP l) {it:Item} (hi:ItemOK it) (h0: ∀c:Comp,c.of it.f3=0∧c.of it.f4=0) (hn:look l it.f0=none)
    (hp:it.f1=⟨#[]⟩∨ ∃y,look l it.f1=some y) (hlen:l.length<120):RightP (insL l it):=by
  obtain ⟨a,b,e,e',ha,hb⟩:=insL_eq l it
  rw [e']
  subst e
  have hlk:=fun n=>look_ins a b it n hn
  have hmem: ∀x,x∈a++it::b↔x=it∨x∈a++b:=fun x=>by simp;constructor<;>(intro h;rcases h with h|h|h<;>simp [h])
  have hnew: ∀m y,look (a++b) m=some y→m≠it.f0:=fun m y h q=>by rw [q,hn] at h;cases h
  have hne:it.f0≠⟨#[]⟩:=hi.name
  have hpar: ∀x∈a++b,x.f1≠it.f0:=fun x hx q=>by
    rcases hl.par x hx with h|⟨y,h⟩
    · exact hne (q.symm.trans h)
    exact hnew _ _ h q
  have hch: ∀{n us},Chain (a++b) n us→n≠it.f0→Chain (a++it::b) n us:=by
    intro n us h
    induction h with
    |nil h=>intro q;exact .nil (by rw [hlk,if_neg q];exact h)
    | @cons n x us h k ih =>
      intro q
      exact .cons (x:=x) (by rw [hlk,if_neg q];exact h) (ih (hpar x (look_mem h).1))
  have hip:it.f1≠it.f0:=by
    rcases hp with h|⟨y,h⟩
    · rw [h];exact fun q=>hne q.symm
    exact hnew _ _ h
  refine ⟨?_, ?_, ?_, ?_, ?_, ?_⟩
  · simp at hlen ⊢;omega
  · intro x hx
    rcases (hmem x).1 hx with rfl|hx
    · exact hi
    exact hl.ok x hx
  · have hs := hl.sorted
    rw [List.pairwise_append] at hs ⊢
    obtain ⟨h1,h2,h3⟩:=hs
    have hbx: ∀y∈b,lt it.f0 y.f0=true:=by
      intro y hy
      cases b with
      |nil=>cases hy
      | cons x t =>
        have hx:lt it.f0 x.f0=true:=lt_total (hb x t rfl) (fun q=>look_none.1 hn x (by simp) q)
        rcases List.mem_cons.1 hy with rfl|hy
        · exact hx
        exact lt_trans hx ((List.pairwise_cons.1 h2).1 y hy)
    refine ⟨h1,List.pairwise_cons.2 ⟨hbx,h2⟩,fun x hx y hy=> ?_⟩
    rcases List.mem_cons.1 hy with rfl|hy
    · exact ha x hx
    exact h3 x hx y hy
  · intro x hx
    rcases (hmem x).1 hx with rfl|hx
    · rcases hp with h | ⟨y, h⟩
      · exact .inl h
      exact .inr ⟨y,by rw [hlk,if_neg hip];exact h⟩
    rcases hl.par x hx with h|⟨y,h⟩
    · exact .inl h
    exact .inr ⟨y,by rw [hlk,if_neg (hpar x hx)];exact h⟩
  · intro c x hx
    rw [csum_ins,(h0 c).2,ite_self,Int.add_zero]
    rcases (hmem x).1 hx with rfl|hx
    rotate_left
    · exact hl.sum c x hx
    rw [(h0 c).1,(h0 c).2]
    unfold csum
    rw [sumBy_zero (fun y hy=>if_neg (hpar y hy))];rfl
  intro x hx
  rcases (hmem x).1 hx with rfl|hx
  · have := hch (hl.chainAll x.f1) hip
    exact ⟨_, .cons (x:=x) (by rw [hlk,if_pos rfl]) this⟩
  obtain ⟨us,h⟩:=hl.chain x hx
  exact ⟨us,hch h (fun q=>look_none.1 hn x hx q)⟩
theorem ite_iff {α:Type} {p q:Prop} [Decidable p] [Decidable q] (h:p↔q) {a b:α}:(if p then a else b)=if q then a else b:=by
  by_cases hp:p
  · rw [if_pos hp,if_pos (h.1 hp)]
  rw [if_neg hp,if_neg (fun k=>hp (h.2 k))]
theorem r10_Le_eq (a b d a' b' d':Int):r10_Le.f a b d a' b' d'=some (decide (LeP ⟨a,b,d⟩ ⟨a',b',d'⟩)):=by
 unfold r10_Le.f
 by_cases h0:a≤a'<;>by_cases h1:b≤b'<;>simp [h0,h1,leP_iff]
theorem r10_unit_eq (a:Int):r10_unit.f a=some (decide (0≤a∧a≤1099511627776)):=by
  unfold r10_unit.f
  by_cases h0:0≤a
  · rw [if_pos (by omega)];simp [h0]
  rw [if_neg (by omega)];simp [h0]
theorem r10_MayVec_eq (a b d:Int):r10_MayVec.f a b d=some (decide (MayP ⟨a,b,d⟩)):=by
 unfold r10_MayVec.f
 simp only [r10_unit_eq,Option.bind_some]
 by_cases h0:0≤a∧a≤1099511627776<;>by_cases h1:0≤b∧b≤1099511627776<;>simp [h0,h1,mayP_iff]
theorem r10_MayName_eq (n:ByteArray):r10_MayName.f n=some (decide (n≠⟨#[]⟩∧n.size≤24)):=by
  unfold r10_MayName.f
  by_cases h:n=⟨#[]⟩
  · rw [if_pos (nm_empty.2 h)];simp [h]
  rw [if_neg (fun q=>h (nm_empty.1 q))];simp [h];omega
theorem r10_copied_eq (l:List Item) (h:l.length<1000000):r10_copied.f l=some l:=by
 unfold r10_copied.f
 simp only [Option.bind_some,List.length_nil,List.nil_append]
 rw [if_pos (by omega)]
theorem r10_Find_l0 (l:List Item) (n:ByteArray) (hl:l.length<1000000): ∀(d i:Nat),l.length - i=d→i≤l.length→
    Ev (fun k=>r10_Find.l0 k l n i) (fidx (fun x:Item=>x.f0.toList==n.toList) (l.drop i) i)
  | 0, i, hd, hi => by
    obtain rfl:i=l.length:=by omega
    refine Ev.step (f:=fun _=>some (-1)) (fun k=> ?_) (by rw [List.drop_length];exact Ev.now _)
    simp only [r10_Find.l0]
    rw [if_neg (by omega)]
  | d + 1, i, hd, hi => by
    have hlt:i<l.length:=by omega
    rw [fidx_drop _ zItem l i hlt]
    have hrd:rd_T31 l (i:Int)=l.getD i zItem:=by rw [rd_item,Int.toNat_natCast]
    by_cases e:(l.getD i zItem).f0.toList=n.toList
    · rw [if_pos (beq_iff_eq.2 e)]
      refine Ev.step (f:=fun _=>some (i:Int)) (fun k=> ?_) (Ev.now _)
      simp only [r10_Find.l0]
      rw [if_pos (by omega),if_pos (by omega),hrd,if_pos e]
    rw [if_neg (fun q=>e (beq_iff_eq.1 q))]
    refine Ev.step (f:=fun k=>r10_Find.l0 k l n ((i+1:Nat):Int)) (fun k=> ?_) (r10_Find_l0 l n hl d (i+1) (by omega) (by omega))
    simp only [r10_Find.l0]
    rw [if_pos (by omega),if_pos (by omega),hrd,if_neg e,w64 (by omega) (by omega)]
    rfl
theorem r10_Find_ev (l:List Item) (n:ByteArray) (hl:l.length<1000000):Ev (fun k=>r10_Find.f k l n) (fnd l n):=r10_Find_l0 l n hl _ 0 rfl (by omega)
theorem r10_Up_l0 (l:List Item) (hl:l.length<1000000): ∀(m:Nat) (n:ByteArray) (out:List ByteArray),out.length+m=l.length+1→
    Ev (fun k=>r10_Up.l0 k l out (fnd l n)) (out++upGo l m n)
  | 0, n, out, hm => by
    rw [upGo.eq_1,List.append_nil]
    refine Ev.step (f:=fun _=>some out) (fun k=> ?_) (Ev.now _)
    simp only [r10_Up.l0]
    by_cases h:0≤fnd l n
    · rw [if_pos h,if_neg (by omega)]
    rw [if_neg h]
  | m + 1, n, out, hm => by
    cases h:look l n with
    | none =>
      rw [upGo_none h,List.append_nil]
      refine Ev.step (f:=fun _=>some out) (fun k=> ?_) (Ev.now _)
      simp only [r10_Up.l0]
      rw [fnd_none h,if_neg (by omega)]
    | some x =>
      rw [upGo_some h]
      have h0:=fnd_ge.2 ⟨x,h⟩
      have h1:=fnd_lt l n
      obtain ⟨hx,hn⟩:=look_mem h
      refine Ev.step (f:=fun k=>(r10_Find.f k l x.f1).bind fun t=>r10_Up.l0 k l (out++ [n]) t) (fun k=> ?_) (Ev.bind (r10_Find_ev l x.f1 hl) ?_)
      · simp only [r10_Up.l0]
        rw [if_pos h0,if_pos (by omega),if_pos h0,if_pos h1,if_pos (by omega),fnd_rd h,hn]
      have:=r10_Up_l0 l hl m x.f1 (out++ [n]) (by simp;omega)
      simpa using this
theorem r10_Up_ev (l:List Item) (n:ByteArray) (hl:l.length<1000000):Ev (fun k=>r10_Up.f k l n) (up l n):=
 Ev.bind (r10_Find_ev l n hl) (by have:=r10_Up_l0 l hl (l.length+1) n [] (by simp);rw [List.nil_append] at this;exact this)
theorem set_at {l:List Item} (hn:(l.map (·.f0)).Nodup) {n:ByteArray} {x:Item} (h:look l n=some x) (y:Item):
    l.set (fnd l n).toNat y=l.map (fun z=>if z.f0=n then y else z):=by
  obtain ⟨j,h1,h2,h3,h4,h5⟩:=fnd_some h
  rw [h2,Int.toNat_natCast]
  have hx:l[j]=x:=by rw [←h3];simp [h1]
  apply List.ext_getElem (by simp)
  intro m hm hm'
  simp only [List.length_set] at hm
  rw [List.getElem_set,List.getElem_map]
  by_cases e:j=m
  · subst e
    rw [if_pos rfl,if_pos (by rw [hx];exact h4)]
  rw [if_neg e,if_neg]
  intro q
  have h6:(l.map (·.f0))[j]'(by simpa using h1)=(l.map (·.f0))[m]'(by simpa using hm):=by simp [hx,h4,q]
  exact e ((List.getElem_inj hn).1 h6)
theorem fnd_map {f:Item→Item} (hf: ∀x,(f x).f0=x.f0) (l:List Item) (n:ByteArray):fnd (l.map f) n=fnd l n:=by
 have: ∀(l:List Item) (i:Int),fidx (fun x:Item=>x.f0.toList==n.toList) (l.map f) i=fidx (fun x:Item=>x.f0.toList==n.toList) l i:=by
  intro l
  induction l with
  |nil=>intro i;rfl
  |cons x l ih=>intro i;simp only [List.map_cons,fidx,hf,ih]
 exact this l 0
def admS (us:List ByteArray) (v:Vec) (x:Item):Item:=⟨x.f0,x.f1,x.f2,x.f3,if x.f0∈us then vadd x.f4 v else x.f4,x.f5⟩
def admR (l:List Item) (n:ByteArray) (v:Vec):List Item×Int:=
 if¬MayP v then ([],1) else if (look l n).isNone=true then ([],2) else if∀x∈l,x.f0∈up l n→LeP (vadd x.f4 v) x.f2 then (admL l n v,0) else ([],12)
theorem vadd_wrap {a b:Vec} (ha:MayP a) (hb:MayP b):(wrap64 (a.f0+b.f0),wrap64 (a.f1+b.f1),wrap64 (a.f2+b.f2))=((vadd a b).f0,(vadd a b).f1,(vadd a b).f2):=by
 have a0:=ha .cpu;have a1:=ha .mem;have a2:=ha .pods
 have b0:=hb .cpu;have b1:=hb .mem;have b2:=hb .pods
 simp only [Comp.of] at a0 a1 a2 b0 b1 b2
 rw [w64 (by omega) (by omega),w64 (by omega) (by omega),w64 (by omega) (by omega)]
 rfl
theorem r10_Add_eq {a b:Vec} (ha:MayP a) (hb:MayP b):r10_Add.f a.f0 a.f1 a.f2 b.f0 b.f1 b.f2=some ((vadd a b).f0,(vadd a b).f1,(vadd a b).f2):=by
 unfold r10_Add.f;rw [vadd_wrap ha hb]
theorem look_admS (us:List ByteArray) (v:Vec) (l:List Item) (n:ByteArray):look (l.map (admS us v)) n=(look l n).map (admS us v):=look_map (f:=admS us v) (fun _=>rfl) l n
theorem drop_cons {us:List ByteArray} {i:Nat} (h:i<us.length):us.drop i=rdOf ByteArray.empty us i::us.drop (i+1):=by
 rw [List.drop_eq_getElem_cons h];simp [rdOf,h]
theorem take_snoc_ {us:List ByteArray} {i:Nat} (h:i<us.length):us.take (i+1)=us.take i++ [rdOf ByteArray.empty us i]:=by
 rw [List.take_succ_eq_append_getElem h];simp [rdOf,h]
theorem fnd_admS (us:List ByteArray) (v:Vec) (l:List Item) (n:ByteArray):fnd (l.map (admS us v)) n=fnd l n:=fnd_map (f:=admS us v) (fun _=>rfl) l n
theorem nodup_admS {us:List ByteArray} {v:Vec} {l:List Item} (h:(l.map (·.f0)).Nodup):((l.map (admS us v)).map (·.f0)).Nodup:=by
 rw [List.map_map];exact h
theorem r10_Admit_l0 {l:List Item} (hl:RightP l) (n:ByteArray) {v:Vec} (hv:MayP v) (hin: ∃x,look l n=some x): ∀(d i:Nat),(up l n).length - i=d→i≤(up l n).length→
    Ev (fun k=>r10_Admit.l0 k n (up l n) (l.map (admS ((up l n).take i) v)) i v.f0 v.f1 v.f2) (if∀x∈l,x.f0∈(up l n).drop i→LeP (vadd x.f4 v) x.f2 then (admL l n v,0) else ([],12))
  | 0, i, hd, hi => by
    obtain rfl:i=(up l n).length:=by omega
    rw [List.drop_length,List.take_length,if_pos (by simp)]
    obtain ⟨x,hx⟩:=hin
    obtain ⟨hm,hxn⟩:=look_mem hx
    have hlk:look (l.map (admS (up l n) v)) n=some (admS (up l n) v x):=by rw [look_admS,hx];rfl
    have h0:0≤fnd l n:=fnd_ge.2 ⟨x,hx⟩
    have h1:fnd l n<l.length:=fnd_lt l n
    obtain ⟨K,hK⟩:=r10_Find_ev (l.map (admS (up l n) v)) n (by rw [List.length_map];have:=hl.len;omega)
    dsimp only at hK
    refine ⟨K+1,fun k hk=> ?_⟩
    obtain ⟨k,rfl⟩: ∃m,k=m+1:=⟨k - 1,by omega⟩
    have hrd:=fnd_rd hlk
    rw [fnd_admS] at hrd
    simp only [r10_Admit.l0]
    rw [if_neg (by omega),hK k (by omega),fnd_admS]
    simp only [Option.bind_some]
    rw [if_pos h0,if_pos (by rw [List.length_map];omega),hrd,r10_Add_eq (a:=(admS (up l n) v x).f3) (hl.ok x hm).own hv]
    simp only [Option.bind_some]
    have hset:=set_at (nodup_admS (us:=up l n) (v:=v) hl.nodup) hlk
    rw [fnd_admS] at hset
    rw [hset,List.map_map]
    congr 2
    unfold admL
    refine List.map_congr_left fun z hz=> ?_
    simp only [Function.comp,admF]
    by_cases e:z.f0=n
    · obtain rfl : z = x := hl.eq_of hz hm (e.trans hxn.symm)
      rw [if_pos (by exact e),if_pos e]
      rfl
    rw [if_neg (by exact e),if_neg e]
    rfl
  | d + 1, i, hd, hi => by
    have hlt:i<(up l n).length:=by omega
    have hc:=hl.chainAll n
    have hnd:=hc.nodup
    rw [drop_cons hlt]
    have hu:rdOf ByteArray.empty (up l n) i∈up l n:=by simp [rdOf,hlt]
    obtain ⟨x,hx⟩:=hc.mem_look hu
    obtain ⟨hm,hxn⟩:=look_mem hx
    have hnot:x.f0 ∉ (up l n).take i:=by
      rw [hxn]
      rw [←List.take_append_drop i (up l n),drop_cons hlt,List.nodup_append] at hnd
      exact fun q=>hnd.2.2 _ q _ (by simp) rfl
    generalize hU:rdOf ByteArray.empty (up l n) i=u at*
    have hlk:look (l.map (admS ((up l n).take i) v)) u=some (admS ((up l n).take i) v x):=by rw [look_admS,hx];rfl
    have hsame:admS ((up l n).take i) v x=x:=by unfold admS;rw [if_neg hnot]
    rw [hsame] at hlk
    have h0:0≤fnd l u:=fnd_ge.2 ⟨x,hx⟩
    have h1:fnd l u<l.length:=fnd_lt l u
    have hrd:=fnd_rd hlk
    have hset:=set_at (nodup_admS (us:=(up l n).take i) (v:=v) hl.nodup) hlk
    rw [fnd_admS] at hrd
    rw [fnd_admS] at hset
    obtain ⟨K,hK⟩:=r10_Find_ev (l.map (admS ((up l n).take i) v)) u (by rw [List.length_map];have:=hl.len;omega)
    obtain ⟨K',hK'⟩:=r10_Admit_l0 hl n hv hin d (i+1) (by omega) (by omega)
    dsimp only at hK hK'
    refine ⟨K+K'+1,fun k hk=> ?_⟩
    obtain ⟨k,rfl⟩: ∃m,k=m+1:=⟨k - 1,by omega⟩
    have hup:(up l n).length≤l.length:=hc.len
    have hlen:=hl.len
    simp only [r10_Admit.l0]
    rw [if_pos (by omega),if_pos (by omega),hU,hK k (by omega),fnd_admS]
    simp only [Option.bind_some]
    rw [if_pos h0,if_pos (by rw [List.length_map];omega),hrd,r10_Add_eq (a:=x.f4) (hl.ok x hm).sub hv]
    simp only [Option.bind_some]
    rw [hset,List.map_map]
    have hnew:(l.map ((fun z:Item=>if z.f0=u then (⟨x.f0,x.f1,⟨x.f2.f0,x.f2.f1,x.f2.f2⟩,⟨x.f3.f0,x.f3.f1,x.f3.f2⟩,⟨(vadd x.f4 v).f0,(vadd x.f4 v).f1,(vadd x.f4 v).f2⟩,x.f5⟩:Item) else z) ∘ admS ((up l n).take i) v))=l.map (admS ((up l n).take (i+1)) v):=by
      refine List.map_congr_left fun z hz=> ?_
      simp only [Function.comp]
      rw [take_snoc_ hlt,hU]
      by_cases e:z.f0=u
      · obtain rfl : z = x := hl.eq_of hz hm (e.trans hxn.symm)
        rw [if_pos (by exact e)]
        unfold admS
        rw [if_pos (by simp [e])]
      rw [if_neg (by exact e)]
      unfold admS
      simp [e]
    rw [hnew]
    have hlk2:look (l.map (admS ((up l n).take (i+1)) v)) u=some (admS ((up l n).take (i+1)) v x):=by rw [look_admS,hx];rfl
    have hrd2:=fnd_rd hlk2
    rw [fnd_admS] at hrd2
    have hx2:admS ((up l n).take (i+1)) v x=⟨x.f0,x.f1,x.f2,x.f3,vadd x.f4 v,x.f5⟩:=by unfold admS;rw [if_pos (by rw [take_snoc_ hlt,hU,hxn];simp)]
    rw [hrd2,hx2,r10_Le_eq]
    simp only [Option.bind_some]
    by_cases hfit:LeP (vadd x.f4 v) x.f2
    rotate_left
    · rw [if_neg (by simpa using hfit), if_neg (fun q => hfit (q x hm (by rw [hxn]; simp)))]
      rfl
    rw [if_pos (by exact decide_eq_true hfit),w64 (by omega) (by omega)]
    have h2:=hK' k (by omega)
    rw [show ((i:Int)+1)=((i+1:Nat):Int) from by omega,h2]
    congr 1
    refine ite_iff ⟨fun q z hz hzm=> ?_,fun q z hz hzm=>q z hz (by simp [hzm])⟩
    rcases List.mem_cons.1 hzm with e|hzm
    · obtain rfl : z = x := hl.eq_of hz hm (e.trans hxn.symm)
      exact hfit
    exact q z hz hzm
theorem r10_Admit_ev {l:List Item} (hl:RightP l) (n:ByteArray) (v:Vec):Ev (fun k=>r10_Admit.f k l n v.f0 v.f1 v.f2) (admR l n v):=by
  have hlen:=hl.len
  refine Ev.bind (r10_Up_ev l n (by omega)) ?_
  have hmv:r10_MayVec.f v.f0 v.f1 v.f2=some (decide (MayP v)):=r10_MayVec_eq _ _ _
  unfold admR
  by_cases hv:MayP v
  rotate_left
  · rw [if_pos hv]
    refine Ev.congr (fun k=> ?_) (Ev.now _)
    rw [hmv]
    simp only [Option.bind_some]
    rw [if_neg (by simpa using hv)]
    rfl
  rw [if_neg (by simpa using hv)]
  cases hx:look l n with
  | none =>
    rw [if_pos (show (none:Option Item).isNone=true from rfl)]
    refine Ev.congr (fun k=> ?_) (Ev.now _)
    rw [hmv]
    simp only [Option.bind_some]
    rw [if_pos (by exact decide_eq_true hv),show up l n=[] from upGo_none hx _]
    rfl
  | some x =>
    rw [if_neg (by simp)]
    have h:=r10_Admit_l0 hl n hv ⟨x,hx⟩ _ 0 rfl (by omega)
    rw [List.take_zero,List.drop_zero,show l.map (admS [] v)=l from by rw [show admS [] v=id from by funext z;simp [admS]];simp] at h
    refine Ev.congr (fun k=> ?_) h
    rw [hmv]
    simp only [Option.bind_some]
    have:(up l n).length≠0:=by have:=up_self hx;intro q;rw [List.length_eq_zero_iff.1 q] at this;cases this
    rw [if_pos (by exact decide_eq_true hv),if_neg (by omega),r10_copied_eq l (by omega)]
    rfl
def zVec:Vec:=⟨0,0,0⟩
def newItem (n p:ByteArray) (v:Vec):Item:=⟨n,p,v,zVec,zVec,1⟩
def creR (l:List Item) (n p:ByteArray) (v:Vec):List Item×Int:=
 if¬((n≠⟨#[]⟩∧n.size≤24)∧MayP v) then ([],1) else if (look l n).isSome=true then ([],3) else if p≠⟨#[]⟩∧(look l p).isNone=true then ([],2) else if 120≤l.length then ([],4) else (insL l (newItem n p v),0)
theorem insL_cons (x:Item) (l:List Item) (it:Item):insL (x::l) it=if lt x.f0 it.f0=true then x::insL l it else it::x::l:=by
 unfold insL
 rw [List.takeWhile_cons,List.dropWhile_cons]
 cases lt x.f0 it.f0<;>simp
theorem r10_Create_l0 (n p:ByteArray) (v:Vec) (b:List Item): ∀(a l:List Item),l=a++b→l.length<1000000→Ev (fun k=>r10_Create.l0 k l n p a.length v.f0 v.f1 v.f2) (a++insL b (newItem n p v),0):=by
  induction b with
  | nil =>
    rintro a l rfl hl
    simp only [List.append_nil] at hl ⊢
    refine Ev.step (f:=fun _=>some (a++ [newItem n p v],0)) (fun k=> ?_) (Ev.now _)
    simp only [r10_Create.l0]
    rw [if_neg (by omega),if_pos (by omega),if_pos (by omega),Int.toNat_natCast,List.take_length,r10_copied_eq a (by omega)]
    simp only [Option.bind_some,List.drop_length,List.length_append,List.length_cons,List.length_nil]
    rw [if_pos (by omega),if_pos (by omega),List.append_nil]
    rfl
  | cons x b ih =>
    rintro a l rfl hl
    have hlen:(a++x::b).length=a.length+b.length+1:=by simp;omega
    have hrd:rd_T31 (a++x::b) (a.length:Int)=x:=by rw [rd_item,Int.toNat_natCast];simp
    rw [insL_cons]
    by_cases e:lt x.f0 n=true
    · rw [if_pos (by exact e)]
      have h:=ih (a++ [x]) (a++x::b) (by simp) hl
      refine Ev.step (f:=fun k=>r10_Create.l0 k (a++x::b) n p (a++ [x]).length v.f0 v.f1 v.f2) (fun k=> ?_) (by simpa using h)
      simp only [r10_Create.l0]
      rw [if_pos (by omega),if_pos (by omega),hrd,if_pos (by exact e),w64 (by omega) (by omega)]
      simp
    rw [if_neg (by exact e)]
    refine Ev.step (f:=fun _=>some (a++newItem n p v::x::b,0)) (fun k=> ?_) (Ev.now _)
    simp only [r10_Create.l0]
    rw [if_pos (by omega),if_pos (by omega),hrd,if_neg (by exact e),if_pos (by omega),Int.toNat_natCast,List.take_left,r10_copied_eq a (by omega)]
    simp only [Option.bind_some,List.drop_left,List.length_append,List.length_cons,List.length_nil]
    rw [if_pos (by omega),if_pos (by omega)]
    simp
    rfl
theorem r10_Create_ev {l:List Item} (hl:l.length<1000000) (n p:ByteArray) (v:Vec):Ev (fun k=>r10_Create.f k l n p v.f0 v.f1 v.f2) (creR l n p v):=by
  have hmv:r10_MayVec.f v.f0 v.f1 v.f2=some (decide (MayP v)):=r10_MayVec_eq _ _ _
  have hno: ∀e:Int,((r10_no.f e).bind fun bt=>some (bt.1,bt.2))=some (([]:List Item),e):=fun _=>rfl
  have hj1: ∀b,Ev (fun k=>r10_Create.j1 k l n p b v.f0 v.f1 v.f2) (if b=true then ([],2) else if 120≤l.length then ([],4) else (insL l (newItem n p v),0)):=by
    intro b
    cases b with
    | true =>
      refine Ev.step (f:=fun _=>some ([],2)) (fun k=> ?_) (Ev.now _)
      simp only [r10_Create.j1,if_true]
      exact hno 2
    | false =>
      simp only [Bool.false_eq_true,if_false]
      by_cases h:120≤l.length
      · rw [if_pos h]
        refine Ev.step (f:=fun _=>some ([],4)) (fun k=> ?_) (Ev.now _)
        simp only [r10_Create.j1,Bool.false_eq_true,if_false]
        rw [if_pos (by omega)];exact hno 4
      rw [if_neg h]
      refine Ev.step (f:=fun k=>r10_Create.l0 k l n p 0 v.f0 v.f1 v.f2) (fun k=> ?_) (by have:=r10_Create_l0 n p v l [] l rfl hl;simpa using this)
      simp only [r10_Create.j1,Bool.false_eq_true,if_false]
      rw [if_neg (by omega)]
  have hj0: ∀b,Ev (fun k=>r10_Create.j0 k l n p b v.f0 v.f1 v.f2) (if b=true then ([],1) else if (look l n).isSome=true then ([],3) else if p≠⟨#[]⟩∧(look l p).isNone=true then ([],2) else if 120≤l.length then ([],4) else (insL l (newItem n p v),0)):=by
    intro b
    cases b with
    | true =>
      refine Ev.step (f:=fun _=>some ([],1)) (fun k=> ?_) (Ev.now _)
      simp only [r10_Create.j0,if_true]
      exact hno 1
    | false =>
      simp only [Bool.false_eq_true,if_false]
      refine Ev.step (f:=fun k=>(r10_Find.f k l n).bind fun t=>if t≥0 then some ([],3) else if p.toList=([]:List UInt8) then r10_Create.j1 k l n p false v.f0 v.f1 v.f2 else (r10_Find.f k l p).bind fun t=>r10_Create.j1 k l n p (decide (t<0)) v.f0 v.f1 v.f2) (fun k=> ?_) (Ev.bind (r10_Find_ev l n hl) ?_)
      · simp only [r10_Create.j0,Bool.false_eq_true,if_false];rfl
      cases hn:look l n with
      | some x =>
        refine Ev.congr (fun k=> ?_) (Ev.now _)
        rw [if_pos (fnd_ge.2 ⟨x,hn⟩)];rfl
      | none =>
        simp only [Option.isSome_none,Bool.false_eq_true,if_false]
        by_cases hp:p=⟨#[]⟩
        · have h := hj1 false
          simp only [Bool.false_eq_true,if_false] at h
          rw [if_neg (fun q=>q.1 hp)]
          refine Ev.congr (fun k=> ?_) h
          rw [fnd_none hn,if_neg (by omega),if_pos (nm_empty.2 hp)]
        have h:=hj1 (decide (fnd l p<0))
        refine Ev.congr (g:=fun k=>_) (f:=fun k=>(r10_Find.f k l p).bind fun t=>r10_Create.j1 k l n p (decide (t<0)) v.f0 v.f1 v.f2) (fun k=> ?_) (Ev.bind (r10_Find_ev l p hl) ?_)
        · rw [fnd_none hn,if_neg (by omega),if_neg (fun q=>hp (nm_empty.1 q))]
        have e:(p≠⟨#[]⟩∧(look l p).isNone=true)↔(decide (fnd l p<0)=true):=by
          rw [decide_eq_true_iff,fnd_neg];simp [hp]
        rw [ite_iff e];exact h
  unfold creR
  by_cases hn:n≠⟨#[]⟩∧n.size≤24
  · have h := hj0 (!decide (MayP v))
    rw [ite_iff (q:=(!decide (MayP v))=true) (by simp [hn])]
    refine Ev.congr (fun k=> ?_) h
    unfold r10_Create.f
    rw [r10_MayName_eq,hmv]
    simp only [Option.bind_some]
    rw [if_pos (by exact decide_eq_true hn)]
  have h:=hj0 true
  rw [if_pos (fun q=>hn q.1)]
  rw [if_pos rfl] at h
  refine Ev.congr (fun k=> ?_) h
  unfold r10_Create.f
  rw [r10_MayName_eq]
  simp only [Option.bind_some]
  rw [if_neg (by simpa using hn)]
theorem creR_right {l:List Item} (hl:RightP l) {n p:ByteArray} {v:Vec} (h:(creR l n p v).2=0):
    (creR l n p v).1=insL l (newItem n p v)∧RightP (insL l (newItem n p v))∧look l n=none∧l.length<120∧n≠⟨#[]⟩∧n.size≤24∧MayP v∧(p=⟨#[]⟩∨ ∃y,look l p=some y):=by
  unfold creR at h ⊢
  split at h
  · simp at h
  rename_i h1
  split at h
  · simp at h
  rename_i h2
  split at h
  · simp at h
  rename_i h3
  split at h
  · simp at h
  rename_i h4
  rw [if_neg h1,if_neg h2,if_neg h3,if_neg h4]
  obtain ⟨⟨h5,h6⟩,h7⟩:=Classical.not_not.1 h1
  have hn:look l n=none:=by cases q:look l n with
    |none=>rfl
    |some x=>rw [q] at h2;simp at h2
  have hp:p=⟨#[]⟩∨ ∃y,look l p=some y:=by
    by_cases e:p=⟨#[]⟩
    · exact .inl e
    right
    cases q:look l p with
    |none=>rw [q] at h3;exact absurd ⟨e,rfl⟩ h3
    |some y=>exact ⟨y,rfl⟩
  have hz: ∀c:Comp,c.of zVec=0:=fun c=>by cases c<;>rfl
  refine ⟨rfl,ins_right hl ⟨h5,h6,h7,fun c=> ?_,fun c=> ?_,fun c=> ?_, ?_⟩ (fun c=>⟨hz c,hz c⟩) hn hp (by omega),hn,by omega,h5,h6,h7,hp⟩
  · show 0≤c.of zVec∧c.of zVec≤_;rw [hz];omega
  · show 0≤c.of zVec∧c.of zVec≤_;rw [hz];omega
  · show c.of zVec≤c.of v;rw [hz];exact (h7 c).1
  show (1:Int)≤1∧(1:Int)≤_;omega
theorem mem_insL {l:List Item} {it x:Item}:x∈insL l it↔x=it∨x∈l:=by
 obtain ⟨a,b,e,e',_,_⟩:=insL_eq l it
 rw [e',e];simp;constructor<;>(intro h;rcases h with h|h|h<;>simp [h])
theorem len_insL (l:List Item) (it:Item):(insL l it).length=l.length+1:=by
 obtain ⟨a,b,e,e',_,_⟩:=insL_eq l it
 rw [e',e];simp;omega
theorem admR_right {l:List Item} (hl:RightP l) {n:ByteArray} {v:Vec} (h:(admR l n v).2=0):(admR l n v).1=admL l n v∧RightP (admL l n v)∧MayP v∧(∃x,look l n=some x)∧ ∀x∈l,x.f0∈up l n→LeP (vadd x.f4 v) x.f2:=by
  unfold admR at h ⊢
  split at h
  · simp at h
  rename_i h1
  split at h
  · simp at h
  rename_i h2
  split at h
  rotate_left
  · simp at h
  rename_i h3
  rw [if_neg h1,if_neg h2,if_pos h3]
  have hv:MayP v:=Classical.not_not.1 h1
  have hin: ∃x,look l n=some x:=by
    cases q:look l n with
    |none=>rw [q] at h2;simp at h2
    |some x=>exact ⟨x,rfl⟩
  have hsub: ∀x∈l,x.f0∈up l n→MayP (vadd x.f4 v):=fun x hx hm c=>by
    have a:=(hl.ok x hx).sub c;have b:=hv c;have d:=h3 x hx hm c;have e:=(hl.ok x hx).lim c
    rw [of_vadd] at d ⊢;omega
  refine ⟨rfl,adm_right hl v hin (fun x hx e c=> ?_) hsub h3,hv,hin,h3⟩
  have hm:x.f0∈up l n:=by obtain ⟨y,hy⟩:=hin;rw [e];exact up_self hy
  have a:=(hl.ok x hx).own c;have b:=hv c;have d:=hsub x hx hm c;have f:=hl.sum c x hx
  have g:0≤csum c l x.f0:=sumBy_nonneg fun y hy=>by
    split
    · exact ((hl.ok y hy).sub c).1
    omega
  rw [of_vadd] at d ⊢;omega
theorem u8_bd {x:Int} (h:(Lit.int .u8 x).wf=true):0≤x∧x≤255:=by
 simp only [Lit.wf,Bool.and_eq_true,decide_eq_true_eq] at h
 exact h
def Bytes (ns:List Int):Prop:= ∀x∈ns,0≤x∧x≤255
theorem Bytes.rd {ns:List Int} (h:Bytes ns) (i:Int):0≤rd ns i∧rd ns i≤255:=by
 unfold Go.Proofs.YtcgefpklljclgaaW.PrintWords.rd
 rw [List.getD_eq_getElem?_getD]
 cases e:ns[i.toNat]? with
 |none=>simp
 |some x=>exact h x (List.mem_of_getElem? e)
def one (c:Int):ByteArray:=strOfNums [c]
structure MadeP (l:List Item):Prop where
 right:RightP l
 len:l.length≤24
 name: ∀x∈l,∃c:Int,97≤c∧c≤120∧x.f0=one c
 ver: ∀x∈l,x.f5=1
 lim: ∀x∈l,∀c:Comp,20≤c.of x.f2∧c.of x.f2≤275
theorem made_nil:MadeP []:=⟨right_nil,by simp,by simp,by simp,by simp⟩
theorem made_ins {l:List Item} (h:MadeP l) {n p:ByteArray} {v:Vec} {c:Int} (hc:97≤c∧c≤120) (hn:n=one c) (hv: ∀c:Comp,20≤c.of v∧c.of v≤275) (hl:l.length<24) (hr:RightP (insL l (newItem n p v))):MadeP (insL l (newItem n p v)) where
  right:=hr
  len:=by rw [len_insL];omega
  name:=fun x hx=>by
    rcases mem_insL.1 hx with rfl|hx
    · exact ⟨c,hc.1,hc.2,hn⟩
    exact h.name x hx
  ver:=fun x hx=>by
    rcases mem_insL.1 hx with rfl|hx
    · rfl
    exact h.ver x hx
  lim:=fun x hx=>by
    rcases mem_insL.1 hx with rfl|hx
    · exact hv
    exact h.lim x hx
theorem made_adm {l:List Item} (h:MadeP l) {n:ByteArray} {v:Vec} (hr:RightP (admL l n v)):MadeP (admL l n v) where
 right:=hr
 len:=by unfold admL;rw [List.length_map];exact h.len
 name:=fun x hx=>by
  obtain ⟨y,hy,rfl⟩:=List.mem_map.1 hx
  exact h.name y hy
 ver:=fun x hx=>by
  obtain ⟨y,hy,rfl⟩:=List.mem_map.1 hx
  exact h.ver y hy
 lim:=fun x hx=>by
  obtain ⟨y,hy,rfl⟩:=List.mem_map.1 hx
  exact h.lim y hy
def MakesFrom (ns:List Int) (i:Int):Prop:= ∀l,MadeP l→ ∃r,Ev (fun k=>law12_Make.l0 k ns l i) r∧MadeP r
theorem tmod_in {a b:Int} (ha:0≤a) (hb:0<b):0≤a.tmod b∧a.tmod b<b:=by
 rw [Int.tmod_eq_emod_of_nonneg ha];exact ⟨Int.emod_nonneg _ (by omega),Int.emod_lt_of_pos _ hb⟩
theorem tdiv_in {a b:Int} (ha:0≤a) (hb:0<b):0≤a.tdiv b∧a.tdiv b≤a:=by
 rw [Int.tdiv_eq_ediv_of_nonneg ha];exact ⟨Int.ediv_nonneg ha (by omega),Int.ediv_le_self _ ha⟩
theorem made_j3 {ns:List Int} (hb:Bytes ns) (hs:ns.length≤1000) {i:Int} (h0:0≤i) (h2:i+2<ns.length) (ih:MakesFrom ns (i+3)) {l:List Item} (h:MadeP l) (hl:l.length<24) (p:ByteArray):
    ∃r,Ev (fun k=>law12_Make.j3 k ns l i p) r∧MadeP r:=by
  have b1:=hb.rd (i+1)
  have b2:=hb.rd (i+2)
  have hlen:=h.right.len
  have hnm:(wrap64 (97+(Int.tmod (wrap64 ((l.length:Int)*5)) 24))) % 256=97+((l.length:Int)*5) % 24:=by
    rw [w64 (n:=(l.length:Int)*5) (by omega) (by omega),Int.tmod_eq_emod_of_nonneg (by omega),w64 (by omega) (by omega)];omega
  generalize hc:97+((l.length:Int)*5) % 24=c at hnm
  have hcb:97≤c∧c≤120:=by omega
  have hlim:wrap64 (20+wrap64 (rd ns (i+1)))=20+rd ns (i+1):=by rw [w64 (n:=rd ns (i+1)) (by omega) (by omega),w64 (by omega) (by omega)]
  obtain ⟨K,hK⟩:=r10_Create_ev (l:=l) (by omega) (one c) p ⟨20+rd ns (i+1),20+rd ns (i+1),20+rd ns (i+1)⟩
  dsimp only at hK
  have hw1:wrap64 (i+1)=i+1:=w64 (by omega) (by omega)
  have hw2:wrap64 (i+2)=i+2:=w64 (by omega) (by omega)
  have hw3:wrap64 (i+3)=i+3:=w64 (by omega) (by omega)
  have hr2:wrap64 (rd ns (i+2))=rd ns (i+2):=w64 (by omega) (by omega)
  by_cases hE:(creR l (one c) p ⟨20+rd ns (i+1),20+rd ns (i+1),20+rd ns (i+1)⟩).2=0
  rotate_left
  · obtain ⟨r, ⟨K3, hK3⟩, hM⟩ := ih l h
    dsimp only at hK3
    refine ⟨r,⟨K+K3+1,fun k hk=> ?_⟩,hM⟩
    obtain ⟨k,rfl⟩: ∃m,k=m+1:=⟨k - 1,by omega⟩
    simp only [law12_Make.j3]
    rw [hw1,hw2,hw3,hnm,hlim,if_pos (by omega),if_pos (by omega)]
    rw [show strOfNums [c]=one c from rfl,hK k (by omega)]
    simp only [Option.bind_some]
    rw [if_neg hE]
    exact hK3 k (by omega)
  obtain ⟨e1,hR,hno, -, -, -,hv, -⟩:=creR_right h.right hE
  have hm:=made_ins h (p:=p) hcb rfl (v:=⟨20+rd ns (i+1),20+rd ns (i+1),20+rd ns (i+1)⟩) (fun c=>by cases c<;>(simp only [Comp.of];omega)) hl hR
  generalize hL:insL l (newItem (one c) p ⟨20+rd ns (i+1),20+rd ns (i+1),20+rd ns (i+1)⟩)=l1 at*
  have hl1:0<l1.length:=by rw [←hL,len_insL];omega
  have hd:=tdiv_in (a:=rd ns (i+2)) (b:=16) (by omega) (by omega)
  have hw4:wrap64 (Int.tdiv (rd ns (i+2)) 16)=Int.tdiv (rd ns (i+2)) 16:=w64 (by omega) (by omega)
  have hq:=tmod_in (a:=Int.tdiv (rd ns (i+2)) 16) (b:=(l1.length:Int)) hd.1 (by omega)
  generalize hJ:Int.tmod (Int.tdiv (rd ns (i+2)) 16) (l1.length:Int)=j at*
  obtain ⟨v,hv'⟩: ∃v:Vec,v=⟨Int.tmod (rd ns (i+2)) 16,wrap64 (Int.tdiv (Int.tmod (rd ns (i+2)) 16) 2),Int.tmod (Int.tmod (rd ns (i+2)) 16) 3⟩:=⟨_,rfl⟩
  obtain ⟨K2,hK2⟩:=r10_Admit_ev hm.right (rd_T31 l1 j).f0 v
  dsimp only at hK2
  have main: ∀r,Ev (fun k=>law12_Make.l0 k ns (if (admR l1 (rd_T31 l1 j).f0 v).2=0 then (admR l1 (rd_T31 l1 j).f0 v).1 else l1) (i+3)) r→Ev (fun k=>law12_Make.j3 k ns l i p) r:=by
    rintro r ⟨K3,hK3⟩
    refine ⟨K+K2+K3+1,fun k hk=> ?_⟩
    dsimp only at hK3
    obtain ⟨k,rfl⟩: ∃m,k=m+1:=⟨k - 1,by omega⟩
    simp only [law12_Make.j3]
    rw [hw1,hw2,hw3,hnm,hlim,hr2,if_pos (by omega),if_pos (by omega)]
    rw [show strOfNums [c]=one c from rfl,hK k (by omega)]
    simp only [Option.bind_some]
    rw [if_pos hE,if_pos (by omega),if_pos (by omega),e1,if_neg (by omega),hw4,hJ,if_pos hq.1,if_pos hq.2]
    have:=hK2 k (by omega)
    rw [hv'] at this
    rw [this]
    simp only [Option.bind_some]
    rw [←hv']
    have:=hK3 k (by omega)
    by_cases q:(admR l1 (rd_T31 l1 j).f0 v).2=0
    · rw [if_pos q] at this ⊢;exact this
    rw [if_neg q] at this ⊢;exact this
  by_cases q:(admR l1 (rd_T31 l1 j).f0 v).2=0
  rotate_left
  · rw [if_neg q] at main
    obtain ⟨r,hr,hM⟩:=ih _ hm
    exact ⟨r,main r hr,hM⟩
  rw [if_pos q] at main
  obtain ⟨e2,hR2, -⟩:=admR_right hm.right q
  rw [e2] at main
  obtain ⟨r,hr,hM⟩:=ih _ (made_adm hm hR2)
  exact ⟨r,main r hr,hM⟩
theorem made_step {ns:List Int} (hb:Bytes ns) (hs:ns.length≤1000) {i:Int} (h0:0≤i) (h2:i+2<ns.length) (ih:MakesFrom ns (i+3)):MakesFrom ns i:=by
  intro l h
  have hw2:wrap64 (i+2)=i+2:=w64 (by omega) (by omega)
  have b0:=hb.rd i
  have hr0:wrap64 (rd ns i)=rd ns i:=w64 (by omega) (by omega)
  by_cases hl:l.length<24
  rotate_left
  · refine ⟨l, Ev.step (f := fun k => law12_Make.j1 k ns l i false) (fun k => ?_) (Ev.step (f := fun _ => some l) (fun k => ?_) (Ev.now _)), h⟩
    · simp only [law12_Make.l0]
      rw [hw2,if_pos (by omega),show decide ((l.length:Int)<24)=false from decide_eq_false (by omega)]
    simp only [law12_Make.j1,Bool.false_eq_true,if_false]
  have h3:=made_j3 hb hs h0 h2 ih h hl
  have hj2: ∀b,(b=true→0<l.length)→ ∃r,Ev (fun k=>law12_Make.j2 k ns l i (rd ns i) ⟨#[]⟩ b) r∧MadeP r:=by
    intro b hbl
    cases b with
    | false =>
      obtain ⟨r,hr,hM⟩:=h3 ⟨#[]⟩
      refine ⟨r,Ev.step (fun k=> ?_) hr,hM⟩
      simp only [law12_Make.j2,Bool.false_eq_true,if_false]
    | true =>
      have hpos:=hbl rfl
      have hd:=tdiv_in (a:=rd ns i) (b:=3) (by omega) (by omega)
      have hw:wrap64 (Int.tdiv (rd ns i) 3)=Int.tdiv (rd ns i) 3:=w64 (by omega) (by omega)
      have hq:=tmod_in (a:=Int.tdiv (rd ns i) 3) (b:=(l.length:Int)) hd.1 (by omega)
      obtain ⟨r,hr,hM⟩:=h3 (rd_T31 l (Int.tmod (Int.tdiv (rd ns i) 3) (l.length:Int))).f0
      refine ⟨r,Ev.step (fun k=> ?_) hr,hM⟩
      simp only [law12_Make.j2,if_true]
      rw [hw,if_neg (by omega),if_pos hq.1,if_pos hq.2]
  have hj1: ∃r,Ev (fun k=>law12_Make.j1 k ns l i true) r∧MadeP r:=by
    by_cases hpos:0<l.length
    · obtain ⟨r, hr, hM⟩ := hj2 (decide ((Int.tmod (rd ns i) 3) > 0)) (fun _ => hpos)
      refine ⟨r,Ev.step (fun k=> ?_) hr,hM⟩
      simp only [law12_Make.j1,if_true]
      rw [if_pos (by omega),if_pos (by omega),if_pos (by omega),hr0]
    obtain ⟨r,hr,hM⟩:=hj2 false (fun q=>by cases q)
    refine ⟨r,Ev.step (fun k=> ?_) hr,hM⟩
    simp only [law12_Make.j1,if_true]
    rw [if_pos (by omega),if_pos (by omega),if_neg (by omega),hr0]
  obtain ⟨r,hr,hM⟩:=hj1
  refine ⟨r,Ev.step (fun k=> ?_) hr,hM⟩
  simp only [law12_Make.l0]
  rw [hw2,if_pos (by omega),show decide ((l.length:Int)<24)=true from decide_eq_true (by omega)]
theorem made_from {ns:List Int} (hb:Bytes ns) (hs:ns.length≤1000): ∀(d:Nat) (i:Int),0≤i→i≤1003→(ns.length:Int) - i≤d→MakesFrom ns i
  | d, i, h0, h1, hd => by
    by_cases h2:i+2<ns.length
    · cases d with
      |zero=>omega
      |succ d=>exact made_step hb hs h0 h2 (made_from hb hs d (i+3) (by omega) (by omega) (by omega))
    intro l h
    have hw2:wrap64 (i+2)=i+2:=w64 (by omega) (by omega)
    refine ⟨l,Ev.step (f:=fun k=>law12_Make.j1 k ns l i false) (fun k=> ?_) (Ev.step (f:=fun _=>some l) (fun k=> ?_) (Ev.now _)),h⟩
    · simp only [law12_Make.l0]
      rw [hw2,if_neg (by omega)]
    simp only [law12_Make.j1,Bool.false_eq_true,if_false]
theorem made_all {ns:List Int} (hb:Bytes ns) (hs:ns.length≤1000): ∃l,Ev (fun k=>law12_Make.f k ns) l∧MadeP l:=made_from hb hs ns.length 0 (by omega) (by omega) (by omega) [] made_nil
end Go.Proofs.Ytcgefpklljclgaa.Print

namespace Go.Proofs.Ytcgefpklljclgaa.Print
open Go.RowKit Go.Proofs.YtcgefpklljclgaaW.PrintWords Go.Proofs.YtcgefpklljclgaaW.PrintLast Go.Proofs.YtcgefpklljclgaaW.PrintMore
attribute [local go_sem] max2_int min2_int max_two min_two max_three min_three max_four min_four

end Go.Proofs.Ytcgefpklljclgaa.Print

namespace Go.Proofs.Ytcgefpklljclgaa.Print
open Go.RowKit Go.Proofs.YtcgefpklljclgaaW.PrintWords Go.Proofs.YtcgefpklljclgaaW.PrintLast Go.Proofs.YtcgefpklljclgaaW.PrintMore
theorem sumBy_ge {g:Item→Int}: ∀{l:List Item},(∀x∈l,0≤g x)→ ∀{x:Item},x∈l→g x≤sumBy g l
  |[],_,_,h=>by cases h
  | y :: l, hn, x, hx => by
    rw [sumBy_cons]
    have h0:=hn y (by simp)
    have h1:=sumBy_nonneg (g:=g) (l:=l) (fun z hz=>hn z (by simp [hz]))
    rcases List.mem_cons.1 hx with rfl|hx
    · omega
    have:=sumBy_ge (g:=g) (l:=l) (fun z hz=>hn z (by simp [hz])) hx
    omega
theorem child_le {l:List Item} (hl:RightP l) {x y:Item} (hx:x∈l) (hy:look l x.f1=some y) (c:Comp):c.of x.f4≤c.of y.f4:=by
  obtain ⟨hy1,hy2⟩:=look_mem hy
  have h1:=hl.sum c y hy1
  have h2:=((hl.ok y hy1).own c).1
  have h3:c.of x.f4≤csum c l y.f0:=by
    have:=sumBy_ge (g:=fun z=>if z.f1=y.f0 then c.of z.f4 else 0) (l:=l) (fun z hz=>by
      show 0≤(if z.f1=y.f0 then c.of z.f4 else 0)
      split
      · exact ((hl.ok z hz).sub c).1
      omega) hx
    rw [if_pos hy2.symm] at this
    exact this
  omega
theorem sub_up' {l:List Item} (hl:RightP l) (c:Comp) {n:ByteArray} {us:List ByteArray} (h:Chain l n us): ∀{x:Item},look l n=some x→ ∀{z:Item},z∈l→z.f0∈us→c.of x.f4≤c.of z.f4:=by
  induction h with
  |nil h=>intro x _ z _ hz;cases hz
  | @cons n x us h k ih =>
    intro x' hx' z hz hm
    rw [h] at hx'
    obtain rfl:=Option.some.inj hx'
    obtain ⟨hx,hn⟩:=look_mem h
    rcases List.mem_cons.1 hm with e|hm
    · obtain rfl := hl.eq_of hz hx (e.trans hn.symm)
      omega
    cases k with
    |nil _=>cases hm
    | @cons _ y _ hy k =>
      have h1:=child_le hl hx hy c
      have h2:=ih hy hz hm
      omega
theorem sub_up {l:List Item} (hl:RightP l) {x z:Item} (hx:x∈l) (hz:z∈l) (hm:z.f0∈up l x.f0) (c:Comp):c.of x.f4≤c.of z.f4:=sub_up' hl c (hl.chainAll x.f0) (hl.look hx) hz hm
end Go.Proofs.Ytcgefpklljclgaa.Print

namespace Go.Proofs.Ytcgefpklljclgaa.Print
open Go.RowKit Go.Proofs.YtcgefpklljclgaaW.PrintWords Go.Proofs.YtcgefpklljclgaaW.PrintLast Go.Proofs.YtcgefpklljclgaaW.PrintMore
attribute [local go_sem] max2_int min2_int max_two min_two max_three min_three max_four min_four

-- uses fidx
def hasStr (l:List ByteArray) (s:ByteArray):Bool:=l.any (fun x=>decide (s.toList=x.toList))
end Go.Proofs.Ytcgefpklljclgaa.Print

namespace Go.Proofs.Ytcgefpklljclgaa.Print
open Go.RowKit Go.Proofs.YtcgefpklljclgaaW.PrintWords Go.Proofs.YtcgefpklljclgaaW.PrintLast Go.Proofs.YtcgefpklljclgaaW.PrintMore
theorem hasStr_cons (x:ByteArray) (l:List ByteArray) (s:ByteArray):hasStr (x::l) s=(decide (s.toList=x.toList)||hasStr l s):=by unfold hasStr;rw [List.any_cons]
theorem r10_in_l0 (l:List ByteArray) (s:ByteArray) (hl:l.length<1000000): ∀(d i:Nat),l.length - i=d→i≤l.length→Ev (fun k=>r10_in.l0 k l s i) (hasStr (l.drop i) s)
  | 0, i, hd, hi => by
    obtain rfl:i=l.length:=by omega
    rw [List.drop_length]
    refine Ev.step (f:=fun _=>some false) (fun k=> ?_) (Ev.now _)
    simp only [r10_in.l0]
    rw [if_neg (by omega)]
  | d + 1, i, hd, hi => by
    have hlt:i<l.length:=by omega
    have hrd:rdOf ByteArray.empty l (i:Int)=l[i]:=by simp [rdOf,hlt]
    rw [List.drop_eq_getElem_cons hlt,hasStr_cons]
    by_cases e:l[i].toList=s.toList
    · rw [decide_eq_true e.symm, Bool.true_or]
      refine Ev.step (f:=fun _=>some true) (fun k=> ?_) (Ev.now _)
      simp only [r10_in.l0]
      rw [if_pos (by omega),if_pos (by omega),hrd,if_pos e]
    rw [decide_eq_false (fun q=>e q.symm),Bool.false_or]
    refine Ev.step (f:=fun k=>r10_in.l0 k l s ((i+1:Nat):Int)) (fun k=> ?_) (r10_in_l0 l s hl d (i+1) (by omega) (by omega))
    simp only [r10_in.l0]
    rw [if_pos (by omega),if_pos (by omega),hrd,if_neg e,w64 (by omega) (by omega)]
    rfl
theorem r10_in_ev (l:List ByteArray) (s:ByteArray) (hl:l.length<1000000):Ev (fun k=>r10_in.f k l s) (hasStr l s):=r10_in_l0 l s hl _ 0 rfl (by omega)
theorem up_cons {l:List Item} (hl:RightP l) {x:Item} (hx:x∈l):up l x.f0=x.f0::up l x.f1:=(Chain.cons (hl.look hx) (hl.chainAll x.f1)).up
theorem sumBy_filter (g:Item→Int) (p:Item→Bool): ∀l:List Item,sumBy g (l.filter p)=sumBy (fun x=>if p x=true then g x else 0) l
  |[]=>rfl
  | x :: l => by
    rw [sumBy_cons]
    by_cases h:p x=true
    · rw [List.filter_cons_of_pos h,sumBy_cons,sumBy_filter g p l,if_pos h]
    rw [List.filter_cons_of_neg h,sumBy_filter g p l,if_neg h];omega
theorem below_l0 (l:List Item) (n:ByteArray) (hl:l.length<1000000): ∀(d i:Nat) (acc:List ByteArray),l.length - i=d→i≤l.length→acc.length≤i→Ev (fun k=>r10_Below.l0 k l n acc i) (acc++((l.drop i).filter (fun x=>decide (x.f1=n))).map (·.f0))
  | 0, i, acc, hd, hi, ha => by
    obtain rfl:i=l.length:=by omega
    rw [List.drop_length]
    refine Ev.step (f:=fun _=>some acc) (fun k=> ?_) (by rw [show acc++(([]:List Item).filter (fun x=>decide (x.f1=n))).map (·.f0)=acc from List.append_nil _];exact Ev.now _)
    rw [r10_Below.l0,if_neg (by omega)]
  | d + 1, i, acc, hd, hi, ha => by
    have hlt:i<l.length:=by omega
    have hrd:rd_T31 l (i:Int)=l[i]:=by rw [rd_item,Int.toNat_natCast];simp [hlt]
    rw [List.drop_eq_getElem_cons hlt]
    generalize l[i]=x at*
    by_cases h:x.f1=n
    rotate_left
    · rw [List.filter_cons_of_neg (by simpa using h)]
      refine Ev.step (f:=fun k=>r10_Below.l0 k l n acc ((i+1:Nat):Int)) (fun k=> ?_) (below_l0 l n hl d (i+1) acc (by omega) (by omega) (by omega))
      rw [r10_Below.l0,if_pos (by omega),if_pos (by omega),hrd,if_neg (fun q=>h (nm_inj.1 q)),w64 (by omega) (by omega)]
      rfl
    rw [List.filter_cons_of_pos (by exact decide_eq_true h)]
    refine Ev.step (f:=fun k=>r10_Below.l0 k l n (acc++ [x.f0]) ((i+1:Nat):Int)) (fun k=> ?_) ?_
    · rw [r10_Below.l0, if_pos (by omega), if_pos (by omega), hrd, if_pos (nm_inj.2 h), if_pos (by omega), w64 (by omega) (by omega)]
      rfl
    have:=below_l0 l n hl d (i+1) (acc++ [x.f0]) (by omega) (by omega) (by simp;omega)
    rw [List.append_assoc] at this
    exact this
def kids (l:List Item) (n:ByteArray):List ByteArray:=(l.filter (fun x=>decide (x.f1=n))).map (·.f0)
theorem below_ev (l:List Item) (n:ByteArray) (hl:l.length<1000000):Ev (fun k=>r10_Below.f k l n) (kids l n):=by
 have h:=below_l0 l n hl _ 0 [] rfl (by omega) (by simp)
 rw [List.drop_zero,List.nil_append] at h
 exact h
theorem kids_mem {l:List Item} {n s:ByteArray}:s∈kids l n↔ ∃y∈l,y.f1=n∧y.f0=s:=by
  unfold kids
  simp only [List.mem_map,List.mem_filter,decide_eq_true_eq]
  constructor
  · rintro ⟨y,⟨h1,h2⟩,h3⟩;exact ⟨y,h1,h2,h3⟩
  rintro ⟨y,h1,h2,h3⟩;exact ⟨y,⟨h1,h2⟩,h3⟩
end Go.Proofs.Ytcgefpklljclgaa.Print

namespace Go.Proofs.Ytcgefpklljclgaa.Print
open Go.RowKit Go.Proofs.YtcgefpklljclgaaW.PrintWords Go.Proofs.YtcgefpklljclgaaW.PrintLast Go.Proofs.YtcgefpklljclgaaW.PrintMore
attribute [local go_sem] max2_int min2_int max_two min_two max_three min_three max_four min_four

attribute [local go_sem high] eqA27
end Go.Proofs.Ytcgefpklljclgaa.Print

namespace Go.Proofs.Ytcgefpklljclgaa.Print
open Go.RowKit Go.Proofs.YtcgefpklljclgaaW.PrintWords Go.Proofs.YtcgefpklljclgaaW.PrintLast Go.Proofs.YtcgefpklljclgaaW.PrintMore
end Go.Proofs.Ytcgefpklljclgaa.Print

namespace Go.Proofs.Ytcgefpklljclgaa.Print
open Go.RowKit Go.Proofs.YtcgefpklljclgaaW.PrintWords Go.Proofs.YtcgefpklljclgaaW.PrintLast Go.Proofs.YtcgefpklljclgaaW.PrintMore
attribute [local go_sem] max2_int min2_int max_two min_two max_three min_three max_four min_four

end Go.Proofs.Ytcgefpklljclgaa.Print

namespace Go.Proofs.Ytcgefpklljclgaa.Print
open Go.RowKit Go.Proofs.YtcgefpklljclgaaW.PrintWords Go.Proofs.YtcgefpklljclgaaW.PrintLast Go.Proofs.YtcgefpklljclgaaW.PrintMore
end Go.Proofs.Ytcgefpklljclgaa.Print

namespace Go.Proofs.Ytcgefpklljclgaa.Print
open Go.RowKit Go.Proofs.YtcgefpklljclgaaW.PrintWords Go.Proofs.YtcgefpklljclgaaW.PrintLast Go.Proofs.YtcgefpklljclgaaW.PrintMore
attribute [local go_sem] max2_int min2_int max_two min_two max_three min_three max_four min_four

attribute [local go_sem high] eqA27
attribute [local go_sem high] eqA37
end Go.Proofs.Ytcgefpklljclgaa.Print

namespace Go.Proofs.Ytcgefpklljclgaa.Print
open Go.RowKit Go.Proofs.YtcgefpklljclgaaW.PrintWords Go.Proofs.YtcgefpklljclgaaW.PrintLast Go.Proofs.YtcgefpklljclgaaW.PrintMore
abbrev Mark:=S54
abbrev Drift:=S37
theorem rd_mark (l:List Mark) {i:Nat} (h:i<l.length):rd_T54 l (i:Int)=l[i]:=by
 show l.getD (i:Int).toNat _=_
 rw [Int.toNat_natCast,List.getD_eq_getElem?_getD,List.getElem?_eq_getElem h,Option.getD_some]
def sameV (a b:Vec):Prop:=a.f0=b.f0∧a.f1=b.f1∧a.f2=b.f2
instance (a b:Vec):Decidable (sameV a b):=inferInstanceAs (Decidable (_∧_∧_))
def markD (l:List Item) (m:Mark):List Drift:=match look l m.f0 with
 |none=> [⟨m.f0,1⟩]
 |some x=>(if x.f1=m.f1 then [] else [⟨m.f0,2⟩])++(if sameV x.f2 m.f2 then [] else [⟨m.f0,3⟩])
def freshM (l:List Item) (m:Mark):List Mark:=match look l m.f0 with
 |none=> []
 |some x=> [⟨x.f0,x.f1,x.f2,x.f5⟩]
theorem find_some {l:List Item} {n:ByteArray} {x:Item} (h:look l n=some x):drift_live_find.f l n=some (x.f0,x.f1,x.f2.f0,x.f2.f1,x.f2.f2,x.f3.f0,x.f3.f1,x.f3.f2,x.f4.f0,x.f4.f1,x.f4.f2,x.f5,true):=by
 have h0:=fnd_ge.2 ⟨x,h⟩
 have h1:=fnd_lt l n
 unfold drift_live_find.f
 rw [tree_Find_eq]
 simp only [Option.bind_some]
 rw [if_neg (by omega),if_pos h0,if_pos h1,fnd_rd h]
theorem find_none {l:List Item} {n:ByteArray} (h:look l n=none):drift_live_find.f l n=some ((⟨#[]⟩:ByteArray),(⟨#[]⟩:ByteArray),0,0,0,0,0,0,0,0,0,0,false):=by
 unfold drift_live_find.f
 rw [tree_Find_eq]
 simp only [Option.bind_some]
 rw [if_pos (fnd_neg.2 h)]
theorem driftMarkF_eq (l:List Item) (m:Mark):driftMarkF l m=some (markD l m):=by
  unfold driftMarkF markD
  cases h:look l m.f0 with
  | none =>
    rw [find_none h]
    simp only [Option.bind_some]
    rw [if_neg (by simp)]
  | some x =>
    rw [find_some h]
    simp only [Option.bind_some,if_true]
    by_cases c1:x.f1=m.f1
    · rw [if_pos (nm_inj.2 c1),if_pos c1];rfl
    rw [if_neg (fun q=>c1 (nm_inj.1 q)),if_neg c1];rfl
theorem driftL_eq (l:List Item): ∀ms:List Mark,driftL l ms=some (ms.flatMap (markD l))
  |[]=>rfl
  | m :: ms => by
    unfold driftL
    rw [driftMarkF_eq,driftL_eq l ms]
    rfl
theorem markD_len (l:List Item) (m:Mark):(markD l m).length≤2:=driftMarkF_len (driftMarkF_eq l m)
theorem dr_flat_drop {β:Type} (f:Mark→List β) (ms:List Mark) {i:Nat} (h:i<ms.length):(ms.drop i).flatMap f=f ms[i]++(ms.drop (i+1)).flatMap f:=by
 rw [List.drop_eq_getElem_cons h,List.flatMap_cons]
theorem neq_same (a b:Vec):(!(a.f0==b.f0)||(!(a.f1==b.f1)||(!(a.f2==b.f2))))= !decide (sameV a b):=by
 unfold sameV
 by_cases h0:a.f0=b.f0<;>by_cases h1:a.f1=b.f1<;>by_cases h2:a.f2=b.f2<;>simp [h0,h1,h2]
theorem freshM_len (l:List Item) (m:Mark):(freshM l m).length≤1:=by unfold freshM;split<;>simp
theorem drift_Fresh_l0 (l:List Item) (ms:List Mark) (hs:ms.length<1000000): ∀(d i:Nat) (acc:List Mark),ms.length - i=d→i≤ms.length→acc.length≤i→Ev (fun k=>drift_Fresh.l0 k l acc ms (ms.length:Int) (i:Int)) (acc++(ms.drop i).flatMap (freshM l))
  | 0, i, acc, hd, hi, ha => by
    refine Ev.step (fun k=>drift_Fresh.l0.eq_2 (k:=k) ..) (Ev.congr (fun k=>if_neg (by omega)) ?_)
    rw [List.drop_of_length_le (by omega),List.flatMap_nil,List.append_nil]
    exact Ev.now _
  | d + 1, i, acc, hd, hi, ha => by
    have hlt:i<ms.length:=by omega
    have e3:wrap64 ((i:Int)+1)=((i+1:Nat):Int):=by rw [w64 (by omega) (by omega)];rfl
    have hlen:=freshM_len l ms[i]
    refine Ev.step (fun k=>drift_Fresh.l0.eq_2 (k:=k) ..) ?_
    rw [e3,rd_mark ms hlt]
    refine Ev.congr (fun k=>by rw [if_pos (by omega),if_pos (by omega),if_pos (by omega)]) ?_
    have next:=drift_Fresh_l0 l ms hs d (i+1) (acc++freshM l ms[i]) (by omega) (by omega) (by rw [List.length_append];omega)
    rw [List.append_assoc,←dr_flat_drop (freshM l) ms hlt] at next
    unfold freshM at next hlen
    cases h:look l ms[i].f0 with
    | none =>
      rw [h] at next
      dsimp only at next
      rw [List.append_nil] at next
      rw [find_none h]
      simp only [Option.bind_some]
      exact Ev.congr (fun k=>if_neg (by simp)) next
    | some x =>
      rw [h] at next
      dsimp only at next
      rw [find_some h]
      simp only [Option.bind_some,if_true]
      exact Ev.congr (fun k=>if_pos (by omega)) next
theorem drift_Fresh_ev (l:List Item) (ms:List Mark) (hs:ms.length<1000000):Ev (fun k=>drift_Fresh.f k ms l) (ms.flatMap (freshM l)):=by
 have h:=drift_Fresh_l0 l ms hs ms.length 0 [] (by omega) (by omega) (by simp)
 rw [List.drop_zero,List.nil_append] at h
 exact h
theorem da_sameM_l0 (l:List Mark) (hl:l.length<1000000): ∀(d i:Nat),l.length - i=d→i≤l.length→Ev (fun k=>r16_SameMarks.l0 k l l i) true
  |0,i,hd,hi=>Ev.step (fun k=>r16_SameMarks.l0.eq_2 (k:=k) ..) (Ev.congr (fun k=>if_neg (by omega)) (Ev.now _))
  | d + 1, i, hd, hi => by
    refine Ev.step (fun k=>r16_SameMarks.l0.eq_2 (k:=k) ..) ?_
    have e3:wrap64 ((i:Int)+1)=((i+1:Nat):Int):=by rw [w64 (by omega) (by omega)];rfl
    rw [e3]
    refine Ev.congr (fun k=>by rw [if_pos (by omega),if_pos (by omega),if_pos (by omega)]) ?_
    exact Ev.congr (fun k=>if_neg (by simp)) (da_sameM_l0 l hl d (i+1) (by omega) (by omega))
theorem da_sameM (l:List Mark) (hl:l.length<1000000):Ev (fun k=>r16_SameMarks.f k l l) true:=by
 unfold r16_SameMarks.f
 exact Ev.congr (fun k=>if_pos rfl) (da_sameM_l0 l hl l.length 0 (by omega) (by omega))
theorem dr_flat_len {β:Type} (f:Mark→List β) (n:Nat) (hf: ∀m,(f m).length≤n): ∀ms:List Mark,(ms.flatMap f).length≤n*ms.length
  |[]=>by simp
  | m :: ms => by
    rw [List.flatMap_cons,List.length_append,List.length_cons,Nat.mul_succ]
    have:=dr_flat_len f n hf ms
    have:=hf m
    omega
end Go.Proofs.Ytcgefpklljclgaa.Print

namespace Go.Proofs.Ytcgefpklljclgaa.Print
open Go.RowKit Go.Proofs.YtcgefpklljclgaaW.PrintWords Go.Proofs.YtcgefpklljclgaaW.PrintLast Go.Proofs.YtcgefpklljclgaaW.PrintMore
attribute [local go_sem] max2_int min2_int max_two min_two max_three min_three max_four min_four

end Go.Proofs.Ytcgefpklljclgaa.Print

namespace Go.Proofs.Ytcgefpklljclgaa.Print
open Go.RowKit Go.Proofs.YtcgefpklljclgaaW.PrintWords Go.Proofs.YtcgefpklljclgaaW.PrintLast Go.Proofs.YtcgefpklljclgaaW.PrintMore
def markOf (x:Item):Mark:=⟨x.f0,x.f1,x.f2,x.f5⟩
end Go.Proofs.Ytcgefpklljclgaa.Print

namespace Go.Proofs.Ytcgefpklljclgaa.Print
open Go.RowKit Go.Proofs.YtcgefpklljclgaaW.PrintWords Go.Proofs.YtcgefpklljclgaaW.PrintLast Go.Proofs.YtcgefpklljclgaaW.PrintMore
attribute [local go_sem] max2_int min2_int max_two min_two max_three min_three max_four min_four

structure Turned (W w':World) (base:Nat) (v:Value):Prop where
 below:Below base W w'
 block: ∀(k:Nat) o,W.heap[k]?=some o→some k≠v.ownBlock→w'.heap[k]?=some o
theorem Turned.of_below {W w':World} {base:Nat} {v:Value} (h:Below W.heap.size W w') (hb:base≤W.heap.size):Turned W w' base v:=⟨⟨h.os,h.tape,h.output,h.size,fun k hk=>h.block k (Nat.lt_of_lt_of_le hk hb)⟩,fun k o hk _=>blk_below hk h⟩
end Go.Proofs.Ytcgefpklljclgaa.Print

namespace Go.Proofs.Ytcgefpklljclgaa.Print
open Go.RowKit Go.Proofs.YtcgefpklljclgaaW.PrintWords Go.Proofs.YtcgefpklljclgaaW.PrintLast Go.Proofs.YtcgefpklljclgaaW.PrintMore
end Go.Proofs.Ytcgefpklljclgaa.Print

namespace Go.Proofs.Ytcgefpklljclgaa.Print
open Go.RowKit Go.Proofs.YtcgefpklljclgaaW.PrintWords Go.Proofs.YtcgefpklljclgaaW.PrintLast Go.Proofs.YtcgefpklljclgaaW.PrintMore
attribute [local go_sem] max2_int min2_int max_two min_two max_three min_three max_four min_four
end Go.Proofs.Ytcgefpklljclgaa.Print

namespace Go.Proofs.Ytcgefpklljclgaa.Print
open Go.RowKit Go.Proofs.YtcgefpklljclgaaW.PrintWords Go.Proofs.YtcgefpklljclgaaW.PrintLast Go.Proofs.YtcgefpklljclgaaW.PrintMore
end Go.Proofs.Ytcgefpklljclgaa.Print

namespace Go.Proofs.Ytcgefpklljclgaa.Print
open Go.RowKit Go.Proofs.YtcgefpklljclgaaW.PrintWords Go.Proofs.YtcgefpklljclgaaW.PrintLast Go.Proofs.YtcgefpklljclgaaW.PrintMore
attribute [local go_sem] max2_int min2_int max_two min_two max_three min_three max_four min_four

end Go.Proofs.Ytcgefpklljclgaa.Print

namespace Go.Proofs.Ytcgefpklljclgaa.Print
open Go.RowKit Go.Proofs.YtcgefpklljclgaaW.PrintWords Go.Proofs.YtcgefpklljclgaaW.PrintLast Go.Proofs.YtcgefpklljclgaaW.PrintMore
def shSub (op:S27→S27) (y:S31):S31:=⟨y.f0,y.f1,y.f2,y.f3,op y.f4,y.f5⟩
end Go.Proofs.Ytcgefpklljclgaa.Print

namespace Go.Proofs.Ytcgefpklljclgaa.Print
open Go.RowKit Go.Proofs.YtcgefpklljclgaaW.PrintWords Go.Proofs.YtcgefpklljclgaaW.PrintLast Go.Proofs.YtcgefpklljclgaaW.PrintMore
attribute [local go_sem] max2_int min2_int max_two min_two max_three min_three max_four min_four

end Go.Proofs.Ytcgefpklljclgaa.Print

namespace Go.Proofs.Ytcgefpklljclgaa.Print
open Go.RowKit Go.Proofs.YtcgefpklljclgaaW.PrintWords Go.Proofs.YtcgefpklljclgaaW.PrintLast Go.Proofs.YtcgefpklljclgaaW.PrintMore
def oldR (l:List Item) (n:ByteArray) (ver:Int):Int:=match look l n with
 |none=>2
 |some x=>if 0≤ver∧x.f5≠ver then 14 else 0
theorem oldR_none {l:List Item} {n:ByteArray} {ver:Int} (h:look l n=none):oldR l n ver=2:=by unfold oldR;rw [h]
theorem oldR_some {l:List Item} {n:ByteArray} {ver:Int} {x:Item} (h:look l n=some x):oldR l n ver=if 0≤ver∧x.f5≠ver then 14 else 0:=by unfold oldR;rw [h]
theorem oldR_zero {l:List Item} {n:ByteArray} {ver:Int} (h:oldR l n ver=0): ∃x,look l n=some x∧(0≤ver→x.f5=ver):=by
  cases q:look l n with
  |none=>rw [oldR_none q] at h;cases h
  | some x =>
    rw [oldR_some q] at h
    refine ⟨x,rfl,fun hv=> ?_⟩
    by_cases e:x.f5=ver
    · exact e
    rw [if_pos ⟨hv,e⟩] at h;cases h
theorem r10_old_ev (l:List Item) (n:ByteArray) (ver:Int) (hl:l.length<1000000):Ev (fun k=>r10_old.f k l n ver) (oldR l n ver):=by
  refine Ev.bind (r10_Find_ev l n hl) (Ev.const ?_)
  cases q:look l n with
  |none=>rw [fnd_none q,oldR_none q,if_pos (by omega)]
  | some x =>
    have h0:=fnd_ge.2 ⟨x,q⟩
    have h1:=fnd_lt l n
    rw [if_neg (by omega),fnd_rd q,oldR_some q]
    by_cases e:ver≥0
    rotate_left
    · rw [if_neg e,if_neg (fun h=>e h.1)]
    rw [if_pos e,if_pos h0,if_pos h1]
    by_cases e2:x.f5=ver
    · rw [if_pos e2,if_neg (fun h=>h.2 e2)]
    rw [if_neg e2,if_pos ⟨e,e2⟩]
def limG (n:ByteArray) (v:Vec) (x:Item):Item:=if x.f0=n then ⟨x.f0,x.f1,v,x.f3,x.f4,x.f5+1⟩ else x
def limR (l:List Item) (n:ByteArray) (v:Vec) (ver:Int):List Item×Int:=
 if¬MayP v then ([],1) else if oldR l n ver≠0 then ([],oldR l n ver) else match look l n with
  |none=>([],2)
  |some x=>if 9007199254740992≤x.f5 then ([],4) else if LeP x.f4 v then (l.map (limG n v),0) else ([],12)
theorem set_limG {l:List Item} (hl:RightP l) {n:ByteArray} {x:Item} (h:look l n=some x) (v:Vec):l.set (fnd l n).toNat ⟨x.f0,x.f1,v,x.f3,x.f4,x.f5+1⟩=l.map (limG n v):=by
  rw [set_at hl.nodup h]
  refine List.map_congr_left fun z hz=> ?_
  unfold limG
  by_cases e:z.f0=n
  rotate_left
  · rw [if_neg e,if_neg e]
  rw [if_pos e,if_pos e]
  have hx:=look_mem h
  have:=hl.eq_of hz hx.1 (by rw [e,hx.2])
  rw [this]
theorem rd_set {l:List Item} {j:Int} (h0:0≤j) (h1:j<(l.length:Int)) (y:Item):rd_T31 (l.set j.toNat y) j=y:=by
 rw [rd_item]
 simp [List.getD_eq_getElem?_getD,show j.toNat<l.length by omega]
theorem ver_step {x:Item} (h:ItemOK x):wrap64 (x.f5+1)=x.f5+1:=by
 have:=h.ver
 exact w64 (by omega) (by omega)
theorem r10_Limit_ev {l:List Item} (hl:RightP l) (n:ByteArray) (v:Vec) (ver:Int):Ev (fun k=>r10_Limit.f k l n v.f0 v.f1 v.f2 ver) (limR l n v ver):=by
  have hlen:=hl.len
  have hmv:r10_MayVec.f v.f0 v.f1 v.f2=some (decide (MayP v)):=r10_MayVec_eq _ _ _
  have hno: ∀e:Int,((r10_no.f e).bind fun bt=>some (bt.1,bt.2))=some (([]:List Item),e):=fun _=>rfl
  have hcp:r10_copied.f l=some l:=r10_copied_eq l (by omega)
  unfold r10_Limit.f limR
  rw [hmv]
  simp only [Option.bind_some]
  by_cases h1:MayP v
  rotate_left
  · simp only [decide_eq_false h1]
    rw [if_pos h1]
    exact Ev.const (hno 1)
  rw [if_neg (show¬ ¬MayP v from fun h=>h h1)]
  simp only [decide_eq_true h1,if_true]
  refine Ev.bind (r10_old_ev l n ver (by omega)) ?_
  by_cases h2:oldR l n ver=0
  rotate_left
  · simp only [h2, if_false]
    rw [if_pos (show oldR l n ver≠0 from h2)]
    exact Ev.const (hno _)
  simp only [h2,if_true,hcp,Option.bind_some]
  rw [if_neg (by simp)]
  obtain ⟨x,hx,_⟩:=oldR_zero h2
  have j0:=fnd_ge.2 ⟨x,hx⟩
  have j1:=fnd_lt l n
  refine Ev.bind (r10_Find_ev l n (by omega)) ?_
  simp only [hx,eq_true j0,eq_true j1,if_true,fnd_rd hx]
  by_cases h3:9007199254740992≤x.f5
  · simp only [show (x.f5 ≥ 9007199254740992) = True from eq_true h3, h3, if_true]
    exact Ev.const (hno 4)
  simp only [show (x.f5≥9007199254740992)=False from eq_false h3,h3,if_false,r10_Le_eq,Option.bind_some]
  by_cases h4:LeP x.f4 v
  rotate_left
  · simp only [show decide (LeP ⟨x.f4.f0, x.f4.f1, x.f4.f2⟩ ⟨v.f0, v.f1, v.f2⟩) = false from decide_eq_false h4, if_false, h4]
    exact Ev.const (hno 12)
  simp only [show decide (LeP ⟨x.f4.f0,x.f4.f1,x.f4.f2⟩ ⟨v.f0,v.f1,v.f2⟩)=true from decide_eq_true h4,if_true,h4]
  refine Ev.const ?_
  rw [rd_set j0 j1,List.set_set]
  dsimp only
  rw [ver_step (hl.ok x (look_mem hx).1)]
  exact congrArg (fun q=>some (q,(0:Int))) (set_limG hl hx v)
def delL (l:List Item) (n:ByteArray):List Item:=l.filter (fun z=>decide (z.f0≠n))
def delR (l:List Item) (n:ByteArray) (ver:Int):List Item×Int:=
 if oldR l n ver≠0 then ([],oldR l n ver) else if 0<(kids l n).length then ([],13) else match look l n with
  |none=>([],2)
  |some x=>if x.f3.f0=0∧x.f3.f1=0∧x.f3.f2=0 then (delL l n,0) else ([],13)
theorem mem_delL {l:List Item} {n:ByteArray} {x:Item}:x∈delL l n↔x∈l∧x.f0≠n:=by simp [delL]
theorem look_delL (l:List Item) (n m:ByteArray):look (delL l n) m=if m=n then none else look l m:=by
  induction l with
  |nil=>simp [delL,look]
  | cons x l ih =>
    unfold delL at ih ⊢
    by_cases e:x.f0=n
    · rw [List.filter_cons_of_neg (by simpa using e), ih]
      by_cases em:m=n
      · rw [if_pos em,if_pos em]
      rw [if_neg em,if_neg em]
      unfold look
      rw [List.find?_cons]
      simp [show x.f0≠m from fun q=>em (q.symm.trans e)]
    rw [List.filter_cons_of_pos (by simpa using e)]
    unfold look at ih ⊢
    rw [List.find?_cons,List.find?_cons,ih]
    by_cases em:m=n
    · rw [if_pos em, if_pos em]
      simp [show x.f0≠m from fun q=>e (q.trans em)]
    rw [if_neg em,if_neg em]
theorem cut_delL {l:List Item} (hl:RightP l) {n:ByteArray} {x:Item} (h:look l n=some x):l.take (fnd l n).toNat++l.drop ((fnd l n).toNat+1)=delL l n:=by
  obtain ⟨j,h1,h2,h3,h4,h5⟩:=fnd_some h
  rw [h2,Int.toNat_natCast]
  have hx:l[j]=x:=by rw [←h3];simp [h1]
  have hsp:l=l.take j++l[j]::l.drop (j+1):=by rw [←List.drop_eq_getElem_cons h1,List.take_append_drop]
  have hnd:=hl.nodup
  unfold delL
  conv=>rhs;rw [hsp]
  rw [hsp,List.map_append,List.map_cons,List.nodup_append] at hnd
  obtain ⟨_,hn2,hn3⟩:=hnd
  rw [List.nodup_cons] at hn2
  rw [List.filter_append,List.filter_cons_of_neg (by rw [hx,h4];simp)]
  congr 1
  · rw [List.filter_eq_self.2]
    intro z hz
    have:=hn3 z.f0 (List.mem_map_of_mem hz) l[j].f0 (List.mem_cons_self ..)
    rw [hx,h4] at this
    simpa using this
  rw [List.filter_eq_self.2]
  intro z hz
  have:z.f0≠l[j].f0:=fun e=>hn2.1 (by rw [←e];exact List.mem_map_of_mem hz)
  rw [hx,h4] at this
  simpa using this
theorem r10_Delete_ev {l:List Item} (hl:RightP l) (n:ByteArray) (ver:Int):Ev (fun k=>r10_Delete.f k l n ver) (delR l n ver):=by
  have hlen:=hl.len
  have hno: ∀e:Int,((r10_no.f e).bind fun bt=>some (bt.1,bt.2))=some (([]:List Item),e):=fun _=>rfl
  unfold r10_Delete.f delR
  refine Ev.bind (r10_old_ev l n ver (by omega)) ?_
  by_cases h2:oldR l n ver=0
  rotate_left
  · simp only [h2, ne_eq, not_false_eq_true, if_true, if_false]
    exact Ev.const (hno _)
  obtain ⟨x,hx,_⟩:=oldR_zero h2
  have j0:=fnd_ge.2 ⟨x,hx⟩
  have j1:=fnd_lt l n
  simp only [h2,ne_eq,not_true_eq_false,if_false,if_true]
  refine Ev.bind (r10_Find_ev l n (by omega)) (Ev.bind (below_ev l n (by omega)) ?_)
  by_cases h3:0<(kids l n).length
  · simp only [show (((kids l n).length : Int) > 0) = True from eq_true (by omega), h3, if_true]
    refine Ev.step (f:=fun _=>some ([],13)) (fun k=> ?_) (Ev.now _)
    simp only [r10_Delete.j0,if_true]
    exact hno 13
  simp only [show (((kids l n).length:Int)>0)=False from eq_false (by omega),h3,if_false,hx,fnd_rd hx,eq_true j0,eq_true j1,if_true]
  by_cases h4:x.f3.f0=0∧x.f3.f1=0∧x.f3.f2=0
  rotate_left
  · simp only [h4, if_false]
    refine Ev.step (f:=fun _=>some ([],13)) (fun k=> ?_) (Ev.now _)
    simp only [r10_Delete.j0]
    rw [if_pos]
    · exact hno 13
    by_cases q1:x.f3.f0=0<;>by_cases q2:x.f3.f1=0<;>by_cases q3:x.f3.f2=0<;>simp_all
  obtain ⟨q1,q2,q3⟩:=h4
  simp only [q1,q2,q3,and_self,if_true,beq_self_eq_true,Bool.not_true,Bool.or_self]
  refine Ev.step (f:=fun _=>some (delL l n,0)) (fun k=> ?_) (Ev.now _)
  simp only [r10_Delete.j0]
  have e1:wrap64 (fnd l n+1)=fnd l n+1:=w64 (by omega) (by omega)
  rw [if_neg (by simp),if_pos j0,if_pos (by omega),r10_copied_eq _ (by rw [List.length_take];omega)]
  simp only [Option.bind_some,e1]
  rw [if_pos (by omega),if_pos (by omega),if_pos (by rw [List.length_take,List.length_drop];omega),show (fnd l n+1).toNat=(fnd l n).toNat+1 by omega,cut_delL hl hx]
theorem kids_none {l:List Item} {n:ByteArray} (h: ¬0<(kids l n).length): ∀y∈l,y.f1≠n:=fun y hy e=>h (List.length_pos_of_mem (kids_mem.2 ⟨y,hy,e,rfl⟩))
theorem del_right {l:List Item} (hl:RightP l) {n:ByteArray} {x:Item} (hx:look l n=some x) (hk: ∀y∈l,y.f1≠n) (h0:x.f3.f0=0∧x.f3.f1=0∧x.f3.f2=0):RightP (delL l n):=by
  obtain ⟨hxm,hxn⟩:=look_mem hx
  have hxs: ∀c:Comp,c.of x.f4=0:=fun c=>by
    have:=hl.sum c x hxm
    have e:csum c l x.f0=0:=sumBy_zero fun y hy=>if_neg (by rw [hxn];exact hk y hy)
    have e3:c.of x.f3=0:=by cases c<;>simp [Comp.of,h0]
    omega
  refine ⟨?_,fun y hy=>hl.ok y (mem_delL.1 hy).1,hl.sorted.filter _,fun y hy=> ?_,fun c y hy=> ?_,fun y hy=> ?_⟩
  · exact Nat.le_trans (List.length_filter_le _ _) hl.len
  · obtain ⟨hy1, hy2⟩ := mem_delL.1 hy
    rcases hl.par y hy1 with h|⟨z,hz⟩
    · exact .inl h
    exact .inr ⟨z,by rw [look_delL,if_neg (hk y hy1)];exact hz⟩
  · obtain ⟨hy1, hy2⟩ := mem_delL.1 hy
    rw [hl.sum c y hy1]
    congr 1
    unfold csum delL
    rw [sumBy_filter]
    refine sumBy_congr fun z hz=> ?_
    by_cases e:z.f0=n
    rotate_left
    · simp [e]
    have:z=x:=hl.eq_of hz hxm (e.trans hxn.symm)
    subst this
    simp [e,hxs c]
  obtain ⟨hy1,hy2⟩:=mem_delL.1 hy
  obtain ⟨us,h⟩:=hl.chain y hy1
  refine ⟨us, ?_⟩
  have: ∀{m:ByteArray} {us:List ByteArray},Chain l m us→m≠n→Chain (delL l n) m us:=by
    intro m us h
    induction h with
    |nil q=>intro hm;exact Chain.nil (by rw [look_delL,if_neg hm];exact q)
    | cons q _ ih =>
      intro hm
      refine Chain.cons (by rw [look_delL,if_neg hm];exact q) (ih (hk _ (look_mem q).1))
  exact this h hy2
end Go.Proofs.Ytcgefpklljclgaa.Print

namespace Go.Proofs.Ytcgefpklljclgaa.Print
open Go.RowKit Go.Proofs.YtcgefpklljclgaaW.PrintWords Go.Proofs.YtcgefpklljclgaaW.PrintLast Go.Proofs.YtcgefpklljclgaaW.PrintMore
attribute [local go_sem] max2_int min2_int max_two min_two max_three min_three max_four min_four

def mvSub (v u:S27):S27:=⟨wrap64 (u.f0 - v.f0),wrap64 (u.f1 - v.f1),wrap64 (u.f2 - v.f2)⟩
end Go.Proofs.Ytcgefpklljclgaa.Print

namespace Go.Proofs.Ytcgefpklljclgaa.Print
open Go.RowKit Go.Proofs.YtcgefpklljclgaaW.PrintWords Go.Proofs.YtcgefpklljclgaaW.PrintLast Go.Proofs.YtcgefpklljclgaaW.PrintMore
def updF (us:List ByteArray) (f:Item→Item) (x:Item):Item:=if x.f0∈us then f x else x
theorem updF_name {us:List ByteArray} {f:Item→Item} (hf: ∀x,(f x).f0=x.f0) (x:Item):(updF us f x).f0=x.f0:=by
  unfold updF
  split
  · exact hf x
  rfl
theorem set_upd {l:List Item} (hn:(l.map (·.f0)).Nodup) {s:ByteArray} {x:Item} (h:look l s=some x) (f:Item→Item):l.set (fnd l s).toNat (f x)=l.map (updF [s] f):=by
  rw [set_at hn h]
  refine List.map_congr_left fun z hz=> ?_
  unfold updF
  by_cases e:z.f0=s
  rotate_left
  · rw [if_neg e,if_neg (by simpa using e)]
  rw [if_pos e,if_pos (by simp [e])]
  have h1:=look_of_mem hn hz
  rw [e,h] at h1
  rw [Option.some.inj h1]
theorem upd_cons {us:List ByteArray} {s:ByteArray} (hs:s ∉ us) {f:Item→Item} (hf: ∀x,(f x).f0=x.f0) (l:List Item):(l.map (updF [s] f)).map (updF us f)=l.map (updF (s::us) f):=by
  rw [List.map_map]
  refine List.map_congr_left fun z hz=> ?_
  simp only [Function.comp]
  by_cases e:z.f0=s
  · have e1 : updF [s] f z = f z := by unfold updF; rw [if_pos (by simp [e])]
    rw [e1]
    unfold updF
    rw [if_neg (by rw [hf,e];exact hs),if_pos (by simp [e])]
  have e1:updF [s] f z=z:=by unfold updF;rw [if_neg (by simpa using e)]
  rw [e1]
  unfold updF
  by_cases e2:z.f0∈us
  · rw [if_pos e2,if_pos (List.mem_cons_of_mem _ e2)]
  rw [if_neg e2,if_neg (by simp [e,e2])]
theorem upd_nil (f:Item→Item) (l:List Item):l.map (updF [] f)=l:=by
 rw [show updF [] f=id from by funext z;simp [updF]]
 simp
theorem nodup_upd {us:List ByteArray} {f:Item→Item} (hf: ∀x,(f x).f0=x.f0) {l:List Item} (hn:(l.map (·.f0)).Nodup):((l.map (updF us f)).map (·.f0)).Nodup:=by
 rw [List.map_map,show ((fun x:Item=>x.f0) ∘ updF us f)=(fun x=>x.f0) from by funext z;exact updF_name hf z]
 exact hn
theorem look_upd {us:List ByteArray} {f:Item→Item} (hf: ∀x,(f x).f0=x.f0) (l:List Item) (m:ByteArray):look (l.map (updF us f)) m=(look l m).map (updF us f):=look_map (f:=updF us f) (updF_name hf) l m
theorem shSub_name (op:Vec→Vec) (x:Item):(shSub op x).f0=x.f0:=rfl
def opA (v u:Vec):Vec:=⟨wrap64 (u.f0+v.f0),wrap64 (u.f1+v.f1),wrap64 (u.f2+v.f2)⟩
theorem mv_l0 {l:List Item} {p:ByteArray} {x:Item} {n:ByteArray} (hx:look l n=some x) (ts us:List ByteArray) (hul:us.length<1000000) {R:List Item×Int}: ∀(d i:Nat) (cur:List Item),us.length - i=d→i≤us.length→cur.length<1000000→(cur.map (·.f0)).Nodup→(us.drop i).Nodup→(∀s∈us.drop i,∃y,look cur s=some y)→
    Ev (fun k=>r10_Move.l1 k l p (fnd l n) ts (cur.map (updF (us.drop i) (shSub (mvSub x.f4)))) 0) R→Ev (fun k=>r10_Move.l0 k l p (fnd l n) ts cur us i) R
  | 0, i, cur, hd, hi, hc, hn, hu, hin, h => by
    obtain rfl:i=us.length:=by omega
    rw [List.drop_length,upd_nil] at h
    refine Ev.step (f:=fun k=>r10_Move.l1 k l p (fnd l n) ts cur 0) (fun k=> ?_) h
    simp only [r10_Move.l0]
    rw [if_neg (by omega)]
  | d + 1, i, cur, hd, hi, hc, hn, hu, hin, h => by
    have hlt:i<us.length:=by omega
    rw [drop_cons hlt] at hu hin h
    rw [List.nodup_cons] at hu
    obtain ⟨y,hy⟩:=hin _ (List.mem_cons_self ..)
    have j0:=fnd_ge.2 ⟨y,hy⟩
    have j1:=fnd_lt cur (rdOf ByteArray.empty us i)
    have i0:=fnd_ge.2 ⟨x,hx⟩
    have i1:=fnd_lt l n
    rw [←upd_cons hu.1 (shSub_name _),←set_upd hn hy] at h
    have ih:=mv_l0 hx ts us hul d (i+1) _ (by omega) (by omega) (by rw [List.length_set];exact hc) (by rw [set_upd hn hy];exact nodup_upd (shSub_name (mvSub x.f4)) hn) hu.2 (fun t ht=>by
      obtain ⟨z,hz⟩:=hin t (List.mem_cons_of_mem _ ht)
      exact ⟨_,by rw [set_upd hn hy,look_upd (shSub_name (mvSub x.f4)),hz];rfl⟩) h
    refine Ev.step (f:=fun k=>(r10_Find.f k cur (rdOf ByteArray.empty us i)).bind fun t=>if 0≤t then (if t<(cur.length:Int) then r10_Move.l0 k l p (fnd l n) ts (cur.set t.toNat (shSub (mvSub x.f4) (rd_T31 cur t))) us ((i+1:Nat):Int) else none) else none) (fun k=> ?_) (Ev.bind (r10_Find_ev _ _ hc) ?_)
    rotate_left
    · simp only [eq_true j0, eq_true j1, if_true, fnd_rd hy]
      exact ih
    simp only [r10_Move.l0]
    rw [if_pos (by omega),if_pos (by omega)]
    simp only [eq_true i0,eq_true i1,if_true,fnd_rd hx]
    rw [w64 (n:=(i:Int)+1) (by omega) (by omega)]
    rfl
def chk (v:Vec) (cur:List Item) (us:List ByteArray):Bool:=us.all fun s=>match look cur s with
 |none=>false
 |some y=>decide (LeP (opA v y.f4) y.f2)
theorem chk_upd {v:Vec} {cur:List Item} {s:ByteArray} {us:List ByteArray} (hs:s ∉ us) {f:Item→Item} (hf: ∀x,(f x).f0=x.f0):chk v (cur.map (updF [s] f)) us=chk v cur us:=by
  unfold chk
  rw [Bool.eq_iff_iff,List.all_eq_true,List.all_eq_true]
  have e: ∀t∈us,look (cur.map (updF [s] f)) t=look cur t:=fun t ht=>by
    rw [look_upd hf]
    cases q:look cur t with
    |none=>rfl
    | some y =>
      obtain ⟨_,hy⟩:=look_mem q
      show some (updF [s] f y)=some y
      unfold updF
      rw [if_neg (by rw [hy];simp;rintro rfl;exact hs ht)]
  constructor<;>(intro h t ht;have:=h t ht;first|(rw [e t ht] at this;exact this)|(rw [e t ht];exact this))
def finM (l:List Item) (j:Int) (p:ByteArray):List Item:=l.set j.toNat ⟨(rd_T31 l j).f0,p,(rd_T31 l j).f2,(rd_T31 l j).f3,(rd_T31 l j).f4,wrap64 ((rd_T31 l j).f5+1)⟩
theorem mv_l1 {l:List Item} {p:ByteArray} {x:Item} {n:ByteArray} (hx:look l n=some x) (us:List ByteArray) (hul:us.length<1000000): ∀(d i:Nat) (cur:List Item),us.length - i=d→i≤us.length→cur.length<1000000→cur.length=l.length→(cur.map (·.f0)).Nodup→(us.drop i).Nodup→(∀s∈us.drop i,∃y,look cur s=some y)→
    Ev (fun k=>r10_Move.l1 k l p (fnd l n) us cur i) (if chk x.f4 cur (us.drop i)=true then (finM (cur.map (updF (us.drop i) (shSub (opA x.f4)))) (fnd l n) p,0) else ([],12))
  | 0, i, cur, hd, hi, hc, hcl, hn, hu, hin => by
    obtain rfl:i=us.length:=by omega
    have i0:=fnd_ge.2 ⟨x,hx⟩
    have i1:=fnd_lt l n
    rw [List.drop_length,upd_nil,if_pos (show chk x.f4 cur []=true from rfl)]
    refine Ev.step (f:=fun _=>some (finM cur (fnd l n) p,0)) (fun k=> ?_) (Ev.now _)
    simp only [r10_Move.l1]
    rw [if_neg (by omega),if_pos i0,if_pos (by omega)]
    simp only [Option.bind_some]
    rw [rd_set i0 (by omega),List.set_set]
    rfl
  | d + 1, i, cur, hd, hi, hc, hcl, hn, hu, hin => by
    have hlt:i<us.length:=by omega
    rw [drop_cons hlt] at hu hin ⊢
    rw [List.nodup_cons] at hu
    obtain ⟨y,hy⟩:=hin _ (List.mem_cons_self ..)
    have j0:=fnd_ge.2 ⟨y,hy⟩
    have j1:=fnd_lt cur (rdOf ByteArray.empty us i)
    have i0:=fnd_ge.2 ⟨x,hx⟩
    have i1:=fnd_lt l n
    have ih:=mv_l1 (p:=p) hx us hul d (i+1) (cur.set (fnd cur (rdOf ByteArray.empty us i)).toNat (shSub (opA x.f4) y)) (by omega) (by omega) (by rw [List.length_set];exact hc) (by rw [List.length_set];exact hcl) (by rw [set_upd hn hy];exact nodup_upd (shSub_name (opA x.f4)) hn) hu.2 (fun t ht=>by
      obtain ⟨z,hz⟩:=hin t (List.mem_cons_of_mem _ ht)
      exact ⟨_,by rw [set_upd hn hy,look_upd (shSub_name (opA x.f4)),hz];rfl⟩)
    have hck:chk x.f4 cur (rdOf ByteArray.empty us i::us.drop (i+1))=(decide (LeP (opA x.f4 y.f4) y.f2) && chk x.f4 cur (us.drop (i+1))):=by
      unfold chk
      rw [List.all_cons,hy]
    refine Ev.step (f:=fun k=>(r10_Find.f k cur (rdOf ByteArray.empty us i)).bind fun t=>if 0≤t then (if t<(cur.length:Int) then (r10_Le.f (rd_T31 (cur.set t.toNat (shSub (opA x.f4) (rd_T31 cur t))) t).f4.f0 (rd_T31 (cur.set t.toNat (shSub (opA x.f4) (rd_T31 cur t))) t).f4.f1 (rd_T31 (cur.set t.toNat (shSub (opA x.f4) (rd_T31 cur t))) t).f4.f2 (rd_T31 (cur.set t.toNat (shSub (opA x.f4) (rd_T31 cur t))) t).f2.f0 (rd_T31 (cur.set t.toNat (shSub (opA x.f4) (rd_T31 cur t))) t).f2.f1 (rd_T31 (cur.set t.toNat (shSub (opA x.f4) (rd_T31 cur t))) t).f2.f2).bind fun b=>if b=true then r10_Move.l1 k l p (fnd l n) us (cur.set t.toNat (shSub (opA x.f4) (rd_T31 cur t))) ((i+1:Nat):Int) else some ([],12) else none) else none) (fun k=> ?_) (Ev.bind (r10_Find_ev _ _ hc) ?_)
    · simp only [r10_Move.l1]
      rw [if_pos (by omega),if_pos (by omega)]
      simp only [eq_true i0,eq_true i1,if_true,fnd_rd hx]
      rw [w64 (n:=(i:Int)+1) (by omega) (by omega)]
      rfl
    simp only [eq_true j0,eq_true j1,if_true,fnd_rd hy,rd_set j0 j1,r10_Le_eq,Option.bind_some,shSub]
    rw [hck]
    by_cases hle:LeP (opA x.f4 y.f4) y.f2
    rotate_left
    · rw [decide_eq_false hle, Bool.false_and, if_neg (by simp)]
      exact Ev.congr (fun k=>if_neg (by simp)) (Ev.now _)
    rw [decide_eq_true hle,Bool.true_and]
    refine Ev.congr (fun k=>if_pos rfl) ?_
    rw [show chk x.f4 (cur.set (fnd cur (rdOf ByteArray.empty us i)).toNat (shSub (opA x.f4) y)) (us.drop (i+1))=chk x.f4 cur (us.drop (i+1)) from by rw [set_upd hn hy,chk_upd hu.1 (shSub_name _)],
      show (cur.set (fnd cur (rdOf ByteArray.empty us i)).toNat (shSub (opA x.f4) y)).map (updF (us.drop (i+1)) (shSub (opA x.f4)))=cur.map (updF (rdOf ByteArray.empty us i::us.drop (i+1)) (shSub (opA x.f4))) from by rw [set_upd hn hy,upd_cons hu.1 (shSub_name _)]] at ih
    exact ih
theorem hasStr_iff {l:List ByteArray} {s:ByteArray}:hasStr l s=true↔s∈l:=by
  unfold hasStr
  rw [List.any_eq_true]
  constructor
  · rintro ⟨x, hx, e⟩
    rw [nm_inj.1 (of_decide_eq_true e)]
    exact hx
  intro h
  exact ⟨s,h,decide_eq_true rfl⟩
def SmP (v:Vec):Prop:= ∀c:Comp, -2199023255552≤c.of v∧c.of v≤2199023255552
theorem MayP.sm {v:Vec} (h:MayP v):SmP v:=fun c=>by have:=h c;omega
theorem mvSub_eq {v u:Vec} (hv:MayP v) (hu:MayP u):mvSub v u=vsub u v:=by
 have a0:=hv .cpu;have a1:=hv .mem;have a2:=hv .pods
 have b0:=hu .cpu;have b1:=hu .mem;have b2:=hu .pods
 simp only [Comp.of] at a0 a1 a2 b0 b1 b2
 unfold mvSub vsub
 rw [w64 (by omega) (by omega),w64 (by omega) (by omega),w64 (by omega) (by omega)]
theorem vsub_sm {v u:Vec} (hv:MayP v) (hu:MayP u):SmP (vsub u v):=fun c=>by
 have a:=hv c;have b:=hu c
 rw [of_vsub];omega
theorem opA_eq {v u:Vec} (hv:MayP v) (hu:SmP u):opA v u=vadd u v:=by
 have a0:=hv .cpu;have a1:=hv .mem;have a2:=hv .pods
 have b0:=hu .cpu;have b1:=hu .mem;have b2:=hu .pods
 simp only [Comp.of] at a0 a1 a2 b0 b1 b2
 unfold opA vadd
 rw [w64 (by omega) (by omega),w64 (by omega) (by omega),w64 (by omega) (by omega)]
def mvS (fs ts:List ByteArray) (v:Vec) (z:Item):Vec:=if z.f0∈ts then vadd (if z.f0∈fs then vsub z.f4 v else z.f4) v else if z.f0∈fs then vsub z.f4 v else z.f4
def movG (n p:ByteArray) (fs ts:List ByteArray) (v:Vec) (z:Item):Item:=⟨z.f0,if z.f0=n then p else z.f1,z.f2,z.f3,mvS fs ts v z,if z.f0=n then z.f5+1 else z.f5⟩
def movL (l:List Item) (n p:ByteArray) (x:Item):List Item:=l.map (movG n p (up l x.f1) (up l p) x.f4)
def movB (l:List Item) (x:Item) (p:ByteArray):Bool:=(up l p).all fun s=>hasStr (up l x.f1) s||match look l s with
 |none=>false
 |some y=>decide (LeP (vadd y.f4 x.f4) y.f2)
def movR (l:List Item) (n p:ByteArray) (ver:Int):List Item×Int:=
 if oldR l n ver≠0 then ([],oldR l n ver) else if p≠⟨#[]⟩∧(look l p).isNone=true then ([],2) else if n∈up l p then ([],10) else match look l n with
  |none=>([],2)
  |some x=>if 9007199254740992≤x.f5 then ([],4) else if movB l x p=true then (movL l n p x,0) else ([],12)
theorem mv_in {l:List Item} (hl:RightP l) {m s:ByteArray} (h:s∈up l m): ∃x,look l s=some x:=(hl.chainAll m).mem_look h
theorem not_own_way {l:List Item} (hl:RightP l) {n:ByteArray} {x:Item} (hx:look l n=some x):n ∉ up l x.f1:=by
 have h:=(Chain.cons hx (hl.chainAll x.f1)).nodup
 rw [List.nodup_cons] at h
 exact h.1
theorem way_len {l:List Item} (hl:RightP l) (m:ByteArray):(up l m).length<1000000:=by
 have:=up_len l m
 have:=hl.len
 omega
theorem set_one {l:List Item} (hn:(l.map (·.f0)).Nodup) {n:ByteArray} {x:Item} (h:look l n=some x) {f:Item→Item} {y:Item} (hy:y=f x):l.set (fnd l n).toNat y=l.map (updF [n] f):=by
 rw [hy]
 exact set_upd hn h f
theorem mov_doc {l:List Item} (hl:RightP l) {n p:ByteArray} {x:Item} (hx:look l n=some x) (hnt:n ∉ up l p):
    finM ((l.map (updF (up l x.f1) (shSub (mvSub x.f4)))).map (updF (up l p) (shSub (opA x.f4)))) (fnd l n) p=movL l n p x:=by
  obtain ⟨hxm,hxn⟩:=look_mem hx
  have hxs:=(hl.ok x hxm).sub
  have hnf:=not_own_way hl hx
  have e4:(l.map (updF (up l x.f1) (shSub (mvSub x.f4)))).map (updF (up l p) (shSub (opA x.f4)))=l.map fun z=>updF (up l p) (shSub (opA x.f4)) (updF (up l x.f1) (shSub (mvSub x.f4)) z):=by
    rw [List.map_map]
    rfl
  have hname: ∀z:Item,(updF (up l p) (shSub (opA x.f4)) (updF (up l x.f1) (shSub (mvSub x.f4)) z)).f0=z.f0:=fun z=>by
    rw [updF_name (shSub_name _),updF_name (shSub_name _)]
  rw [e4]
  have hn4:((l.map fun z=>updF (up l p) (shSub (opA x.f4)) (updF (up l x.f1) (shSub (mvSub x.f4)) z)).map (·.f0)).Nodup:=by
    rw [List.map_map,show ((fun x:Item=>x.f0) ∘ fun z=>updF (up l p) (shSub (opA x.f4)) (updF (up l x.f1) (shSub (mvSub x.f4)) z))=(fun x=>x.f0) from funext hname]
    exact hl.nodup
  have hlk:=look_map hname l n
  rw [hx] at hlk
  have hf4:=fnd_map hname l n
  unfold finM
  rw [←hf4,fnd_rd hlk]
  rw [set_one (f:=fun z=>⟨z.f0,p,z.f2,z.f3,z.f4,wrap64 (z.f5+1)⟩) hn4 hlk rfl,List.map_map]
  unfold movL
  refine List.map_congr_left fun z hz=> ?_
  have hzs:=(hl.ok z hz).sub
  simp only [Function.comp]
  by_cases e:z.f0=n
  · have hw := ver_step (hl.ok z hz)
    simp [updF,movG,mvS,e,hnf,hnt,hw]
  have ev:mvSub x.f4 z.f4=vsub z.f4 x.f4:=mvSub_eq hxs hzs
  have ea:opA x.f4 z.f4=vadd z.f4 x.f4:=opA_eq hxs hzs.sm
  have ea2:opA x.f4 (vsub z.f4 x.f4)=vadd (vsub z.f4 x.f4) x.f4:=opA_eq hxs (vsub_sm hxs hzs)
  by_cases q1:z.f0∈up l x.f1<;>by_cases q2:z.f0∈up l p<;>simp [updF,movG,mvS,shSub,e,q1,q2,ev,ea,ea2]
theorem chk_movB {l:List Item} (hl:RightP l) {n p:ByteArray} {x:Item} (hx:look l n=some x):chk x.f4 (l.map (updF (up l x.f1) (shSub (mvSub x.f4)))) (up l p)=movB l x p:=by
  obtain ⟨hxm,hxn⟩:=look_mem hx
  have hxs:=(hl.ok x hxm).sub
  unfold chk movB
  rw [Bool.eq_iff_iff,List.all_eq_true,List.all_eq_true]
  have key: ∀s∈up l p,(match look (l.map (updF (up l x.f1) (shSub (mvSub x.f4)))) s with|none=>false|some y=>decide (LeP (opA x.f4 y.f4) y.f2))=(hasStr (up l x.f1) s||match look l s with|none=>false|some y=>decide (LeP (vadd y.f4 x.f4) y.f2)):=by
    intro s hs
    obtain ⟨y,hy⟩:=mv_in hl hs
    obtain ⟨hym,hyn⟩:=look_mem hy
    have hys:=hl.ok y hym
    rw [look_upd (shSub_name _),hy]
    show decide (LeP (opA x.f4 (updF (up l x.f1) (shSub (mvSub x.f4)) y).f4) (updF (up l x.f1) (shSub (mvSub x.f4)) y).f2)=_
    by_cases q:s∈up l x.f1
    rotate_left
    · have e : updF (up l x.f1) (shSub (mvSub x.f4)) y = y := by unfold updF; rw [if_neg (by rw [hyn]; exact q)]
      have hq:hasStr (up l x.f1) s=false:=by
        cases h:hasStr (up l x.f1) s with
        |false=>rfl
        |true=>exact absurd (hasStr_iff.1 h) q
      rw [e,hq,Bool.false_or,opA_eq hxs hys.sub.sm]
    have e:updF (up l x.f1) (shSub (mvSub x.f4)) y=shSub (mvSub x.f4) y:=by unfold updF;rw [if_pos (by rw [hyn];exact q)]
    rw [e,hasStr_iff.2 q,Bool.true_or]
    refine decide_eq_true ?_
    show LeP (opA x.f4 (mvSub x.f4 y.f4)) y.f2
    rw [mvSub_eq hxs hys.sub,opA_eq hxs (vsub_sm hxs hys.sub)]
    intro c
    have:=hys.fit c
    rw [of_vadd,of_vsub]
    omega
  constructor
  · intro h s hs
    exact (key s hs).symm.trans (h s hs)
  intro h s hs
  exact (key s hs).trans (h s hs)
end Go.Proofs.Ytcgefpklljclgaa.Print

namespace Go.Proofs.Ytcgefpklljclgaa.Print
open Go.RowKit Go.Proofs.YtcgefpklljclgaaW.PrintWords Go.Proofs.YtcgefpklljclgaaW.PrintLast Go.Proofs.YtcgefpklljclgaaW.PrintMore
attribute [local go_sem] max2_int min2_int max_two min_two max_three min_three max_four min_four

end Go.Proofs.Ytcgefpklljclgaa.Print

namespace Go.Proofs.Ytcgefpklljclgaa.Print
open Go.RowKit Go.Proofs.YtcgefpklljclgaaW.PrintWords Go.Proofs.YtcgefpklljclgaaW.PrintLast Go.Proofs.YtcgefpklljclgaaW.PrintMore
theorem movR_eq {l:List Item} {n p:ByteArray} {ver:Int} {x:Item} (h2:oldR l n ver=0) (hx:look l n=some x) (h3: ¬(p≠⟨#[]⟩∧(look l p).isNone=true)) (h4:n ∉ up l p):movR l n p ver=if 9007199254740992≤x.f5 then ([],4) else if movB l x p=true then (movL l n p x,0) else ([],12):=by
 unfold movR
 rw [if_neg (by simpa using h2),if_neg h3,if_neg h4]
 simp only [hx]
theorem hasStr_false {l:List ByteArray} {s:ByteArray} (h:s ∉ l):hasStr l s=false:=by
 cases q:hasStr l s with
 |false=>rfl
 |true=>exact absurd (hasStr_iff.1 q) h
theorem r10_Move_ev {l:List Item} (hl:RightP l) (n p:ByteArray) (ver:Int):Ev (fun k=>r10_Move.f k l n p ver) (movR l n p ver):=by
  have hlen:=hl.len
  have hno: ∀e:Int,((r10_no.f e).bind fun bt=>some (bt.1,bt.2))=some (([]:List Item),e):=fun _=>rfl
  refine Ev.bind (r10_old_ev l n ver (by omega)) ?_
  by_cases h2:oldR l n ver=0
  rotate_left
  · unfold movR
    rw [if_pos h2]
    refine Ev.congr (fun k=>if_neg h2) ?_
    exact Ev.const (hno _)
  obtain ⟨x,hx,_⟩:=oldR_zero h2
  have j0:=fnd_ge.2 ⟨x,hx⟩
  have j1:=fnd_lt l n
  rw [h2]
  refine Ev.congr (fun k=>if_pos rfl) (Ev.bind (r10_Find_ev l n (by omega)) (Ev.bind (r10_Up_ev l p (by omega)) ?_))
  have hj0: ∀b,b=decide (p≠⟨#[]⟩∧(look l p).isNone=true)→Ev (fun k=>r10_Move.j0 k l n p (fnd l n) (up l p) b) (movR l n p ver):=by
    rintro b rfl
    by_cases h3:p≠⟨#[]⟩∧(look l p).isNone=true
    · refine Ev.step (f := fun _ => some ([], 2)) (fun k => ?_) ?_
      · simp only [r10_Move.j0]
        rw [if_pos (decide_eq_true h3)]
        exact hno 2
      unfold movR
      rw [if_neg (by simpa using h2),if_pos h3]
      exact Ev.now _
    refine Ev.step (f:=fun k=>(r10_in.f k (up l p) n).bind fun t15=>if t15=true then some ([],10) else if x.f5≥9007199254740992 then some ([],4) else (r10_Up.f k l x.f1).bind fun t29=>r10_Move.l0 k l p (fnd l n) (up l p) l t29 0) (fun k=> ?_) (Ev.bind (r10_in_ev _ _ (way_len hl p)) ?_)
    · simp only [r10_Move.j0]
      rw [if_neg (by simpa using h3),fnd_rd hx,r10_copied_eq l (by omega)]
      simp only [eq_true j0,eq_true j1,if_true,Option.bind_some]
      rfl
    by_cases h4:n∈up l p
    · unfold movR
      rw [if_neg (by simpa using h2),if_neg h3,if_pos h4,hasStr_iff.2 h4]
      exact Ev.congr (fun k=>if_pos rfl) (Ev.now _)
    rw [movR_eq h2 hx h3 h4,hasStr_false h4]
    refine Ev.congr (fun k=>if_neg (by simp)) ?_
    by_cases h5:9007199254740992≤x.f5
    · rw [if_pos h5]
      exact Ev.congr (fun k=>if_pos h5) (Ev.now _)
    rw [if_neg h5]
    refine Ev.congr (fun k=>if_neg h5) (Ev.bind (r10_Up_ev l x.f1 (by omega)) ?_)
    refine mv_l0 hx (up l p) (up l x.f1) (way_len hl _) _ 0 l rfl (by omega) (by omega) hl.nodup (by rw [List.drop_zero];exact (hl.chainAll _).nodup) (by rw [List.drop_zero];exact fun s hs=>mv_in hl hs) ?_
    rw [List.drop_zero]
    have hin2: ∀s∈up l p,∃y,look (l.map (updF (up l x.f1) (shSub (mvSub x.f4)))) s=some y:=fun s hs=>by
      obtain ⟨y,hy⟩:=mv_in hl hs
      exact ⟨_,by rw [look_upd (shSub_name _),hy];rfl⟩
    have h6:=mv_l1 (p:=p) hx (up l p) (way_len hl p) _ 0 (l.map (updF (up l x.f1) (shSub (mvSub x.f4)))) rfl (by omega) (by rw [List.length_map];omega) (by rw [List.length_map]) (nodup_upd (shSub_name _) hl.nodup) (by rw [List.drop_zero];exact (hl.chainAll _).nodup) (by rw [List.drop_zero];exact hin2)
    rw [List.drop_zero,chk_movB hl hx,mov_doc hl hx h4] at h6
    exact h6
  by_cases hp:p=⟨#[]⟩
  · refine Ev.congr (fun k => if_pos (nm_empty.2 hp)) (hj0 _ ?_)
    rw [eq_comm,decide_eq_false_iff_not]
    exact fun h=>h.1 hp
  refine Ev.congr (fun k=>if_neg (fun e=>hp (nm_empty.1 e))) (hj0 _ ?_)
  cases q:look l p with
  | none =>
    rw [show up l p=[] from upGo_none q _]
    simp [hp]
  | some y =>
    have:=List.length_pos_of_mem (up_self q)
    simp only [Option.isNone_some,Bool.false_eq_true,and_false,decide_false]
    exact beq_eq_false_iff_ne.2 (by omega)
def doR (l:List Item) (kd:Int) (n p:ByteArray) (v:Vec) (ver:Int):List Item×Int:=
 if kd=1 then creR l n p v else if kd=2 then limR l n v ver else if kd=3 then movR l n p ver else if kd=4 then delR l n ver else ([],1)
theorem r10_Do_ev {l:List Item} (hl:RightP l) (kd:Int) (n p:ByteArray) (v:Vec) (ver:Int):Ev (fun k=>r10_Do.f k l kd n p v.f0 v.f1 v.f2 ver) (doR l kd n p v ver):=by
  have hlen:=hl.len
  unfold r10_Do.f doR
  by_cases h1:kd=1
  · simp only [h1, if_true]
    exact Ev.bind (r10_Create_ev (by omega) n p v) (Ev.now _)
  by_cases h2:kd=2
  · simp only [h1, h2, if_false, if_true]
    exact Ev.bind (r10_Limit_ev hl n v ver) (Ev.now _)
  by_cases h3:kd=3
  · simp only [h1, h2, h3, if_false, if_true]
    exact Ev.bind (r10_Move_ev hl n p ver) (Ev.now _)
  by_cases h4:kd=4
  · simp only [h1, h2, h3, h4, if_false, if_true]
    exact Ev.bind (r10_Delete_ev hl n ver) (Ev.now _)
  simp only [h1,h2,h3,h4,if_false]
  exact Ev.now _
theorem map_right {l:List Item} (hl:RightP l) {f:Item→Item} (h0: ∀x,(f x).f0=x.f0) (h1: ∀x,(f x).f1=x.f1) (h3: ∀x,(f x).f3=x.f3) (h4: ∀x,(f x).f4=x.f4) (h2: ∀x∈l,MayP (f x).f2∧LeP x.f4 (f x).f2) (h5: ∀x∈l,1≤(f x).f5∧(f x).f5≤9007199254740992):RightP (l.map f) where
  len:=by rw [List.length_map];exact hl.len
  ok:=by
    intro y hy
    obtain ⟨x,hx,rfl⟩:=List.mem_map.1 hy
    have k:=hl.ok x hx
    exact ⟨by rw [h0];exact k.name,by rw [h0];exact k.size,(h2 x hx).1,by rw [h3];exact k.own,by rw [h4];exact k.sub,by rw [h4];exact (h2 x hx).2,h5 x hx⟩
  sorted:=by
    rw [List.pairwise_map]
    exact hl.sorted.imp (fun {a b} h=>by rw [h0,h0];exact h)
  par:=by
    intro y hy
    obtain ⟨x,hx,rfl⟩:=List.mem_map.1 hy
    rw [h1]
    rcases hl.par x hx with h|⟨z,h⟩
    · exact .inl h
    exact .inr ⟨_,by rw [look_map h0,h];rfl⟩
  sum:=by
    intro c y hy
    obtain ⟨x,hx,rfl⟩:=List.mem_map.1 hy
    rw [h4,h3,h0,hl.sum c x hx]
    congr 1
    unfold csum
    rw [sumBy_map]
    exact sumBy_congr fun z _=>by rw [h1,h4]
  chain:=by
    intro y hy
    obtain ⟨x,hx,rfl⟩:=List.mem_map.1 hy
    obtain ⟨us,h⟩:=hl.chain x hx
    rw [h0]
    exact ⟨us,h.map h0 h1⟩
theorem lim_right {l:List Item} (hl:RightP l) {n:ByteArray} {v:Vec} {x:Item} (hx:look l n=some x) (hv:MayP v) (hle:LeP x.f4 v) (h5: ¬9007199254740992≤x.f5):RightP (l.map (limG n v)):=by
  obtain ⟨hxm,hxn⟩:=look_mem hx
  have heq: ∀z∈l,z.f0=n→z=x:=fun z hz e=>hl.eq_of hz hxm (e.trans hxn.symm)
  refine map_right hl (fun z=> ?_) (fun z=> ?_) (fun z=> ?_) (fun z=> ?_) (fun z hz=> ?_) (fun z hz=> ?_)
  · unfold limG;split<;>rfl
  · unfold limG;split<;>rfl
  · unfold limG;split<;>rfl
  · unfold limG;split<;>rfl
  · unfold limG
    by_cases e:z.f0=n
    · rw [if_pos e,heq z hz e];exact ⟨hv,hle⟩
    rw [if_neg e];exact ⟨(hl.ok z hz).lim,(hl.ok z hz).fit⟩
  have:=(hl.ok z hz).ver
  unfold limG
  by_cases e:z.f0=n
  rotate_left
  · rw [if_neg e];exact this
  rw [if_pos e]
  have h6:=heq z hz e
  subst h6
  show 1≤z.f5+1∧z.f5+1≤9007199254740992
  omega
theorem of_mvS (c:Comp) (fs ts:List ByteArray) (v:Vec) (z:Item):c.of (mvS fs ts v z)=c.of z.f4 - (if z.f0∈fs then c.of v else 0)+(if z.f0∈ts then c.of v else 0):=by
 unfold mvS
 by_cases h1:z.f0∈ts<;>by_cases h2:z.f0∈fs<;>simp only [h1,h2,if_true,if_false,of_vadd,of_vsub]<;>omega
theorem movB_fits {l:List Item} {x:Item} {p:ByteArray} (h:movB l x p=true): ∀z,look l z.f0=some z→z.f0∈up l p→z.f0∈up l x.f1∨LeP (vadd z.f4 x.f4) z.f2:=by
  intro z hz hm
  have:=List.all_eq_true.1 h z.f0 hm
  rw [hz,Bool.or_eq_true] at this
  rcases this with h|h
  · exact .inl (hasStr_iff.1 h)
  exact .inr (of_decide_eq_true h)
theorem mov_right {l:List Item} (hl:RightP l) {n p:ByteArray} {x:Item} (hx:look l n=some x) (hp:p=⟨#[]⟩∨ ∃y,look l p=some y) (hnt:n ∉ up l p) (h5: ¬9007199254740992≤x.f5) (hb:movB l x p=true):RightP (movL l n p x):=by
  obtain ⟨hxm,hxn⟩:=look_mem hx
  have hxs:=(hl.ok x hxm).sub
  have hnf:=not_own_way hl hx
  have heq: ∀z∈l,z.f0=n→z=x:=fun z hz e=>hl.eq_of hz hxm (e.trans hxn.symm)
  have hfits:=movB_fits hb
  have hge: ∀c:Comp,∀z∈l,z.f0∈up l x.f1→c.of x.f4≤c.of z.f4:=fun c z hz hm=>sub_up hl hxm hz (by rw [up_cons hl hxm];exact List.mem_cons_of_mem _ hm) c
  have hname: ∀z,(movG n p (up l x.f1) (up l p) x.f4 z).f0=z.f0:=fun _=>rfl
  have hfit: ∀c:Comp,∀z∈l,0≤c.of (mvS (up l x.f1) (up l p) x.f4 z)∧c.of (mvS (up l x.f1) (up l p) x.f4 z)≤c.of z.f2:=fun c z hz=>by
    have k:=hl.ok z hz
    have a:=k.sub c;have b:=k.fit c;have d:=hxs c
    rw [of_mvS]
    by_cases h1:z.f0∈up l x.f1
    · have e := hge c z hz h1
      by_cases h2:z.f0∈up l p
      · rw [if_pos h1,if_pos h2];omega
      rw [if_pos h1,if_neg h2];omega
    by_cases h2:z.f0∈up l p
    rotate_left
    · rw [if_neg h1,if_neg h2];omega
    rw [if_neg h1,if_pos h2]
    rcases hfits z (hl.look hz) h2 with q|q
    · exact absurd q h1
    have:=q c
    rw [of_vadd] at this
    omega
  refine ⟨?_, ?_, ?_, ?_, ?_, ?_⟩
  · unfold movL;rw [List.length_map];exact hl.len
  · intro y hy
    obtain ⟨z,hz,rfl⟩:=List.mem_map.1 hy
    have k:=hl.ok z hz
    refine ⟨k.name,k.size,k.lim,k.own,fun c=> ?_,fun c=>(hfit c z hz).2, ?_⟩
    · have a := hfit c z hz; have b := (k.lim c).2
      exact ⟨a.1,Int.le_trans a.2 b⟩
    have:=k.ver
    show 1≤(if z.f0=n then z.f5+1 else z.f5)∧(if z.f0=n then z.f5+1 else z.f5)≤9007199254740992
    by_cases e:z.f0=n
    rotate_left
    · rw [if_neg e];exact this
    rw [if_pos e]
    have h6:=heq z hz e
    subst h6
    omega
  · unfold movL
    rw [List.pairwise_map]
    exact hl.sorted
  · intro y hy
    obtain ⟨z,hz,rfl⟩:=List.mem_map.1 hy
    have hlk: ∀m,look (movL l n p x) m=(look l m).map (movG n p (up l x.f1) (up l p) x.f4):=fun m=>look_map hname l m
    show (if z.f0=n then p else z.f1)=⟨#[]⟩∨ ∃y,look (movL l n p x) (if z.f0=n then p else z.f1)=some y
    by_cases e:z.f0=n
    · rw [if_pos e]
      rcases hp with h|⟨y,h⟩
      · exact .inl h
      exact .inr ⟨_,by rw [hlk,h];rfl⟩
    rw [if_neg e]
    rcases hl.par z hz with h|⟨y,h⟩
    · exact .inl h
    exact .inr ⟨_,by rw [hlk,h];rfl⟩
  rotate_left
  · intro y hy
    obtain ⟨z,hz,rfl⟩:=List.mem_map.1 hy
    show∃us,Chain (movL l n p x) z.f0 us
    have hlk: ∀m,look (movL l n p x) m=(look l m).map (movG n p (up l x.f1) (up l p) x.f4):=fun m=>look_map hname l m
    have apart: ∀{m:ByteArray} {us:List ByteArray},Chain l m us→n ∉ us→Chain (movL l n p x) m us:=by
      intro m us h
      induction h with
      |nil q=>intro _;exact Chain.nil (by rw [hlk,q];rfl)
      | @cons m y us q _ ih =>
        intro hn
        rw [List.mem_cons,not_or] at hn
        have hy:=ih hn.2
        have hyn:=(look_mem q).2
        refine Chain.cons (x:=movG n p (up l x.f1) (up l p) x.f4 y) (by rw [hlk,q];rfl) ?_
        show Chain _ (if y.f0=n then p else y.f1) us
        rw [if_neg (by rw [hyn];exact fun e=>hn.1 e.symm)]
        exact hy
    have hown:Chain (movL l n p x) n (n::up l p):=by
      refine Chain.cons (x:=movG n p (up l x.f1) (up l p) x.f4 x) (by rw [hlk,hx];rfl) ?_
      show Chain _ (if x.f0=n then p else x.f1) _
      rw [if_pos hxn]
      exact apart (hl.chainAll p) hnt
    have all: ∀{m:ByteArray} {us:List ByteArray},Chain l m us→ ∃us',Chain (movL l n p x) m us':=by
      intro m us h
      induction h with
      |nil q=>exact ⟨_,Chain.nil (by rw [hlk,q];rfl)⟩
      | @cons m y us q _ ih =>
        have hyn:=(look_mem q).2
        by_cases e:y.f0=n
        · rw [← hyn, e]
          exact ⟨_,hown⟩
        obtain ⟨us',h'⟩:=ih
        refine ⟨m::us',Chain.cons (us:=us') (x:=movG n p (up l x.f1) (up l p) x.f4 y) (by rw [hlk,q];rfl) ?_⟩
        show Chain _ (if y.f0=n then p else y.f1) _
        rw [if_neg e]
        exact h'
    exact all (hl.chainAll z.f0)
  intro c y hy
  obtain ⟨z,hz,rfl⟩:=List.mem_map.1 hy
  show c.of (mvS (up l x.f1) (up l p) x.f4 z)=c.of z.f3+csum c (movL l n p x) z.f0
  have k1:=chain_kids hl (hl.chainAll x.f1) (c.of x.f4) hz
  have k2:=chain_kids hl (hl.chainAll p) (c.of x.f4) hz
  have hone: ∀v:Int,sumBy (fun y=>if y.f0=n then v else 0) l=v:=fun v=>by
    have:=sumBy_one (v:=v) hl.nodup hxm
    rw [hxn] at this
    exact this
  have hcs:csum c (movL l n p x) z.f0=csum c l z.f0 - sumBy (fun y=>if y.f1=z.f0∧y.f0∈up l x.f1 then c.of x.f4 else 0) l+sumBy (fun y=>if y.f1=z.f0∧y.f0∈up l p then c.of x.f4 else 0) l - sumBy (fun y=>if y.f0=n then (if x.f1=z.f0 then c.of x.f4 else 0) else 0) l+sumBy (fun y=>if y.f0=n then (if p=z.f0 then c.of x.f4 else 0) else 0) l:=by
    unfold csum movL
    rw [sumBy_map,←sumBy_sub,←sumBy_add,←sumBy_sub,←sumBy_add]
    refine sumBy_congr fun y hy=> ?_
    show (if (if y.f0=n then p else y.f1)=z.f0 then c.of (mvS (up l x.f1) (up l p) x.f4 y) else 0)=_
    rw [of_mvS]
    by_cases e:y.f0=n
    · have h6 := heq y hy e
      subst h6
      have q1:y.f0 ∉ up l y.f1:=by rw [e];exact hnf
      have q2:y.f0 ∉ up l p:=by rw [e];exact hnt
      simp only [e,if_true,hnf,hnt,if_false,and_false]
      by_cases a1:y.f1=z.f0<;>by_cases a2:p=z.f0<;>simp only [a1,a2,if_true,if_false]<;>omega
    simp only [e,if_false]
    by_cases a1:y.f1=z.f0
    · by_cases a2:y.f0∈up l x.f1<;>by_cases a3:y.f0∈up l p<;>simp only [a1,a2,a3,true_and,if_true,if_false]<;>omega
    simp only [a1,false_and,if_false]
    omega
  rw [hcs,hone,hone,k1,k2,of_mvS]
  have hs:=hl.sum c z hz
  have m1:z.f0=x.f1→z.f0∈up l x.f1:=fun e=>by rw [←e];exact up_self (hl.look hz)
  have m2:z.f0=p→z.f0∈up l p:=fun e=>by rw [←e];exact up_self (hl.look hz)
  have t1:(if z.f0∈up l x.f1∧z.f0≠x.f1 then c.of x.f4 else 0)+(if x.f1=z.f0 then c.of x.f4 else 0)=if z.f0∈up l x.f1 then c.of x.f4 else 0:=by
    by_cases e:z.f0=x.f1
    · rw [if_neg (fun h=>h.2 e),if_pos e.symm,if_pos (m1 e)];omega
    have e': ¬x.f1=z.f0:=fun q=>e q.symm
    by_cases q:z.f0∈up l x.f1<;>simp [e,e',q]
  have t2:(if z.f0∈up l p∧z.f0≠p then c.of x.f4 else 0)+(if p=z.f0 then c.of x.f4 else 0)=if z.f0∈up l p then c.of x.f4 else 0:=by
    by_cases e:z.f0=p
    · rw [if_neg (fun h=>h.2 e),if_pos e.symm,if_pos (m2 e)];omega
    have e': ¬p=z.f0:=fun q=>e q.symm
    by_cases q:z.f0∈up l p<;>simp [e,e',q]
  omega
theorem do_right {l:List Item} (hl:RightP l) {kd:Int} {n p:ByteArray} {v:Vec} {ver:Int} (h:(doR l kd n p v ver).2=0):RightP (doR l kd n p v ver).1:=by
  unfold doR at h ⊢
  by_cases h1:kd=1
  · rw [if_pos h1] at h ⊢
    have:=creR_right hl h
    rw [this.1]
    exact this.2.1
  rw [if_neg h1] at h ⊢
  by_cases h2:kd=2
  · rw [if_pos h2] at h ⊢
    unfold limR at h ⊢
    by_cases a1:MayP v
    rotate_left
    · rw [if_pos a1] at h;cases h
    rw [if_neg (fun q=>q a1)] at h ⊢
    by_cases a2:oldR l n ver=0
    rotate_left
    · rw [if_pos a2] at h;exact absurd h a2
    rw [if_neg (by simpa using a2)] at h ⊢
    obtain ⟨x,hx,_⟩:=oldR_zero a2
    simp only [hx] at h ⊢
    by_cases a3:9007199254740992≤x.f5
    · rw [if_pos a3] at h;cases h
    rw [if_neg a3] at h ⊢
    by_cases a4:LeP x.f4 v
    · rw [if_pos a4]
      exact lim_right hl hx a1 a4 a3
    rw [if_neg a4] at h;cases h
  rw [if_neg h2] at h ⊢
  by_cases h3:kd=3
  rotate_left
  · rw [if_neg h3] at h ⊢
    by_cases h4:kd=4
    rotate_left
    · rw [if_neg h4] at h;cases h
    rw [if_pos h4] at h ⊢
    unfold delR at h ⊢
    by_cases a2:oldR l n ver=0
    rotate_left
    · rw [if_pos a2] at h;exact absurd h a2
    rw [if_neg (by simpa using a2)] at h ⊢
    obtain ⟨x,hx,_⟩:=oldR_zero a2
    by_cases a3:0<(kids l n).length
    · rw [if_pos a3] at h;cases h
    rw [if_neg a3] at h ⊢
    simp only [hx] at h ⊢
    by_cases a4:x.f3.f0=0∧x.f3.f1=0∧x.f3.f2=0
    · rw [if_pos a4]
      exact del_right hl hx (kids_none a3) a4
    rw [if_neg a4] at h;cases h
  rw [if_pos h3] at h ⊢
  by_cases a2:oldR l n ver=0
  rotate_left
  · unfold movR at h
    rw [if_pos a2] at h
    exact absurd h a2
  obtain ⟨x,hx,_⟩:=oldR_zero a2
  by_cases a3:p≠⟨#[]⟩∧(look l p).isNone=true
  · unfold movR at h
    rw [if_neg (by simpa using a2),if_pos a3] at h
    cases h
  by_cases a4:n∈up l p
  · unfold movR at h
    rw [if_neg (by simpa using a2),if_neg a3,if_pos a4] at h
    cases h
  rw [movR_eq a2 hx a3 a4] at h ⊢
  by_cases a5:9007199254740992≤x.f5
  · rw [if_pos a5] at h;cases h
  rw [if_neg a5] at h ⊢
  by_cases a6:movB l x p=true
  rotate_left
  · rw [if_neg a6] at h;cases h
  rw [if_pos a6]
  refine mov_right hl hx ?_ a4 a5 a6
  by_cases e:p=⟨#[]⟩
  · exact .inl e
  right
  cases q:look l p with
  |none=>exact absurd ⟨e,by rw [q];rfl⟩ a3
  |some y=>exact ⟨y,rfl⟩
end Go.Proofs.Ytcgefpklljclgaa.Print

namespace Go.Proofs.Ytcgefpklljclgaa.Print
open Go.RowKit Go.Proofs.YtcgefpklljclgaaW.PrintWords Go.Proofs.YtcgefpklljclgaaW.PrintLast Go.Proofs.YtcgefpklljclgaaW.PrintMore
attribute [local go_sem] max2_int min2_int max_two min_two max_three min_three max_four min_four

theorem eqA31 (d:Nat) (w:World) (x0 y0:ByteArray) (x1 y1:ByteArray) (x2 y2:Int) (x3 y3:Int) (x4 y4:Int) (x5 y5:Int) (x6 y6:Int) (x7 y7:Int) (x8 y8:Int) (x9 y9:Int) (x10 y10:Int) (x11 y11:Int):
  (Op.equalIn (d+3) 31 (.agg #[.string x0, .string x1, .int .i64 x2, .int .i64 x3, .int .i64 x4, .int .i64 x5, .int .i64 x6, .int .i64 x7, .int .i64 x8, .int .i64 x9, .int .i64 x10, .int .i64 x11]) (.agg #[.string y0, .string y1, .int .i64 y2, .int .i64 y3, .int .i64 y4, .int .i64 y5, .int .i64 y6, .int .i64 y7, .int .i64 y8, .int .i64 y9, .int .i64 y10, .int .i64 y11])).run Try.prog w= .ok (x0.toList==y0.toList && (x1.toList==y1.toList && ((x2==y2 && (x3==y3 && (x4==y4))) && ((x5==y5 && (x6==y6 && (x7==y7))) && ((x8==y8 && (x9==y9 && (x10==y10))) && (x11==y11)))))) w:=by
 refine eqA_of Try.underlying31 (by kernel_rfl) ?_
 refine eqf_cons (by rfl) (by go_simp;rfl) (by go_simp;rfl) (by go_simp) ?_
 refine eqf_cons (by rfl) (by go_simp;rfl) (by go_simp;rfl) (by go_simp) ?_
 refine eqf_cons (by rfl) (by go_simp) (by go_simp) (eqA27 (d+0) w _ _ _ _ _ _) ?_
 refine eqf_cons (by rfl) (by go_simp) (by go_simp) (eqA27 (d+0) w _ _ _ _ _ _) ?_
 refine eqf_cons (by rfl) (by go_simp) (by go_simp) (eqA27 (d+0) w _ _ _ _ _ _) ?_
 exact eqf_last (by rfl) (by go_simp;rfl) (by go_simp;rfl) (by go_simp)
attribute [local go_sem high] eqA31
attribute [local go_sem high] eqA31
end Go.Proofs.Ytcgefpklljclgaa.Print

namespace Go.Proofs.Ytcgefpklljclgaa.Print
open Go.RowKit Go.Proofs.YtcgefpklljclgaaW.PrintWords Go.Proofs.YtcgefpklljclgaaW.PrintLast Go.Proofs.YtcgefpklljclgaaW.PrintMore
def kdS (a:Int):Int:=1+a % 4
def nmS (b:Int):ByteArray:=one (97+b % 25)
def parS (a c:Int):ByteArray:=if kdS a=1∨kdS a=3 then (if c % 5=0 then ⟨#[]⟩ else one (97+c % 25)) else ⟨#[]⟩
def limS (a:Int):Int:=if kdS a≤2 then a / 4*3 else 0
theorem step_ev {a b c:Int} (ha:0≤a∧a≤255) (hb:0≤b∧b≤255) (hc:0≤c∧c≤255):Ev (fun k=>law15_Step.f k a b c) (kdS a,nmS b,parS a c,limS a,limS a,limS a):=by
 have e1:wrap64 a=a:=w64 (by omega) (by omega)
 have e2:Int.tmod a 4=a % 4:=Int.tmod_eq_emod_of_nonneg ha.1
 have e3:Int.tdiv a 4=a / 4:=Int.tdiv_eq_ediv_of_nonneg ha.1
 have e4:Int.tmod b 25=b % 25:=Int.tmod_eq_emod_of_nonneg hb.1
 have e5:Int.tmod c 25=c % 25:=Int.tmod_eq_emod_of_nonneg hc.1
 have e6:Int.tmod c 5=c % 5:=Int.tmod_eq_emod_of_nonneg hc.1
 have e7:wrap64 (1+a % 4)=kdS a:=w64 (by omega) (by omega)
 have e8:wrap64 (wrap64 (a / 4)*3)=a / 4*3:=by rw [w64 (n:=a / 4) (by omega) (by omega)];exact w64 (by omega) (by omega)
 have e9:(97+b % 25) % 256=97+b % 25:=by omega
 have e10:(97+c % 25) % 256=97+c % 25:=by omega
 have hk:kdS a=1∨kdS a=2∨kdS a=3∨kdS a=4:=by unfold kdS;omega
 refine Ev.step (f:=fun _=>some (kdS a,nmS b,parS a c,limS a,limS a,limS a)) (fun k=> ?_) (Ev.now _)
 simp only [law15_Step.f,law15_Step.j0,Option.bind_some,e1,e2,e3,e4,e5,e6,e7,e8,e9,e10]
 unfold parS limS nmS one
 rcases hk with h|h|h|h<;>by_cases h5:c % 5=0<;>simp [h,h5]
theorem dt_awake:law17_awake.f=some true:=by kernel_rfl
theorem dt_awake_ev:Ev (fun _=>law17_awake.f.bind fun t=>some t) true:=Ev.const (by rw [dt_awake];rfl)
theorem dt_make_l0 (l:List Item) (hl:l.length<1000000): ∀(d i:Nat) (acc:List Mark),l.length - i=d→i≤l.length→acc.length≤i→Ev (fun k=>law16_Make.l0 k [] 0 l (i:Int) acc 0) (acc++(l.drop i).map markOf,[],0)
  | 0, i, acc, hd, hi, ha => by
    refine Ev.step (fun k=>law16_Make.l0.eq_2 (k:=k) ..) (Ev.congr (fun k=>if_neg (by omega)) ?_)
    rw [List.drop_of_length_le (by omega),List.map_nil,List.append_nil]
    refine Ev.step (fun k=>law16_Make.l1.eq_2 (k:=k) ..) ?_
    rw [w64 (n:=0+2) (by omega) (by omega)]
    exact Ev.congr (fun k=>by rw [if_neg (by simp),if_neg (by simp)]) (Ev.now _)
  | d + 1, i, acc, hd, hi, ha => by
    have hlt:i<l.length:=by omega
    have e3:wrap64 ((i:Int)+1)=((i+1:Nat):Int):=by rw [w64 (by omega) (by omega)];rfl
    have hrd:rd_T31 l (i:Int)=l[i]:=by rw [rd_item,Int.toNat_natCast,List.getD_eq_getElem?_getD,List.getElem?_eq_getElem hlt,Option.getD_some]
    refine Ev.step (fun k=>law16_Make.l0.eq_2 (k:=k) ..) ?_
    rw [e3,hrd]
    have next:=dt_make_l0 l hl d (i+1) (acc++ [markOf l[i]]) (by omega) (by omega) (by rw [List.length_append,List.length_singleton];omega)
    have e:acc++(l.drop i).map markOf=(acc++ [markOf l[i]])++(l.drop (i+1)).map markOf:=by rw [List.drop_eq_getElem_cons hlt,List.map_cons];simp
    rw [e]
    exact Ev.congr (fun k=>by rw [if_pos (by omega),if_pos (by omega),if_pos (by omega)]<;>rfl) next
theorem dt_make_ev {ns:List Int} {l:List Item} (hl:Ev (fun k=>law12_Make.f k ns) l) (h:l.length<1000000):Ev (fun k=>law16_Make.f k ns [] 0) (l.map markOf,[],0):=by
 unfold law16_Make.f
 refine Ev.bind hl ?_
 have q:=dt_make_l0 l h l.length 0 [] (by omega) (by omega) (by simp)
 rw [List.drop_zero,List.nil_append] at q
 exact q
theorem turned_l0 {ms:List Int} (hm:Bytes ms) (hs:(ms.length:Int)≤9000000000000000000): ∀(d i:Nat) (l:List Item),33 - i=d→i≤32→RightP l→ ∃t,Ev (fun k=>law17_Turned.l0 k l ms (i:Int)) t∧RightP t
  | d, i, l, hd, hi, hl => by
    have e2:wrap64 ((i:Int)+2)=(i:Int)+2:=w64 (by omega) (by omega)
    have e1:wrap64 ((i:Int)+1)=(i:Int)+1:=w64 (by omega) (by omega)
    have e3:wrap64 ((i:Int)+3)=((i+3:Nat):Int):=by rw [w64 (by omega) (by omega)];rfl
    have stop:Ev (fun k=>law17_Turned.j1 k l ms (i:Int) false) l:=Ev.step (fun k=>law17_Turned.j1.eq_2 (k:=k) ..) (Ev.congr (fun k=>if_neg (by decide)) (Ev.now _))
    by_cases h2:(i:Int)+2<(ms.length:Int)
    rotate_left
    · exact ⟨l,Ev.step (fun k=>law17_Turned.l0.eq_2 (k:=k) ..) (by rw [e2];exact Ev.congr (fun k=>if_neg h2) stop),hl⟩
    by_cases h3:(i:Int)<30
    rotate_left
    · exact ⟨l,Ev.step (fun k=>law17_Turned.l0.eq_2 (k:=k) ..) (by rw [e2];exact Ev.congr (fun k=>by rw [if_pos h2,decide_eq_false h3]) stop),hl⟩
    match d,hd with
    |0,hd=>omega
    |1,hd=>omega
    |2,hd=>omega
    | d + 3, hd =>
      have st:=step_ev (hm.rd i) (hm.rd (i+1)) (hm.rd (i+2))
      have hdd:=r10_Do_ev hl (kdS (rd ms i)) (nmS (rd ms (i+1))) (parS (rd ms i) (rd ms (i+2))) ⟨limS (rd ms i),limS (rd ms i),limS (rd ms i)⟩ (-1)
      have hrt:(doR l (kdS (rd ms i)) (nmS (rd ms (i+1))) (parS (rd ms i) (rd ms (i+2))) ⟨limS (rd ms i),limS (rd ms i),limS (rd ms i)⟩ (-1)).2=0→_:=do_right hl
      have main: ∃t,Ev (fun k=>law17_Turned.j1 k l ms (i:Int) true) t∧RightP t:=by
        by_cases hr:(doR l (kdS (rd ms i)) (nmS (rd ms (i+1))) (parS (rd ms i) (rd ms (i+2))) ⟨limS (rd ms i),limS (rd ms i),limS (rd ms i)⟩ (-1)).2=0
        · obtain ⟨t, ht, htr⟩ := turned_l0 hm hs d (i + 3) _ (by omega) (by omega) (hrt hr)
          refine ⟨t,Ev.step (fun k=>law17_Turned.j1.eq_2 (k:=k) ..) ?_,htr⟩
          rw [e1,e2,e3]
          exact Ev.congr (fun k=>by rw [if_pos rfl,if_pos (by omega),if_pos (by omega),if_pos (by omega),if_pos (by omega),if_pos (by omega),if_pos h2]) (Ev.bind st (Ev.bind hdd (Ev.congr (fun k=>if_pos hr) ht)))
        obtain ⟨t,ht,htr⟩:=turned_l0 hm hs d (i+3) l (by omega) (by omega) hl
        refine ⟨t,Ev.step (fun k=>law17_Turned.j1.eq_2 (k:=k) ..) ?_,htr⟩
        rw [e1,e2,e3]
        exact Ev.congr (fun k=>by rw [if_pos rfl,if_pos (by omega),if_pos (by omega),if_pos (by omega),if_pos (by omega),if_pos (by omega),if_pos h2]) (Ev.bind st (Ev.bind hdd (Ev.congr (fun k=>if_neg hr) ht)))
      obtain ⟨t,ht,htr⟩:=main
      exact ⟨t,Ev.step (fun k=>law17_Turned.l0.eq_2 (k:=k) ..) (by rw [e2];exact Ev.congr (fun k=>by rw [if_pos h2,decide_eq_true h3]) ht),htr⟩
def kindsD (l:List Item) (m:Mark):List Int:=match look l m.f0 with
 |none=> [1]
 |some x=>(if x.f1=m.f1 then [] else [2])++(if sameV x.f2 m.f2 then [] else [3])
theorem markD_kinds (l:List Item) (m:Mark):markD l m=(kindsD l m).map (fun k=>(⟨m.f0,k⟩:Drift)):=by
  unfold markD kindsD
  cases look l m.f0 with
  |none=>rfl
  | some x =>
    dsimp only
    by_cases h1:x.f1=m.f1<;>by_cases h2:sameV x.f2 m.f2<;>simp [h1,h2]
theorem rd_ints (ks:List Int) {j:Nat} (h:j<ks.length):rd ks (j:Int)=ks[j]:=by
 show ks.getD (j:Int).toNat _=_
 rw [Int.toNat_natCast,List.getD_eq_getElem?_getD,List.getElem?_eq_getElem h,Option.getD_some]
theorem rd_drift (l:List Drift) {i:Nat} (h:i<l.length):rd_T37 l (i:Int)=l[i]:=by
 show l.getD (i:Int).toNat _=_
 rw [Int.toNat_natCast,List.getD_eq_getElem?_getD,List.getElem?_eq_getElem h,Option.getD_some]
theorem fresh_mem {t:List Item} {M:List Mark} {f:Mark} (h:f∈M.flatMap (freshM t)): ∃x,look t f.f0=some x∧f=⟨x.f0,x.f1,x.f2,x.f5⟩:=by
  obtain ⟨m,hm,hf⟩:=List.mem_flatMap.1 h
  unfold freshM at hf
  cases hx:look t m.f0 with
  |none=>rw [hx] at hf;simp at hf
  | some x =>
    rw [hx] at hf
    have hf:f=⟨x.f0,x.f1,x.f2,x.f5⟩:=by simpa using hf
    refine ⟨x, ?_,hf⟩
    rw [hf]
    show look t x.f0=some x
    rw [(look_mem hx).2]
    exact hx
theorem fresh_again {t:List Item} {M:List Mark}: ∀{F:List Mark},(∀f∈F,f∈M.flatMap (freshM t))→F.flatMap (freshM t)=F∧F.flatMap (markD t)=[]
  |[],_=>⟨rfl,rfl⟩
  | f :: F, h => by
    obtain ⟨x,hx,hf⟩:=fresh_mem (h f (by simp))
    obtain ⟨h1,h2⟩:=fresh_again (t:=t) (M:=M) (F:=F) (fun g hg=>h g (List.mem_cons_of_mem _ hg))
    have e1:freshM t f=[f]:=by unfold freshM;rw [hx];simp [←hf]
    have e2:markD t f=[]:=by
      unfold markD
      rw [hx]
      dsimp only
      rw [if_pos (by rw [hf]),if_pos (by rw [hf];exact ⟨rfl,rfl,rfl⟩)]
      rfl
    rw [List.flatMap_cons,List.flatMap_cons,h1,h2,e1,e2]
    exact ⟨rfl,rfl⟩
theorem dt_end {t:List Item} (ht:t.length<1000000) {M:List Mark} (hM:M.length<1000) (D:List Drift):Ev (fun k=>(drift_Fresh.f k M t).bind fun t43=>(if (D.length:Int)=(D.length:Int) then ((drift_Of.f t43 t).bind fun t46=>(if (t46.length:Int)=0 then ((drift_Fresh.f k t43 t).bind fun t49=>((r16_SameMarks.f k t49 t43).bind fun t52=>(if t52=true then ((law17_awake.f).bind fun t53=>(some t53)) else (none)))) else (none))) else (none))) true:=by
 have hF:=dr_flat_len (freshM t) 1 (freshM_len t) M
 obtain ⟨h1,h2⟩:=fresh_again (t:=t) (M:=M) (F:=M.flatMap (freshM t)) (fun f hf=>hf)
 refine Ev.bind (drift_Fresh_ev t M (by omega)) (Ev.congr (fun k=>if_pos rfl) ?_)
 have e1:drift_Of.f (M.flatMap (freshM t)) t=some []:=by unfold drift_Of.f;rw [if_pos (by omega),driftL_eq,h2]
 rw [e1]
 simp only [Option.bind_some]
 refine Ev.congr (fun k=>if_pos (by rfl)) ?_
 have q:=drift_Fresh_ev t (M.flatMap (freshM t)) (by omega)
 rw [h1] at q
 exact Ev.bind q (Ev.bind (da_sameM _ (by omega)) (Ev.congr (fun k=>if_pos rfl) dt_awake_ev))
theorem dt_l1 {t:List Item} {M:List Mark} (hM:M.length<1000) {D:List Drift} {i:Nat} (hi:i<M.length) {pre rest:List Drift} {ks:List Int} (hk:ks.length≤2) (hp:pre.length≤2*i) (hD:D=pre++(ks.map (fun k=>(⟨M[i].f0,k⟩:Drift))++rest)) (next:Ev (fun k=>law17_DriftTells.l0 k M t D ((pre.length+ks.length:Nat):Int) ((i+1:Nat):Int)) true): ∀(d j:Nat),ks.length - j=d→j≤ks.length→Ev (fun k=>law17_DriftTells.l1 k M t D ((pre.length+j:Nat):Int) (i:Int) ks (j:Int)) true
  | 0, j, hd, hj => by
    have e3:wrap64 ((i:Int)+1)=((i+1:Nat):Int):=by rw [w64 (by omega) (by omega)];rfl
    obtain rfl:j=ks.length:=by omega
    refine Ev.step (fun k=>law17_DriftTells.l1.eq_2 (k:=k) ..) ?_
    rw [e3]
    exact Ev.congr (fun k=>if_neg (by omega)) next
  | d + 1, j, hd, hj => by
    have hlt:j<ks.length:=by omega
    have e3:wrap64 ((j:Int)+1)=((j+1:Nat):Int):=by rw [w64 (by omega) (by omega)];rfl
    have e4:wrap64 (((pre.length+j:Nat):Int)+1)=((pre.length+(j+1):Nat):Int):=by rw [w64 (by omega) (by omega)];omega
    have hDl:pre.length+j<D.length:=by rw [hD];simp;omega
    have hrd:D[pre.length+j]=⟨M[i].f0,ks[j]⟩:=by
      subst hD
      rw [List.getElem_append_right (by omega)]
      simp [hlt]
    refine Ev.step (fun k=>law17_DriftTells.l1.eq_2 (k:=k) ..) ?_
    rw [e3,e4,rd_drift D hDl,hrd,rd_mark M hi,rd_ints ks hlt]
    refine Ev.congr (fun k=>by rw [if_pos (by omega),if_neg (by omega),if_pos (by omega),if_pos (by omega),if_pos (by omega),if_pos (by omega),if_pos (by omega),if_neg (by simp)]) ?_
    exact dt_l1 hM hi hk hp hD next d (j+1) (by omega) (by omega)
theorem dt_l0 {t:List Item} (ht:t.length<1000000) {M:List Mark} (hM:M.length<1000) {D:List Drift}: ∀(d i:Nat) (pre:List Drift),M.length - i=d→i≤M.length→pre.length≤2*i→D=pre++(M.drop i).flatMap (markD t)→Ev (fun k=>law17_DriftTells.l0 k M t D (pre.length:Int) (i:Int)) true
  | 0, i, pre, hd, hi, hp, hD => by
    refine Ev.step (fun k=>law17_DriftTells.l0.eq_2 (k:=k) ..) (Ev.congr (fun k=>if_neg (by omega)) ?_)
    rw [List.drop_of_length_le (by omega),List.flatMap_nil,List.append_nil] at hD
    subst hD
    exact dt_end ht hM _
  | d + 1, i, pre, hd, hi, hp, hD => by
    have hlt:i<M.length:=by omega
    rw [dr_flat_drop (markD t) M hlt,markD_kinds] at hD
    have hk2:(kindsD t M[i]).length≤2:=by have:=markD_len t M[i];rw [markD_kinds,List.length_map] at this;exact this
    have next:=dt_l0 ht hM (D:=D) d (i+1) (pre++(kindsD t M[i]).map (fun k=>(⟨M[i].f0,k⟩:Drift))) (by omega) (by omega) (by rw [List.length_append,List.length_map];omega) (by rw [hD,List.append_assoc])
    rw [List.length_append,List.length_map] at next
    have j2:Ev (fun k=>law17_DriftTells.j2 k M t D (pre.length:Int) (i:Int) (kindsD t M[i])) true:=by
      refine Ev.step (fun k=>law17_DriftTells.j2.eq_2 (k:=k) ..) ?_
      have q:=dt_l1 hM hlt hk2 hp hD next (kindsD t M[i]).length 0 (by omega) (by omega)
      simpa using q
    refine Ev.step (fun k=>law17_DriftTells.l0.eq_2 (k:=k) ..) ?_
    rw [rd_mark M hlt]
    refine Ev.congr (fun k=>by rw [if_pos (by omega),if_pos (by omega)]) (Ev.bind (r10_Find_ev t M[i].f0 ht) ?_)
    unfold kindsD at j2
    cases h:look t M[i].f0 with
    | none =>
      rw [h] at j2
      exact Ev.congr (fun k=>if_pos (fnd_neg.2 h)) j2
    | some x =>
      have h0:=fnd_ge.2 ⟨x,h⟩
      have h1:=fnd_lt t M[i].f0
      rw [h] at j2
      dsimp only at j2
      rw [fnd_rd h]
      refine Ev.congr (fun k=>by rw [if_neg (by omega),if_pos h0,if_pos h1]) ?_
      have hj1: ∀b:Bool,(b=true→x.f1≠M[i].f1∧ ¬sameV x.f2 M[i].f2)→(b=false→x.f1=M[i].f1∨sameV x.f2 M[i].f2)→Ev (fun k=>law17_DriftTells.j1 k M t D (pre.length:Int) (i:Int) (fnd t M[i].f0) [] b) true:=by
        intro b hb1 hb2
        refine Ev.step (fun k=>law17_DriftTells.j1.eq_2 (k:=k) ..) ?_
        rw [rd_mark M hlt,fnd_rd h]
        cases b with
        | true =>
          obtain ⟨q1,q2⟩:=hb1 rfl
          rw [if_neg q1,if_neg q2] at j2
          exact Ev.congr (fun k=>if_pos rfl) j2
        | false =>
          refine Ev.congr (fun k=>by rw [if_neg (by decide),if_pos h0,if_pos h1,if_pos (by omega),if_pos (by omega)]) ?_
          rw [neq_same]
          by_cases c1:x.f1=M[i].f1
          rotate_left
          · rcases hb2 rfl with q | c2
            · exact absurd q c1
            rw [if_neg c1,if_pos c2,List.append_nil] at j2
            exact Ev.congr (fun k=>if_neg (fun q=>c1 (nm_inj.1 q))) j2
          rw [if_pos c1,List.nil_append] at j2
          refine Ev.congr (fun k=>if_pos (nm_inj.2 c1)) ?_
          by_cases c2:sameV x.f2 M[i].f2
          · rw [if_pos c2] at j2
            exact Ev.congr (fun k=>if_neg (by simp [c2])) j2
          rw [if_neg c2] at j2
          exact Ev.congr (fun k=>if_pos (by simp [c2])) j2
      by_cases c1:x.f1=M[i].f1
      · exact Ev.congr (fun k=>if_pos (nm_inj.2 c1)) (hj1 false (by simp) (fun _=> .inl c1))
      refine Ev.congr (fun k=>if_neg (fun q=>c1 (nm_inj.1 q))) ?_
      rw [neq_same]
      refine hj1 _ (fun e=>⟨c1,by simpa using e⟩) (fun e=> .inr (by simpa using e))
end Go.Proofs.Ytcgefpklljclgaa.Print
namespace Go.Proofs.Ytcgefpklljclgaa.Pure
open Go.RowKit Go.Proofs.Ytcgefpklljclgaa.Print Go.Proofs.YtcgefpklljclgaaW.PrintWords Go.Proofs.YtcgefpklljclgaaW.PrintLast
theorem DriftTells:law17_DriftTells.Pure:=by
  intro l0 l1 _ _ hw hm _ hw1
  unfold law17_DriftTells.f
  by_cases h:(l0.length:Int)>60
  · exact Ev.rounds (Ev.congr (fun k=>if_pos h) dt_awake_ev)
  obtain ⟨l,hlev,hM⟩:=made_all (ns:=l0) (fun x hx=>u8_bd (hw x hx)) (by omega)
  have hlen:=hM.len
  obtain ⟨t,ht,htr⟩:=turned_l0 (ms:=l1) (fun x hx=>u8_bd (hw1 x hx)) (by unfold maxLen at hm;omega) 33 0 l rfl (by omega) hM.right
  have ht':Ev (fun k=>law17_Turned.f k l l1) t:=ht
  have htl:=htr.len
  refine Ev.rounds (Ev.congr (fun k=>if_neg h) (Ev.bind (dt_make_ev hlev (by omega)) (Ev.bind hlev (Ev.bind ht' ?_))))
  have hMl:(l.map markOf).length≤24:=by rw [List.length_map];exact hlen
  have e1:drift_Of.f (l.map markOf) t=some ((l.map markOf).flatMap (markD t)):=by unfold drift_Of.f;rw [if_pos (by omega),driftL_eq]
  dsimp only
  rw [e1]
  simp only [Option.bind_some]
  exact dt_l0 (by omega) (by omega) (l.map markOf).length 0 [] (by omega) (by omega) (by simp) (by simp)
end Go.Proofs.Ytcgefpklljclgaa.Pure

namespace Go.Proofs.Ytcgefpklljclgaa.Head
def signs:List Char:=(List.map Char.ofNat [104,97,114,110,101,115,115,32,101,57,98,52,101,102,52,49,56,50,56,101,102,50,55,102,51,55,102,48,53,54,50,55,56,50,54,101,101,100,101,57,53,99,56,98,55,57,99,100,98,99,52,99,49,100,54,49,98,101,98,55,57,55,52,102,49,51,53,99,97,49,48,51,32,99,117,116,32,97,116,32,100,111,111,114,107,101,101,112,101,114,47,100,111,111,114,107,101,101,112,101,114,108,97,119,49,51,46,82,111,111,109,85,112,32,100,111,111,114,107,101,101,112,101,114,47,100,111,111,114,107,101,101,112,101,114,108,97,119,49,55,46,68,114,105,102,116,65,108,108,32,100,111,111,114,107,101,101,112,101,114,47,100,111,111,114,107,101,101,112,101,114,108,97,119,49,55,46,68,114,105,102,116,84,101,108,108,115,32,100,111,111,114,107,101,101,112,101,114,47,100,111,111,114,107,101,101,112,101,114,108,97,119,50,48,46,69,102,102,101,99,116,65,108,108,32,100,111,111,114,107,101,101,112,101,114,47,100,111,111,114,107,101,101,112,101,114,108,97,119,50,48,46,69,102,102,101,99,116,77,97,100,101,32,100,111,111,114,107,101,101,112,101,114,47,100,111,111,114,107,101,101,112,101,114,108,97,119,50,48,46,69,102,102,101,99,116,68,111,110,101,32,100,111,111,114,107,101,101,112,101,114,47,100,111,111,114,107,101,101,112,101,114,108,97,119,49,52,46,65,100,109,105,116,84,119,105,99,101,32,100,111,111,114,107,101,101,112,101,114,47,100,111,111,114,107,101,101,112,101,114,108,97,119,49,51,46,82,111,111,109,70,105,116,115,32,100,111,111,114,107,101,101,112,101,114,47,100,111,111,114,107,101,101,112,101,114,108,97,119,49,50,46,84,114,101,101,65,108,108,32,100,111,111,114,107,101,101,112,101,114,47,100,111,111,114,107,101,101,112,101,114,108,97,119,49,50,46,84,114,101,101,77,97,100,101,32,100,111,111,114,107,101,101,112,101,114,47,100,111,111,114,107,101,101,112,101,114,108,97,119,49,50,46,84,114,101,101,83,117,109,115,32,100,111,111,114,107,101,101,112,101,114,47,100,111,111,114,107,101,101,112,101,114,108,97,119,49,50,46,84,114,101,101,66,101,108,111,119,32,100,111,111,114,107,101,101,112,101,114,47,100,111,111,114,107,101,101,112,101,114,108,97,119,49,51,46,82,111,111,109,83,104,97,114,101,115,32,100,111,111,114,107,101,101,112,101,114,47,100,111,111,114,107,101,101,112,101,114,108,97,119,49,52,46,65,100,109,105,116,65,108,108,32,100,111,111,114,107,101,101,112,101,114,47,100,111,111,114,107,101,101,112,101,114,108,97,119,49,52,46,65,100,109,105,116,77,97,100,101,32,100,111,111,114,107,101,101,112,101,114,47,100,111,111,114,107,101,101,112,101,114,108,97,119,49,52,46,65,100,109,105,116,82,111,111,109,32,100,111,111,114,107,101,101,112,101,114,47,100,111,111,114,107,101,101,112,101,114,108,97,119,49,51,46,82,111,111,109,65,108,108,32,100,111,111,114,107,101,101,112,101,114,47,100,111,111,114,107,101,101,112,101,114,108,97,119,49,51,46,82,111,111,109,77,97,100,101,32,100,111,111,114,107,101,101,112,101,114,47,100,111,111,114,107,101,101,112,101,114,108,97,119,49,53,46,83,104,97,112,101,77,97,110,121,32,100,111,111,114,107,101,101,112,101,114,47,100,111,111,114,107,101,101,112,101,114,108,97,119,49,53,46,83,104,97,112,101,67,111,109,101,115,32,100,111,111,114,107,101,101,112,101,114,47,100,111,111,114,107,101,101,112,101,114,108,97,119,49,53,46,83,104,97,112,101,76,105,109,105,116,115,32,100,111,111,114,107,101,101,112,101,114,47,100,111,111,114,107,101,101,112,101,114,108,97,119,49,53,46,83,104,97,112,101,77,111,118,101,115,32,100,111,111,114,107,101,101,112,101,114,47,100,111,111,114,107,101,101,112,101,114,108,97,119,49,53,46,83,104,97,112,101,65,108,108,32,100,111,111,114,107,101,101,112,101,114,47,100,111,111,114,107,101,101,112,101,114,108,97,119,49,53,46,83,104,97,112,101,77,97,100,101,32,100,111,111,114,107,101,101,112,101,114,47,100,111,111,114,107,101,101,112,101,114,108,97,119,49,53,46,83,104,97,112,101,82,101,115,116,32,100,111,111,114,107,101,101,112,101,114,47,100,111,111,114,107,101,101,112,101,114,108,97,119,49,57,46,84,114,105,97,108,67,117,116,115,32,100,111,111,114,107,101,101,112,101,114,47,100,111,111,114,107,101,101,112,101,114,108,97,119,49,57,46,84,114,105,97,108,65,108,108,32,100,111,111,114,107,101,101,112,101,114,47,100,111,111,114,107,101,101,112,101,114,108,97,119,49,57,46,84,114,105,97,108,77,97,100,101])
set_option maxRecDepth 100000 in
theorem word:Try.prog.initOrder=String.ofList signs:=by kernel_rfl
theorem list:Try.prog.initOrder.toList=signs:=by rw [word,String.toList_ofList]
theorem words_app: ∀(w r:List Char),(∀c∈w,c≠Char.ofNat 32)→wordsSigns (w++Char.ofNat 32::r)=w::wordsSigns r
  |[],r,_=>rfl
  | c :: w, r, h => by
    have hc:c≠Char.ofNat 32:=h c (by simp)
    have ih:=words_app w r (fun d hd=>h d (by simp [hd]))
    show wordsSigns (c::(w++Char.ofNat 32::r))=_
    rw [wordsSigns.eq_3 _ _ (fun q=>hc q),ih]
def w1:List Char:=[Char.ofNat 104,Char.ofNat 97,Char.ofNat 114,Char.ofNat 110,Char.ofNat 101,Char.ofNat 115,Char.ofNat 115]
def w2:List Char:=(List.map Char.ofNat [101,57,98,52,101,102,52,49,56,50,56,101,102,50,55,102,51,55,102,48,53,54,50,55,56,50,54,101,101,100,101,57,53,99,56,98,55,57,99,100,98,99,52,99,49,100,54,49,98,101,98,55,57,55,52,102,49,51,53,99,97,49,48,51])
def w3:List Char:=[Char.ofNat 99,Char.ofNat 117,Char.ofNat 116]
def rest:List Char:=(List.map Char.ofNat [97,116,32,100,111,111,114,107,101,101,112,101,114,47,100,111,111,114,107,101,101,112,101,114,108,97,119,49,51,46,82,111,111,109,85,112,32,100,111,111,114,107,101,101,112,101,114,47,100,111,111,114,107,101,101,112,101,114,108,97,119,49,55,46,68,114,105,102,116,65,108,108,32,100,111,111,114,107,101,101,112,101,114,47,100,111,111,114,107,101,101,112,101,114,108,97,119,49,55,46,68,114,105,102,116,84,101,108,108,115,32,100,111,111,114,107,101,101,112,101,114,47,100,111,111,114,107,101,101,112,101,114,108,97,119,50,48,46,69,102,102,101,99,116,65,108,108,32,100,111,111,114,107,101,101,112,101,114,47,100,111,111,114,107,101,101,112,101,114,108,97,119,50,48,46,69,102,102,101,99,116,77,97,100,101,32,100,111,111,114,107,101,101,112,101,114,47,100,111,111,114,107,101,101,112,101,114,108,97,119,50,48,46,69,102,102,101,99,116,68,111,110,101,32,100,111,111,114,107,101,101,112,101,114,47,100,111,111,114,107,101,101,112,101,114,108,97,119,49,52,46,65,100,109,105,116,84,119,105,99,101,32,100,111,111,114,107,101,101,112,101,114,47,100,111,111,114,107,101,101,112,101,114,108,97,119,49,51,46,82,111,111,109,70,105,116,115,32,100,111,111,114,107,101,101,112,101,114,47,100,111,111,114,107,101,101,112,101,114,108,97,119,49,50,46,84,114,101,101,65,108,108,32,100,111,111,114,107,101,101,112,101,114,47,100,111,111,114,107,101,101,112,101,114,108,97,119,49,50,46,84,114,101,101,77,97,100,101,32,100,111,111,114,107,101,101,112,101,114,47,100,111,111,114,107,101,101,112,101,114,108,97,119,49,50,46,84,114,101,101,83,117,109,115,32,100,111,111,114,107,101,101,112,101,114,47,100,111,111,114,107,101,101,112,101,114,108,97,119,49,50,46,84,114,101,101,66,101,108,111,119,32,100,111,111,114,107,101,101,112,101,114,47,100,111,111,114,107,101,101,112,101,114,108,97,119,49,51,46,82,111,111,109,83,104,97,114,101,115,32,100,111,111,114,107,101,101,112,101,114,47,100,111,111,114,107,101,101,112,101,114,108,97,119,49,52,46,65,100,109,105,116,65,108,108,32,100,111,111,114,107,101,101,112,101,114,47,100,111,111,114,107,101,101,112,101,114,108,97,119,49,52,46,65,100,109,105,116,77,97,100,101,32,100,111,111,114,107,101,101,112,101,114,47,100,111,111,114,107,101,101,112,101,114,108,97,119,49,52,46,65,100,109,105,116,82,111,111,109,32,100,111,111,114,107,101,101,112,101,114,47,100,111,111,114,107,101,101,112,101,114,108,97,119,49,51,46,82,111,111,109,65,108,108,32,100,111,111,114,107,101,101,112,101,114,47,100,111,111,114,107,101,101,112,101,114,108,97,119,49,51,46,82,111,111,109,77,97,100,101,32,100,111,111,114,107,101,101,112,101,114,47,100,111,111,114,107,101,101,112,101,114,108,97,119,49,53,46,83,104,97,112,101,77,97,110,121,32,100,111,111,114,107,101,101,112,101,114,47,100,111,111,114,107,101,101,112,101,114,108,97,119,49,53,46,83,104,97,112,101,67,111,109,101,115,32,100,111,111,114,107,101,101,112,101,114,47,100,111,111,114,107,101,101,112,101,114,108,97,119,49,53,46,83,104,97,112,101,76,105,109,105,116,115,32,100,111,111,114,107,101,101,112,101,114,47,100,111,111,114,107,101,101,112,101,114,108,97,119,49,53,46,83,104,97,112,101,77,111,118,101,115,32,100,111,111,114,107,101,101,112,101,114,47,100,111,111,114,107,101,101,112,101,114,108,97,119,49,53,46,83,104,97,112,101,65,108,108,32,100,111,111,114,107,101,101,112,101,114,47,100,111,111,114,107,101,101,112,101,114,108,97,119,49,53,46,83,104,97,112,101,77,97,100,101,32,100,111,111,114,107,101,101,112,101,114,47,100,111,111,114,107,101,101,112,101,114,108,97,119,49,53,46,83,104,97,112,101,82,101,115,116,32,100,111,111,114,107,101,101,112,101,114,47,100,111,111,114,107,101,101,112,101,114,108,97,119,49,57,46,84,114,105,97,108,67,117,116,115,32,100,111,111,114,107,101,101,112,101,114,47,100,111,111,114,107,101,101,112,101,114,108,97,119,49,57,46,84,114,105,97,108,65,108,108,32,100,111,111,114,107,101,101,112,101,114,47,100,111,111,114,107,101,101,112,101,114,108,97,119,49,57,46,84,114,105,97,108,77,97,100,101])
theorem parts:signs=w1++Char.ofNat 32::(w2++Char.ofNat 32::(w3++Char.ofNat 32::rest)):=by kernel_rfl
theorem behind: ∃r,behindMainWord (wordsSigns Try.prog.initOrder.toList)=w3::r:=by
 refine ⟨wordsSigns rest, ?_⟩
 rw [list,parts,words_app w1 _ (by decide),words_app w2 _ (by decide),words_app w3 _ (by decide)]
 generalize wordsSigns rest=r
 rfl
theorem strip (r:List (List Char)):stripLifts liftWords (w3::r)=([],w3::r):=by kernel_rfl
theorem not_carried (r:List (List Char)):((w3::r).head?==some "carried".toList)=false:=by kernel_rfl
theorem is_cut (r:List (List Char)):((w3::r).head?==some "cut".toList)=true:=by kernel_rfl
theorem not_gc:(w3== "gc".toList||w3== "spec".toList)=false:=by kernel_rfl
theorem cut_:(w3== "cut".toList)=true:=by kernel_rfl
theorem lifts_of {P:Program} {r:List (List Char)} (h:behindMainWord (wordsSigns P.initOrder.toList)=w3::r):P.liftsFinal=false:=by
 unfold Program.liftsFinal Program.headLifts
 simp only [h,strip,not_carried,is_cut,if_true,Bool.false_and,Bool.false_or,List.contains_nil]
theorem make_of {P:Program} {r:List (List Char)} (h:behindMainWord (wordsSigns P.initOrder.toList)=w3::r):P.make=some .cut:=by
 unfold Program.make
 simp only [h,not_gc,cut_,Bool.true_or,if_true,Bool.false_eq_true,if_false]
theorem lifts:Try.prog.liftsFinal=false:=by obtain ⟨r,h⟩:=behind;exact lifts_of h
theorem make:Try.prog.make=some .cut:=by obtain ⟨r,h⟩:=behind;exact make_of h
theorem later:Try.prog.laysLater=false:=by kernel_rfl
theorem reflects:Try.prog.bearsReflect=false:=by kernel_rfl
theorem door:Try.prog.doorFits []=true:=by kernel_rfl
theorem may_of {P:Program} {r:List (List Char)} (h:behindMainWord (wordsSigns P.initOrder.toList)=w3::r) (h1:P.laysLater=false) (h2:P.bearsReflect=false) (h3:P.doorFits []=true):P.mayEnter=true:=by
 unfold Program.mayEnter
 simp only [h,strip,is_cut,h1,h2,h3,List.contains_nil,Bool.not_false,Bool.or_true,Bool.and_true,Bool.and_self]
theorem mayEnter:Try.prog.mayEnter=true:=by obtain ⟨r,h⟩:=behind;exact may_of h later reflects door
theorem stopsHeard:Try.prog.stopsHeard=true:=by kernel_rfl
theorem laidOut:laidOutB Try.prog=true:=by kernel_rfl
theorem mapsRowed:mapsRowed Try.prog=true:=by kernel_rfl
theorem stops:(Try.prog.stops==[])=true:=by kernel_rfl
theorem stopKnobs:(Try.prog.stopKnobs==[])=true:=by kernel_rfl
end Go.Proofs.Ytcgefpklljclgaa.Head

-- PRINTED WORDS (module Derived/Print/Sized.lean): go-gate-2's, for the rows of laws over slices: an AI agent of Go's test side, Tue Nov 17 2026; no person has read it. Lean checks it.
namespace Go.Proofs.YtcgefpklljclgaaW.PrintWords
open Go.ChangeShapes Go.WideShapes
theorem sized_ints {H:Type} {enc:TypeId×Value→H} {P:Program} {W:World} {base:Nat} {spare:Nat→Bool} {held:Bool} {t e:TypeId} {k:IntKind} {a:Option Addr} {len cap:Nat} {d:DataW H} {ps:List MemPlace} {ts:List TypeId} {ds:List (DataW H)} {j:Nat}
    (hsz:(DataW.weightsEach P ts ds).all (· ≤reachBytes)=true) (ht:ts[j]?=some t) (hd:ds[j]?=some d) (hu:P.underlying t=some (.slice e)) (he:P.underlying e=some (.int k)) (hc:P.cellsOf e=1) {B:Nat} (hB:P.bytesOf e=B)
    (h:DataW.Trod enc P W base spare held t (.slice a len cap) d ps):len*B≤140737488351232:=by
  obtain ⟨fuel,hf⟩:=h
  rcases open_ints hu he hc hf with ⟨hcs,_⟩|⟨x,l,c,zs,hcs,_,hl,_,hz,hx,_,_⟩
  · simp [Value.cells] at hcs
    obtain ⟨rfl,rfl,rfl⟩:=hcs
    simp
  · simp [Value.cells] at hcs
    obtain ⟨rfl,rfl,rfl⟩:=hcs
    obtain ⟨hx,_⟩:=Prod.mk.inj hx
    subst hx
    have z:=sized_slice hsz ht hd hu
    rw [hB] at z
    have hl2:len≤zs.length:=by
      rw [hz]
      split
      · exact hl
      · exact Nat.le_refl _
    have h1:(lits (H:=H) k (zs.take len)).length+(lits (H:=H) k (zs.drop len)).length=zs.length:=by
      simp [lits]
      omega
    rw [h1] at z
    exact Nat.le_trans (Nat.mul_le_mul_right _ hl2) z
end Go.Proofs.YtcgefpklljclgaaW.PrintWords

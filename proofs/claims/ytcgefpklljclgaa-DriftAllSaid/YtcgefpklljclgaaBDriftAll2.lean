/- A part of the proof of DriftAll: the machine's side by the kit's print, contracts and lemmas by this session. -/
import Derived.Laws.Strings
import Derived.Deep.Slices
import Derived.Deep.Fields
import Derived.ChangeSame
import Derived.Shelf.Abstract
import Derived.StillTailTactics
import Derived.Test.YtcgefpklljclgaaBDriftAll0
import Derived.Test.YtcgefpklljclgaaBDriftAll1
namespace Go.Proofs.Ytcgefpklljclgaa.Print
open Go.RowKit Go.Proofs.YtcgefpklljclgaaW.PrintWords Go.Proofs.YtcgefpklljclgaaW.PrintLast Go.Proofs.YtcgefpklljclgaaW.PrintMore
attribute [local go_sem] max2_int min2_int max_two min_two max_three min_three max_four min_four
set_option linter.unusedVariables false
set_option linter.unusedSimpArgs false

attribute [local go_sem high] eqA27
def r16_Drifts.l0:Nat→List (S54)→List (S31)→List (S37)→Int→Option ((List (S37)))
 |0,_,_,_,_=>none
 |k+1,x0,x1,x5,x6=>if x6<(x0.length:Int) then (if 0≤x6 then ((r10_Find.f k x1 ((rd_T54 x0 x6).f0)).bind fun t2=>(if t2<0 then (if x5.length<5864062014805 then (r16_Drifts.l0 k x0 x1 (x5++ [(⟨(rd_T54 x0 x6).f0,1⟩:S37)]) (wrap64 (x6+1))) else (none)) else (if 0≤t2 then (if t2<(x1.length:Int) then (if ((rd_T31 x1 t2).f1).toList=((rd_T54 x0 x6).f1).toList then (if (!(((rd_T31 x1 t2).f2.f0)==((rd_T54 x0 x6).f2.f0))||(!(((rd_T31 x1 t2).f2.f1)==((rd_T54 x0 x6).f2.f1))||(!(((rd_T31 x1 t2).f2.f2)==((rd_T54 x0 x6).f2.f2)))))=true then (if x5.length<5864062014805 then (r16_Drifts.l0 k x0 x1 (x5++ [(⟨(rd_T54 x0 x6).f0,3⟩:S37)]) (wrap64 (x6+1))) else (none)) else (r16_Drifts.l0 k x0 x1 x5 (wrap64 (x6+1)))) else (if x5.length<5864062014805 then ((some (x5++ [(⟨(rd_T54 x0 x6).f0,2⟩:S37)]:List (S37))).bind fun y16=>(if (!(((rd_T31 x1 t2).f2.f0)==((rd_T54 x0 x6).f2.f0))||(!(((rd_T31 x1 t2).f2.f1)==((rd_T54 x0 x6).f2.f1))||(!(((rd_T31 x1 t2).f2.f2)==((rd_T54 x0 x6).f2.f2)))))=true then (if y16.length<5864062014805 then (r16_Drifts.l0 k x0 x1 (y16++ [(⟨(rd_T54 x0 x6).f0,3⟩:S37)]) (wrap64 (x6+1))) else (none)) else (r16_Drifts.l0 k x0 x1 y16 (wrap64 (x6+1))))) else (none))) else (none)) else (none)))) else (none)) else (some x5)
def r16_Drifts.f (k:Nat) (l0:List (S54)) (l1:List (S31)):Option ((List (S37))):=r16_Drifts.l0 k l0 l1 ([]:List (S37)) 0
theorem r16_Drifts.mono_l: ∀k,(∀y0 y1 y2 y3,LeO (r16_Drifts.l0 k y0 y1 y2 y3) (r16_Drifts.l0 (k+1) y0 y1 y2 y3))
 |0=>fun _ _ _ _ r h=>by simp [r16_Drifts.l0] at h
 |k+1=>by
  have ih0:=r16_Drifts.mono_l k
  intro y0 y1 y2 y3
  unfold r16_Drifts.l0
  repeat' first
  |(with_reducible exact ih0 _ _ _ _)
  |(with_reducible exact r10_Find.mono _ _ _)
  |(with_reducible exact LeO.refl _)
  |(with_reducible exact LeO.none _)
  |(with_reducible refine LeO.ite ?_ ?_)
  |(with_reducible refine LeO.bind ?_ (fun _=> ?_))
  |exact ih0 _ _ _ _
  |exact r10_Find.mono _ _ _
  |exact LeO.none _
  |refine LeO.ite ?_ ?_
  |refine LeO.bind ?_ (fun _=> ?_)
theorem r16_Drifts.mono: ∀a0 a1 k,LeO (r16_Drifts.f k a0 a1) (r16_Drifts.f (k+1) a0 a1):=by
 intro a0 a1 k
 have ih0:=r16_Drifts.mono_l k
 unfold r16_Drifts.f
 repeat' first
  |(with_reducible exact ih0 _ _ _ _)
  |(with_reducible exact r10_Find.mono _ _ _)
  |(with_reducible exact LeO.refl _)
  |(with_reducible exact LeO.none _)
  |(with_reducible refine LeO.ite ?_ ?_)
  |(with_reducible refine LeO.bind ?_ (fun _=> ?_))
  |exact ih0 _ _ _ _
  |exact r10_Find.mono _ _ _
  |exact LeO.none _
  |refine LeO.ite ?_ ?_
  |refine LeO.bind ?_ (fun _=> ?_)
set_option maxHeartbeats 8000000 in
set_option maxRecDepth 100000 in
theorem r16_Drifts.calls (k:Nat) (A0:Option Addr) (c0:Nat) (l0:List (S54)) (A1:Option Addr) (c1:Nat) (l1:List (S31)) (r:List (S37)) (w:World) (hr0:Kd.C k54 w A0 l0.length l0) (hc0:l0.length≤c0) (hr1:Kd.C k31 w A1 l1.length l1) (hc1:l1.length≤c1) (h:r16_Drifts.f k l0 l1=some r):
  Calls Try.prog 44 #[.slice A0 l0.length c0, .slice A1 l1.length c1] w fun e w'=> ∃v0_:Value,e= .returned (v0_)∧Kd.R k37 37 w' w.heap.size (fun _=>True) v0_ r∧Below w.heap.size w w':=by
 have hu37:=Try.underlying37
 have hu27:=Try.underlying27
 have HR0:=Aside0.mk hr0
 have HC0:=Aside0.mk hc0
 clear hr0 hc0
 have HR1:=Aside0.mk hr1
 have HC1:=Aside0.mk hc1
 clear hr1 hc1
 have HB:=am_ (Below.refl w.heap.size w)
 have H:(r16_Drifts.l0 k l0 l1 ([]:List (S37)) 0)=some r:=h
 clear h
 have H':=Aside0.mk H
 clear H
 go_enter Try.func44,Try.ntmps44
 go_wp2
 repeat (go_quiet (fail);try go_wp2)
 go_loopg [5,6] k (fun kq v5 v6 w'=> ∃(x5_1:List (S37)) (x6_1:Int),v6= .int .i64 x6_1∧Aside0 (r16_Drifts.l0 kq l0 l1 x5_1 x6_1=some r)∧Aside0 (kq≤k)∧Aside0 (Kd.R k37 37 w' w.heap.size (fun _=>True) v5 x5_1)∧Aside0 (Below w.heap.size w w'))
 case atStart=>exact ⟨(([]:List (S37))),(0),(by first|rfl|(simp;done)|(simp [*];done)),H',⟨Nat.le_refl _⟩,⟨by first|exact Kd.R_nil _ _ _ _ _|exact Kd.N_nil _ _ _ _ _|exact Kd.V_nil _ _ _ _ _|exact Kd.Q_nil _ _ _ _ _|exact Kd.S_nil _ _ _ _ _⟩,⟨zl0_ HB⟩⟩
 case round=>
  clear H'
  try clear c1
  try clear p2
  obtain ⟨x5_1,x6_1,rfl,HA,HK1,HO_5,HB⟩:=hrel
  cases gk with
  |zero=>exact absurd HA.out (by simp [r16_Drifts.l0])
  |succ k1=>
   have H:=HA.out
   clear HA
   simp only [r16_Drifts.l0] at H
   by_cases c3:x6_1<(l0.length:Int)
   ·rw [if_pos c3] at H
    have c3b0:decide (x6_1<(l0.length:Int))=true:=decide_eq_true c3
    clear c3
    by_cases c4:0≤x6_1
    ·rw [if_pos c4] at H
     have c4b0:decide (0≤x6_1)=true:=decide_eq_true c4
     clear c4
     replace H:=Option.bind_eq_some_iff.mp H
     obtain ⟨t2,A50,H⟩:=H
     replace H:(if t2<0 then (if x5_1.length<5864062014805 then (r16_Drifts.l0 k1 l0 l1 (x5_1++ [(⟨(rd_T54 l0 x6_1).f0,1⟩:S37)]) (wrap64 (x6_1+1))) else (none)) else (if 0≤t2 then (if t2<(l1.length:Int) then (if ((rd_T31 l1 t2).f1).toList=((rd_T54 l0 x6_1).f1).toList then (if (!(((rd_T31 l1 t2).f2.f0)==((rd_T54 l0 x6_1).f2.f0))||(!(((rd_T31 l1 t2).f2.f1)==((rd_T54 l0 x6_1).f2.f1))||(!(((rd_T31 l1 t2).f2.f2)==((rd_T54 l0 x6_1).f2.f2)))))=true then (if x5_1.length<5864062014805 then (r16_Drifts.l0 k1 l0 l1 (x5_1++ [(⟨(rd_T54 l0 x6_1).f0,3⟩:S37)]) (wrap64 (x6_1+1))) else (none)) else (r16_Drifts.l0 k1 l0 l1 x5_1 (wrap64 (x6_1+1)))) else (if x5_1.length<5864062014805 then ((some (x5_1++ [(⟨(rd_T54 l0 x6_1).f0,2⟩:S37)]:List (S37))).bind fun y16=>(if (!(((rd_T31 l1 t2).f2.f0)==((rd_T54 l0 x6_1).f2.f0))||(!(((rd_T31 l1 t2).f2.f1)==((rd_T54 l0 x6_1).f2.f1))||(!(((rd_T31 l1 t2).f2.f2)==((rd_T54 l0 x6_1).f2.f2)))))=true then (if y16.length<5864062014805 then (r16_Drifts.l0 k1 l0 l1 (y16++ [(⟨(rd_T54 l0 x6_1).f0,3⟩:S37)]) (wrap64 (x6_1+1))) else (none)) else (r16_Drifts.l0 k1 l0 l1 y16 (wrap64 (x6_1+1))))) else (none))) else (none)) else (none)))=some r:=H
     have A5:=Aside0.mk A50
     clear A50
     by_cases c6:t2<0
     ·rw [if_pos c6] at H
      have c6b0:decide (t2<0)=true:=decide_eq_true c6
      clear c6
      by_cases c7:x5_1.length<5864062014805
      ·rw [if_pos c7] at H
       have LMc7:=Aside0.mk c7
       clear c7
       obtain ⟨y4,hy4⟩: ∃y_:List (S37),y_=(x5_1++ [(⟨(rd_T54 l0 x6_1).f0,1⟩:S37)]):=⟨_,rfl⟩
       replace H:(r16_Drifts.l0 k1 l0 l1 y4 (wrap64 (x6_1+1)))=some r:=by first|(rw [hy4];with_reducible exact H)|(have H2_:=(Option.bind_some _ _).symm.trans H;rw [hy4];with_reducible exact H2_)|(have H2_:=(Option.bind_some _ _).symm.trans H;with_reducible exact H2_)|with_reducible exact H|(rw [hy4];exact H)|exact H
       have Ny4:=Aside0.mk hy4
       clear hy4
       have H':=Aside0.mk H
       clear H
       have p1:0≤(x6_1:Int):=of_decide_eq_true zq_
       have q1:x6_1<(l0.length:Int):=of_decide_eq_true zq_
       obtain ⟨ad1,e1,hx1_0,hx1_1,hx1_2,hx1_3,hx1_4,hx1_5⟩:=at_T54 HR0.out x6_1 p1 q1
       cases e1
       replace hx1_0:=zx_ HB hx1_0
       replace hx1_1:=zx_ HB hx1_1
       replace hx1_2:=zx_ HB hx1_2
       replace hx1_3:=zx_ HB hx1_3
       replace hx1_4:=zx_ HB hx1_4
       replace hx1_5:=zx_ HB hx1_5
       replace p1:=eq_true p1
       replace q1:=eq_true q1
       go_wp2_with (first|(go_at_call 50;(with_reducible refine (r10_Find.calls k1 _ _ l1 ((rd_T54 l0 x6_1).f0) t2 _ ?side1 ?side2 A5.out).mono ?_);(case side1=>exact zc_ (Kd.C_below HR1.out HB.out));(case side2=>exact HC1.out);rintro e w' ⟨rfl,⟨nd,rfl⟩⟩;(try first|exact ⟨rfl,_,World.drewN_drewN _ _ _⟩|exact ⟨rfl,_,Eq.trans (World.drewN_drewN _ _ _) (congrArg (World.drewN _) (Nat.add_assoc _ _ _))⟩);have p3:0≤(x6_1:Int):=of_decide_eq_true zq_;have q3:x6_1<(l0.length:Int):=of_decide_eq_true zq_;obtain ⟨ad3,e3,hx3_0,hx3_1,hx3_2,hx3_3,hx3_4,hx3_5⟩:=at_T54 HR0.out x6_1 p3 q3;obtain rfl:ad1=ad3:=(by injection e3);replace hx3_0:=zx_ HB hx3_0;replace hx3_1:=zx_ HB hx3_1;replace hx3_2:=zx_ HB hx3_2;replace hx3_3:=zx_ HB hx3_3;replace hx3_4:=zx_ HB hx3_4;replace hx3_5:=zx_ HB hx3_5;replace p3:=eq_true p3;replace q3:=eq_true q3)|((with_reducible refine gate_builtin (b:= .append) (xs:=#[.tmp 23, .tmp 30]) rfl ?_);at_builtin;refine Kd.R_append k37 (w0:=w) w.heap.size rfl (.tmp 23) (.tmp 30) 45 37 (.agg #[(.string ⟨#[]⟩),(.int .i64 0)]) 24 rfl Try.underlying45 info37 rfl (by decide) (by omega) u5 x5_1 (⟨(rd_T54 l0 x6_1).f0,1⟩:S37) [.string ((rd_T54 l0 x6_1).f0), .int .i64 1] (fun _=>True) (fun _=>False) rfl rfl ?aP (fun _ hk=>hk.elim) ?aF ?aO ?aB ?aS ?aL ?_;(case aP=>exact k37_mkM _ _ _ (⟨(rd_T54 l0 x6_1).f0,1⟩:S37));(case aB=>exact (zl0_ HB));(case aF=>exact (fun _ _=>trivial));(case aO=>exact (zr_ HO_5));(case aS=>exact (below_size (zl0_ HB)));(case aL=>have:=LMc7.out;omega);intro v5 w8 ho hb hg hat;rw [←Ny4.out] at ho;have n0_:=am_ (hb);have n1_:=am_ (ho);clear HB;clear HO_5;have HB:=n0_;have HO6:=n1_;clear n0_ n1_;clear ho hb hg hat))
       repeat (go_quiet (first|(go_at_call 50;(with_reducible refine (r10_Find.calls k1 _ _ l1 ((rd_T54 l0 x6_1).f0) t2 _ ?side1 ?side2 A5.out).mono ?_);(case side1=>exact zc_ (Kd.C_below HR1.out HB.out));(case side2=>exact HC1.out);rintro e w' ⟨rfl,⟨nd,rfl⟩⟩;(try first|exact ⟨rfl,_,World.drewN_drewN _ _ _⟩|exact ⟨rfl,_,Eq.trans (World.drewN_drewN _ _ _) (congrArg (World.drewN _) (Nat.add_assoc _ _ _))⟩);have p3:0≤(x6_1:Int):=of_decide_eq_true zq_;have q3:x6_1<(l0.length:Int):=of_decide_eq_true zq_;obtain ⟨ad3,e3,hx3_0,hx3_1,hx3_2,hx3_3,hx3_4,hx3_5⟩:=at_T54 HR0.out x6_1 p3 q3;obtain rfl:ad1=ad3:=(by injection e3);replace hx3_0:=zx_ HB hx3_0;replace hx3_1:=zx_ HB hx3_1;replace hx3_2:=zx_ HB hx3_2;replace hx3_3:=zx_ HB hx3_3;replace hx3_4:=zx_ HB hx3_4;replace hx3_5:=zx_ HB hx3_5;replace p3:=eq_true p3;replace q3:=eq_true q3)|((with_reducible refine gate_builtin (b:= .append) (xs:=#[.tmp 23, .tmp 30]) rfl ?_);at_builtin;refine Kd.R_append k37 (w0:=w) w.heap.size rfl (.tmp 23) (.tmp 30) 45 37 (.agg #[(.string ⟨#[]⟩),(.int .i64 0)]) 24 rfl Try.underlying45 info37 rfl (by decide) (by omega) u5 x5_1 (⟨(rd_T54 l0 x6_1).f0,1⟩:S37) [.string ((rd_T54 l0 x6_1).f0), .int .i64 1] (fun _=>True) (fun _=>False) rfl rfl ?aP (fun _ hk=>hk.elim) ?aF ?aO ?aB ?aS ?aL ?_;(case aP=>exact k37_mkM _ _ _ (⟨(rd_T54 l0 x6_1).f0,1⟩:S37));(case aB=>exact (zl0_ HB));(case aF=>exact (fun _ _=>trivial));(case aO=>exact (zr_ HO_5));(case aS=>exact (below_size (zl0_ HB)));(case aL=>have:=LMc7.out;omega);intro v5 w8 ho hb hg hat;rw [←Ny4.out] at ho;have n0_:=am_ (hb);have n1_:=am_ (ho);clear HB;clear HO_5;have HB:=n0_;have HO6:=n1_;clear n0_ n1_;clear ho hb hg hat));try go_wp2_with (first|(go_at_call 50;(with_reducible refine (r10_Find.calls k1 _ _ l1 ((rd_T54 l0 x6_1).f0) t2 _ ?side1 ?side2 A5.out).mono ?_);(case side1=>exact zc_ (Kd.C_below HR1.out HB.out));(case side2=>exact HC1.out);rintro e w' ⟨rfl,⟨nd,rfl⟩⟩;(try first|exact ⟨rfl,_,World.drewN_drewN _ _ _⟩|exact ⟨rfl,_,Eq.trans (World.drewN_drewN _ _ _) (congrArg (World.drewN _) (Nat.add_assoc _ _ _))⟩);have p3:0≤(x6_1:Int):=of_decide_eq_true zq_;have q3:x6_1<(l0.length:Int):=of_decide_eq_true zq_;obtain ⟨ad3,e3,hx3_0,hx3_1,hx3_2,hx3_3,hx3_4,hx3_5⟩:=at_T54 HR0.out x6_1 p3 q3;obtain rfl:ad1=ad3:=(by injection e3);replace hx3_0:=zx_ HB hx3_0;replace hx3_1:=zx_ HB hx3_1;replace hx3_2:=zx_ HB hx3_2;replace hx3_3:=zx_ HB hx3_3;replace hx3_4:=zx_ HB hx3_4;replace hx3_5:=zx_ HB hx3_5;replace p3:=eq_true p3;replace q3:=eq_true q3)|((with_reducible refine gate_builtin (b:= .append) (xs:=#[.tmp 23, .tmp 30]) rfl ?_);at_builtin;refine Kd.R_append k37 (w0:=w) w.heap.size rfl (.tmp 23) (.tmp 30) 45 37 (.agg #[(.string ⟨#[]⟩),(.int .i64 0)]) 24 rfl Try.underlying45 info37 rfl (by decide) (by omega) u5 x5_1 (⟨(rd_T54 l0 x6_1).f0,1⟩:S37) [.string ((rd_T54 l0 x6_1).f0), .int .i64 1] (fun _=>True) (fun _=>False) rfl rfl ?aP (fun _ hk=>hk.elim) ?aF ?aO ?aB ?aS ?aL ?_;(case aP=>exact k37_mkM _ _ _ (⟨(rd_T54 l0 x6_1).f0,1⟩:S37));(case aB=>exact (zl0_ HB));(case aF=>exact (fun _ _=>trivial));(case aO=>exact (zr_ HO_5));(case aS=>exact (below_size (zl0_ HB)));(case aL=>have:=LMc7.out;omega);intro v5 w8 ho hb hg hat;rw [←Ny4.out] at ho;have n0_:=am_ (hb);have n1_:=am_ (ho);clear HB;clear HO_5;have HB:=n0_;have HO6:=n1_;clear n0_ n1_;clear ho hb hg hat)))
       go_roundg k1
       case measure=>have:=HK1.out;omega
       case rel=>exact ⟨(y4),(wrap64 (x6_1+1)),(by first|rfl|(simp;done)|(simp [*];done)),H',⟨by have:=HK1.out;omega⟩,⟨by (with_reducible repeat (first|apply Kd.R_alloc|apply Kd.R_drewN|apply Kd.R_drew));exact HO6.out⟩,⟨zl0_ HB⟩⟩
      rw [if_neg c7] at H
      exact absurd H (by simp)
     rw [if_neg c6] at H
     have c6b0:decide (t2<0)=false:=decide_eq_false c6
     clear c6
     by_cases c9:0≤t2
     ·rw [if_pos c9] at H
      have c9b0:decide (0≤t2)=true:=decide_eq_true c9
      clear c9
      by_cases c10:t2<(l1.length:Int)
      ·rw [if_pos c10] at H
       have c10b0:decide (t2<(l1.length:Int))=true:=decide_eq_true c10
       clear c10
       by_cases c11:((rd_T31 l1 t2).f1).toList=((rd_T54 l0 x6_1).f1).toList
       ·rw [if_pos c11] at H
        have c11b0:(((rd_T31 l1 t2).f1).toList==((rd_T54 l0 x6_1).f1).toList)=true:=beq_iff_eq.mpr c11
        have c11b1:(((rd_T31 l1 t2).f1).toList !=((rd_T54 l0 x6_1).f1).toList)=false:=bne_eq_false_iff_eq.mpr c11
        clear c11
        by_cases c12:(!(((rd_T31 l1 t2).f2.f0)==((rd_T54 l0 x6_1).f2.f0))||(!(((rd_T31 l1 t2).f2.f1)==((rd_T54 l0 x6_1).f2.f1))||(!(((rd_T31 l1 t2).f2.f2)==((rd_T54 l0 x6_1).f2.f2)))))=true
        ·rw [if_pos c12] at H
         have c12b0:(!(((rd_T31 l1 t2).f2.f0)==((rd_T54 l0 x6_1).f2.f0))||(!(((rd_T31 l1 t2).f2.f1)==((rd_T54 l0 x6_1).f2.f1))||(!(((rd_T31 l1 t2).f2.f2)==((rd_T54 l0 x6_1).f2.f2)))))=true:=c12
         clear c12
         by_cases c13:x5_1.length<5864062014805
         ·rw [if_pos c13] at H
          have LMc13:=Aside0.mk c13
          clear c13
          obtain ⟨y12,hy12⟩: ∃y_:List (S37),y_=(x5_1++ [(⟨(rd_T54 l0 x6_1).f0,3⟩:S37)]):=⟨_,rfl⟩
          replace H:(r16_Drifts.l0 k1 l0 l1 y12 (wrap64 (x6_1+1)))=some r:=by first|(rw [hy12];with_reducible exact H)|(have H2_:=(Option.bind_some _ _).symm.trans H;rw [hy12];with_reducible exact H2_)|(have H2_:=(Option.bind_some _ _).symm.trans H;with_reducible exact H2_)|with_reducible exact H|(rw [hy12];exact H)|exact H
          have Ny12:=Aside0.mk hy12
          clear hy12
          have H':=Aside0.mk H
          clear H
          have p1:0≤(x6_1:Int):=of_decide_eq_true zq_
          have q1:x6_1<(l0.length:Int):=of_decide_eq_true zq_
          obtain ⟨ad1,e1,hx1_0,hx1_1,hx1_2,hx1_3,hx1_4,hx1_5⟩:=at_T54 HR0.out x6_1 p1 q1
          cases e1
          replace hx1_0:=zx_ HB hx1_0
          replace hx1_1:=zx_ HB hx1_1
          replace hx1_2:=zx_ HB hx1_2
          replace hx1_3:=zx_ HB hx1_3
          replace hx1_4:=zx_ HB hx1_4
          replace hx1_5:=zx_ HB hx1_5
          replace p1:=eq_true p1
          replace q1:=eq_true q1
          go_wp2_with (first|(go_at_call 50;(with_reducible refine (r10_Find.calls k1 _ _ l1 ((rd_T54 l0 x6_1).f0) t2 _ ?side1 ?side2 A5.out).mono ?_);(case side1=>exact zc_ (Kd.C_below HR1.out HB.out));(case side2=>exact HC1.out);rintro e w' ⟨rfl,⟨nd,rfl⟩⟩;(try first|exact ⟨rfl,_,World.drewN_drewN _ _ _⟩|exact ⟨rfl,_,Eq.trans (World.drewN_drewN _ _ _) (congrArg (World.drewN _) (Nat.add_assoc _ _ _))⟩);have p7:0≤(t2:Int):=of_decide_eq_true zq_;have q7:t2<(l1.length:Int):=of_decide_eq_true zq_;obtain ⟨ad7,e7,hx7_0,hx7_1,hx7_2,hx7_3,hx7_4,hx7_5,hx7_6,hx7_7,hx7_8,hx7_9,hx7_10,hx7_11⟩:=at_T31 HR1.out t2 p7 q7;cases e7;replace hx7_0:=zx_ HB hx7_0;replace hx7_1:=zx_ HB hx7_1;replace hx7_2:=zx_ HB hx7_2;replace hx7_3:=zx_ HB hx7_3;replace hx7_4:=zx_ HB hx7_4;replace hx7_5:=zx_ HB hx7_5;replace hx7_6:=zx_ HB hx7_6;replace hx7_7:=zx_ HB hx7_7;replace hx7_8:=zx_ HB hx7_8;replace hx7_9:=zx_ HB hx7_9;replace hx7_10:=zx_ HB hx7_10;replace hx7_11:=zx_ HB hx7_11;replace p7:=eq_true p7;replace q7:=eq_true q7;have p8:0≤(x6_1:Int):=of_decide_eq_true zq_;have q8:x6_1<(l0.length:Int):=of_decide_eq_true zq_;obtain ⟨ad8,e8,hx8_0,hx8_1,hx8_2,hx8_3,hx8_4,hx8_5⟩:=at_T54 HR0.out x6_1 p8 q8;obtain rfl:ad1=ad8:=(by injection e8);replace hx8_0:=zx_ HB hx8_0;replace hx8_1:=zx_ HB hx8_1;replace hx8_2:=zx_ HB hx8_2;replace hx8_3:=zx_ HB hx8_3;replace hx8_4:=zx_ HB hx8_4;replace hx8_5:=zx_ HB hx8_5;replace p8:=eq_true p8;replace q8:=eq_true q8;have p9:0≤(t2:Int):=of_decide_eq_true zq_;have q9:t2<(l1.length:Int):=of_decide_eq_true zq_;obtain ⟨ad9,e9,hx9_0,hx9_1,hx9_2,hx9_3,hx9_4,hx9_5,hx9_6,hx9_7,hx9_8,hx9_9,hx9_10,hx9_11⟩:=at_T31 HR1.out t2 p9 q9;obtain rfl:ad7=ad9:=(by injection e9);replace hx9_0:=zx_ HB hx9_0;replace hx9_1:=zx_ HB hx9_1;replace hx9_2:=zx_ HB hx9_2;replace hx9_3:=zx_ HB hx9_3;replace hx9_4:=zx_ HB hx9_4;replace hx9_5:=zx_ HB hx9_5;replace hx9_6:=zx_ HB hx9_6;replace hx9_7:=zx_ HB hx9_7;replace hx9_8:=zx_ HB hx9_8;replace hx9_9:=zx_ HB hx9_9;replace hx9_10:=zx_ HB hx9_10;replace hx9_11:=zx_ HB hx9_11;replace p9:=eq_true p9;replace q9:=eq_true q9;have p10:0≤(x6_1:Int):=of_decide_eq_true zq_;have q10:x6_1<(l0.length:Int):=of_decide_eq_true zq_;obtain ⟨ad10,e10,hx10_0,hx10_1,hx10_2,hx10_3,hx10_4,hx10_5⟩:=at_T54 HR0.out x6_1 p10 q10;obtain rfl:ad1=ad10:=(by injection e10);replace hx10_0:=zx_ HB hx10_0;replace hx10_1:=zx_ HB hx10_1;replace hx10_2:=zx_ HB hx10_2;replace hx10_3:=zx_ HB hx10_3;replace hx10_4:=zx_ HB hx10_4;replace hx10_5:=zx_ HB hx10_5;replace p10:=eq_true p10;replace q10:=eq_true q10;have p11:0≤(x6_1:Int):=of_decide_eq_true zq_;have q11:x6_1<(l0.length:Int):=of_decide_eq_true zq_;obtain ⟨ad11,e11,hx11_0,hx11_1,hx11_2,hx11_3,hx11_4,hx11_5⟩:=at_T54 HR0.out x6_1 p11 q11;obtain rfl:ad1=ad11:=(by injection e11);replace hx11_0:=zx_ HB hx11_0;replace hx11_1:=zx_ HB hx11_1;replace hx11_2:=zx_ HB hx11_2;replace hx11_3:=zx_ HB hx11_3;replace hx11_4:=zx_ HB hx11_4;replace hx11_5:=zx_ HB hx11_5;replace p11:=eq_true p11;replace q11:=eq_true q11)|((with_reducible refine gate_builtin (b:= .append) (xs:=#[.tmp 63, .tmp 70]) rfl ?_);at_builtin;refine Kd.R_append k37 (w0:=w) w.heap.size rfl (.tmp 63) (.tmp 70) 45 37 (.agg #[(.string ⟨#[]⟩),(.int .i64 0)]) 24 rfl Try.underlying45 info37 rfl (by decide) (by omega) u5 x5_1 (⟨(rd_T54 l0 x6_1).f0,3⟩:S37) [.string ((rd_T54 l0 x6_1).f0), .int .i64 3] (fun _=>True) (fun _=>False) rfl rfl ?aP (fun _ hk=>hk.elim) ?aF ?aO ?aB ?aS ?aL ?_;(case aP=>exact k37_mkM _ _ _ (⟨(rd_T54 l0 x6_1).f0,3⟩:S37));(case aB=>exact (zl0_ HB));(case aF=>exact (fun _ _=>trivial));(case aO=>exact (zr_ HO_5));(case aS=>exact (below_size (zl0_ HB)));(case aL=>have:=LMc13.out;omega);intro v13 w14 ho hb hg hat;rw [←Ny12.out] at ho;have n0_:=am_ (hb);have n1_:=am_ (ho);clear HB;clear HO_5;have HB:=n0_;have HO14:=n1_;clear n0_ n1_;clear ho hb hg hat))
          repeat (go_quiet (first|(go_at_call 50;(with_reducible refine (r10_Find.calls k1 _ _ l1 ((rd_T54 l0 x6_1).f0) t2 _ ?side1 ?side2 A5.out).mono ?_);(case side1=>exact zc_ (Kd.C_below HR1.out HB.out));(case side2=>exact HC1.out);rintro e w' ⟨rfl,⟨nd,rfl⟩⟩;(try first|exact ⟨rfl,_,World.drewN_drewN _ _ _⟩|exact ⟨rfl,_,Eq.trans (World.drewN_drewN _ _ _) (congrArg (World.drewN _) (Nat.add_assoc _ _ _))⟩);have p7:0≤(t2:Int):=of_decide_eq_true zq_;have q7:t2<(l1.length:Int):=of_decide_eq_true zq_;obtain ⟨ad7,e7,hx7_0,hx7_1,hx7_2,hx7_3,hx7_4,hx7_5,hx7_6,hx7_7,hx7_8,hx7_9,hx7_10,hx7_11⟩:=at_T31 HR1.out t2 p7 q7;cases e7;replace hx7_0:=zx_ HB hx7_0;replace hx7_1:=zx_ HB hx7_1;replace hx7_2:=zx_ HB hx7_2;replace hx7_3:=zx_ HB hx7_3;replace hx7_4:=zx_ HB hx7_4;replace hx7_5:=zx_ HB hx7_5;replace hx7_6:=zx_ HB hx7_6;replace hx7_7:=zx_ HB hx7_7;replace hx7_8:=zx_ HB hx7_8;replace hx7_9:=zx_ HB hx7_9;replace hx7_10:=zx_ HB hx7_10;replace hx7_11:=zx_ HB hx7_11;replace p7:=eq_true p7;replace q7:=eq_true q7;have p8:0≤(x6_1:Int):=of_decide_eq_true zq_;have q8:x6_1<(l0.length:Int):=of_decide_eq_true zq_;obtain ⟨ad8,e8,hx8_0,hx8_1,hx8_2,hx8_3,hx8_4,hx8_5⟩:=at_T54 HR0.out x6_1 p8 q8;obtain rfl:ad1=ad8:=(by injection e8);replace hx8_0:=zx_ HB hx8_0;replace hx8_1:=zx_ HB hx8_1;replace hx8_2:=zx_ HB hx8_2;replace hx8_3:=zx_ HB hx8_3;replace hx8_4:=zx_ HB hx8_4;replace hx8_5:=zx_ HB hx8_5;replace p8:=eq_true p8;replace q8:=eq_true q8;have p9:0≤(t2:Int):=of_decide_eq_true zq_;have q9:t2<(l1.length:Int):=of_decide_eq_true zq_;obtain ⟨ad9,e9,hx9_0,hx9_1,hx9_2,hx9_3,hx9_4,hx9_5,hx9_6,hx9_7,hx9_8,hx9_9,hx9_10,hx9_11⟩:=at_T31 HR1.out t2 p9 q9;obtain rfl:ad7=ad9:=(by injection e9);replace hx9_0:=zx_ HB hx9_0;replace hx9_1:=zx_ HB hx9_1;replace hx9_2:=zx_ HB hx9_2;replace hx9_3:=zx_ HB hx9_3;replace hx9_4:=zx_ HB hx9_4;replace hx9_5:=zx_ HB hx9_5;replace hx9_6:=zx_ HB hx9_6;replace hx9_7:=zx_ HB hx9_7;replace hx9_8:=zx_ HB hx9_8;replace hx9_9:=zx_ HB hx9_9;replace hx9_10:=zx_ HB hx9_10;replace hx9_11:=zx_ HB hx9_11;replace p9:=eq_true p9;replace q9:=eq_true q9;have p10:0≤(x6_1:Int):=of_decide_eq_true zq_;have q10:x6_1<(l0.length:Int):=of_decide_eq_true zq_;obtain ⟨ad10,e10,hx10_0,hx10_1,hx10_2,hx10_3,hx10_4,hx10_5⟩:=at_T54 HR0.out x6_1 p10 q10;obtain rfl:ad1=ad10:=(by injection e10);replace hx10_0:=zx_ HB hx10_0;replace hx10_1:=zx_ HB hx10_1;replace hx10_2:=zx_ HB hx10_2;replace hx10_3:=zx_ HB hx10_3;replace hx10_4:=zx_ HB hx10_4;replace hx10_5:=zx_ HB hx10_5;replace p10:=eq_true p10;replace q10:=eq_true q10;have p11:0≤(x6_1:Int):=of_decide_eq_true zq_;have q11:x6_1<(l0.length:Int):=of_decide_eq_true zq_;obtain ⟨ad11,e11,hx11_0,hx11_1,hx11_2,hx11_3,hx11_4,hx11_5⟩:=at_T54 HR0.out x6_1 p11 q11;obtain rfl:ad1=ad11:=(by injection e11);replace hx11_0:=zx_ HB hx11_0;replace hx11_1:=zx_ HB hx11_1;replace hx11_2:=zx_ HB hx11_2;replace hx11_3:=zx_ HB hx11_3;replace hx11_4:=zx_ HB hx11_4;replace hx11_5:=zx_ HB hx11_5;replace p11:=eq_true p11;replace q11:=eq_true q11)|((with_reducible refine gate_builtin (b:= .append) (xs:=#[.tmp 63, .tmp 70]) rfl ?_);at_builtin;refine Kd.R_append k37 (w0:=w) w.heap.size rfl (.tmp 63) (.tmp 70) 45 37 (.agg #[(.string ⟨#[]⟩),(.int .i64 0)]) 24 rfl Try.underlying45 info37 rfl (by decide) (by omega) u5 x5_1 (⟨(rd_T54 l0 x6_1).f0,3⟩:S37) [.string ((rd_T54 l0 x6_1).f0), .int .i64 3] (fun _=>True) (fun _=>False) rfl rfl ?aP (fun _ hk=>hk.elim) ?aF ?aO ?aB ?aS ?aL ?_;(case aP=>exact k37_mkM _ _ _ (⟨(rd_T54 l0 x6_1).f0,3⟩:S37));(case aB=>exact (zl0_ HB));(case aF=>exact (fun _ _=>trivial));(case aO=>exact (zr_ HO_5));(case aS=>exact (below_size (zl0_ HB)));(case aL=>have:=LMc13.out;omega);intro v13 w14 ho hb hg hat;rw [←Ny12.out] at ho;have n0_:=am_ (hb);have n1_:=am_ (ho);clear HB;clear HO_5;have HB:=n0_;have HO14:=n1_;clear n0_ n1_;clear ho hb hg hat));try go_wp2_with (first|(go_at_call 50;(with_reducible refine (r10_Find.calls k1 _ _ l1 ((rd_T54 l0 x6_1).f0) t2 _ ?side1 ?side2 A5.out).mono ?_);(case side1=>exact zc_ (Kd.C_below HR1.out HB.out));(case side2=>exact HC1.out);rintro e w' ⟨rfl,⟨nd,rfl⟩⟩;(try first|exact ⟨rfl,_,World.drewN_drewN _ _ _⟩|exact ⟨rfl,_,Eq.trans (World.drewN_drewN _ _ _) (congrArg (World.drewN _) (Nat.add_assoc _ _ _))⟩);have p7:0≤(t2:Int):=of_decide_eq_true zq_;have q7:t2<(l1.length:Int):=of_decide_eq_true zq_;obtain ⟨ad7,e7,hx7_0,hx7_1,hx7_2,hx7_3,hx7_4,hx7_5,hx7_6,hx7_7,hx7_8,hx7_9,hx7_10,hx7_11⟩:=at_T31 HR1.out t2 p7 q7;cases e7;replace hx7_0:=zx_ HB hx7_0;replace hx7_1:=zx_ HB hx7_1;replace hx7_2:=zx_ HB hx7_2;replace hx7_3:=zx_ HB hx7_3;replace hx7_4:=zx_ HB hx7_4;replace hx7_5:=zx_ HB hx7_5;replace hx7_6:=zx_ HB hx7_6;replace hx7_7:=zx_ HB hx7_7;replace hx7_8:=zx_ HB hx7_8;replace hx7_9:=zx_ HB hx7_9;replace hx7_10:=zx_ HB hx7_10;replace hx7_11:=zx_ HB hx7_11;replace p7:=eq_true p7;replace q7:=eq_true q7;have p8:0≤(x6_1:Int):=of_decide_eq_true zq_;have q8:x6_1<(l0.length:Int):=of_decide_eq_true zq_;obtain ⟨ad8,e8,hx8_0,hx8_1,hx8_2,hx8_3,hx8_4,hx8_5⟩:=at_T54 HR0.out x6_1 p8 q8;obtain rfl:ad1=ad8:=(by injection e8);replace hx8_0:=zx_ HB hx8_0;replace hx8_1:=zx_ HB hx8_1;replace hx8_2:=zx_ HB hx8_2;replace hx8_3:=zx_ HB hx8_3;replace hx8_4:=zx_ HB hx8_4;replace hx8_5:=zx_ HB hx8_5;replace p8:=eq_true p8;replace q8:=eq_true q8;have p9:0≤(t2:Int):=of_decide_eq_true zq_;have q9:t2<(l1.length:Int):=of_decide_eq_true zq_;obtain ⟨ad9,e9,hx9_0,hx9_1,hx9_2,hx9_3,hx9_4,hx9_5,hx9_6,hx9_7,hx9_8,hx9_9,hx9_10,hx9_11⟩:=at_T31 HR1.out t2 p9 q9;obtain rfl:ad7=ad9:=(by injection e9);replace hx9_0:=zx_ HB hx9_0;replace hx9_1:=zx_ HB hx9_1;replace hx9_2:=zx_ HB hx9_2;replace hx9_3:=zx_ HB hx9_3;replace hx9_4:=zx_ HB hx9_4;replace hx9_5:=zx_ HB hx9_5;replace hx9_6:=zx_ HB hx9_6;replace hx9_7:=zx_ HB hx9_7;replace hx9_8:=zx_ HB hx9_8;replace hx9_9:=zx_ HB hx9_9;replace hx9_10:=zx_ HB hx9_10;replace hx9_11:=zx_ HB hx9_11;replace p9:=eq_true p9;replace q9:=eq_true q9;have p10:0≤(x6_1:Int):=of_decide_eq_true zq_;have q10:x6_1<(l0.length:Int):=of_decide_eq_true zq_;obtain ⟨ad10,e10,hx10_0,hx10_1,hx10_2,hx10_3,hx10_4,hx10_5⟩:=at_T54 HR0.out x6_1 p10 q10;obtain rfl:ad1=ad10:=(by injection e10);replace hx10_0:=zx_ HB hx10_0;replace hx10_1:=zx_ HB hx10_1;replace hx10_2:=zx_ HB hx10_2;replace hx10_3:=zx_ HB hx10_3;replace hx10_4:=zx_ HB hx10_4;replace hx10_5:=zx_ HB hx10_5;replace p10:=eq_true p10;replace q10:=eq_true q10;have p11:0≤(x6_1:Int):=of_decide_eq_true zq_;have q11:x6_1<(l0.length:Int):=of_decide_eq_true zq_;obtain ⟨ad11,e11,hx11_0,hx11_1,hx11_2,hx11_3,hx11_4,hx11_5⟩:=at_T54 HR0.out x6_1 p11 q11;obtain rfl:ad1=ad11:=(by injection e11);replace hx11_0:=zx_ HB hx11_0;replace hx11_1:=zx_ HB hx11_1;replace hx11_2:=zx_ HB hx11_2;replace hx11_3:=zx_ HB hx11_3;replace hx11_4:=zx_ HB hx11_4;replace hx11_5:=zx_ HB hx11_5;replace p11:=eq_true p11;replace q11:=eq_true q11)|((with_reducible refine gate_builtin (b:= .append) (xs:=#[.tmp 63, .tmp 70]) rfl ?_);at_builtin;refine Kd.R_append k37 (w0:=w) w.heap.size rfl (.tmp 63) (.tmp 70) 45 37 (.agg #[(.string ⟨#[]⟩),(.int .i64 0)]) 24 rfl Try.underlying45 info37 rfl (by decide) (by omega) u5 x5_1 (⟨(rd_T54 l0 x6_1).f0,3⟩:S37) [.string ((rd_T54 l0 x6_1).f0), .int .i64 3] (fun _=>True) (fun _=>False) rfl rfl ?aP (fun _ hk=>hk.elim) ?aF ?aO ?aB ?aS ?aL ?_;(case aP=>exact k37_mkM _ _ _ (⟨(rd_T54 l0 x6_1).f0,3⟩:S37));(case aB=>exact (zl0_ HB));(case aF=>exact (fun _ _=>trivial));(case aO=>exact (zr_ HO_5));(case aS=>exact (below_size (zl0_ HB)));(case aL=>have:=LMc13.out;omega);intro v13 w14 ho hb hg hat;rw [←Ny12.out] at ho;have n0_:=am_ (hb);have n1_:=am_ (ho);clear HB;clear HO_5;have HB:=n0_;have HO14:=n1_;clear n0_ n1_;clear ho hb hg hat)))
          go_roundg k1
          case measure=>have:=HK1.out;omega
          case rel=>exact ⟨(y12),(wrap64 (x6_1+1)),(by first|rfl|(simp;done)|(simp [*];done)),H',⟨by have:=HK1.out;omega⟩,⟨by (with_reducible repeat (first|apply Kd.R_alloc|apply Kd.R_drewN|apply Kd.R_drew));exact HO14.out⟩,⟨zl0_ HB⟩⟩
         rw [if_neg c13] at H
         exact absurd H (by simp)
        rw [if_neg c12] at H
        have c12b0:(!(((rd_T31 l1 t2).f2.f0)==((rd_T54 l0 x6_1).f2.f0))||(!(((rd_T31 l1 t2).f2.f1)==((rd_T54 l0 x6_1).f2.f1))||(!(((rd_T31 l1 t2).f2.f2)==((rd_T54 l0 x6_1).f2.f2)))))=false:=by simpa using c12
        clear c12
        have H':=Aside0.mk H
        clear H
        have p1:0≤(x6_1:Int):=of_decide_eq_true zq_
        have q1:x6_1<(l0.length:Int):=of_decide_eq_true zq_
        obtain ⟨ad1,e1,hx1_0,hx1_1,hx1_2,hx1_3,hx1_4,hx1_5⟩:=at_T54 HR0.out x6_1 p1 q1
        cases e1
        replace hx1_0:=zx_ HB hx1_0
        replace hx1_1:=zx_ HB hx1_1
        replace hx1_2:=zx_ HB hx1_2
        replace hx1_3:=zx_ HB hx1_3
        replace hx1_4:=zx_ HB hx1_4
        replace hx1_5:=zx_ HB hx1_5
        replace p1:=eq_true p1
        replace q1:=eq_true q1
        go_wp2_with (first|(go_at_call 50;(with_reducible refine (r10_Find.calls k1 _ _ l1 ((rd_T54 l0 x6_1).f0) t2 _ ?side1 ?side2 A5.out).mono ?_);(case side1=>exact zc_ (Kd.C_below HR1.out HB.out));(case side2=>exact HC1.out);rintro e w' ⟨rfl,⟨nd,rfl⟩⟩;(try first|exact ⟨rfl,_,World.drewN_drewN _ _ _⟩|exact ⟨rfl,_,Eq.trans (World.drewN_drewN _ _ _) (congrArg (World.drewN _) (Nat.add_assoc _ _ _))⟩);have p7:0≤(t2:Int):=of_decide_eq_true zq_;have q7:t2<(l1.length:Int):=of_decide_eq_true zq_;obtain ⟨ad7,e7,hx7_0,hx7_1,hx7_2,hx7_3,hx7_4,hx7_5,hx7_6,hx7_7,hx7_8,hx7_9,hx7_10,hx7_11⟩:=at_T31 HR1.out t2 p7 q7;cases e7;replace hx7_0:=zx_ HB hx7_0;replace hx7_1:=zx_ HB hx7_1;replace hx7_2:=zx_ HB hx7_2;replace hx7_3:=zx_ HB hx7_3;replace hx7_4:=zx_ HB hx7_4;replace hx7_5:=zx_ HB hx7_5;replace hx7_6:=zx_ HB hx7_6;replace hx7_7:=zx_ HB hx7_7;replace hx7_8:=zx_ HB hx7_8;replace hx7_9:=zx_ HB hx7_9;replace hx7_10:=zx_ HB hx7_10;replace hx7_11:=zx_ HB hx7_11;replace p7:=eq_true p7;replace q7:=eq_true q7;have p8:0≤(x6_1:Int):=of_decide_eq_true zq_;have q8:x6_1<(l0.length:Int):=of_decide_eq_true zq_;obtain ⟨ad8,e8,hx8_0,hx8_1,hx8_2,hx8_3,hx8_4,hx8_5⟩:=at_T54 HR0.out x6_1 p8 q8;obtain rfl:ad1=ad8:=(by injection e8);replace hx8_0:=zx_ HB hx8_0;replace hx8_1:=zx_ HB hx8_1;replace hx8_2:=zx_ HB hx8_2;replace hx8_3:=zx_ HB hx8_3;replace hx8_4:=zx_ HB hx8_4;replace hx8_5:=zx_ HB hx8_5;replace p8:=eq_true p8;replace q8:=eq_true q8;have p9:0≤(t2:Int):=of_decide_eq_true zq_;have q9:t2<(l1.length:Int):=of_decide_eq_true zq_;obtain ⟨ad9,e9,hx9_0,hx9_1,hx9_2,hx9_3,hx9_4,hx9_5,hx9_6,hx9_7,hx9_8,hx9_9,hx9_10,hx9_11⟩:=at_T31 HR1.out t2 p9 q9;obtain rfl:ad7=ad9:=(by injection e9);replace hx9_0:=zx_ HB hx9_0;replace hx9_1:=zx_ HB hx9_1;replace hx9_2:=zx_ HB hx9_2;replace hx9_3:=zx_ HB hx9_3;replace hx9_4:=zx_ HB hx9_4;replace hx9_5:=zx_ HB hx9_5;replace hx9_6:=zx_ HB hx9_6;replace hx9_7:=zx_ HB hx9_7;replace hx9_8:=zx_ HB hx9_8;replace hx9_9:=zx_ HB hx9_9;replace hx9_10:=zx_ HB hx9_10;replace hx9_11:=zx_ HB hx9_11;replace p9:=eq_true p9;replace q9:=eq_true q9;have p10:0≤(x6_1:Int):=of_decide_eq_true zq_;have q10:x6_1<(l0.length:Int):=of_decide_eq_true zq_;obtain ⟨ad10,e10,hx10_0,hx10_1,hx10_2,hx10_3,hx10_4,hx10_5⟩:=at_T54 HR0.out x6_1 p10 q10;obtain rfl:ad1=ad10:=(by injection e10);replace hx10_0:=zx_ HB hx10_0;replace hx10_1:=zx_ HB hx10_1;replace hx10_2:=zx_ HB hx10_2;replace hx10_3:=zx_ HB hx10_3;replace hx10_4:=zx_ HB hx10_4;replace hx10_5:=zx_ HB hx10_5;replace p10:=eq_true p10;replace q10:=eq_true q10))
        repeat (go_quiet (first|(go_at_call 50;(with_reducible refine (r10_Find.calls k1 _ _ l1 ((rd_T54 l0 x6_1).f0) t2 _ ?side1 ?side2 A5.out).mono ?_);(case side1=>exact zc_ (Kd.C_below HR1.out HB.out));(case side2=>exact HC1.out);rintro e w' ⟨rfl,⟨nd,rfl⟩⟩;(try first|exact ⟨rfl,_,World.drewN_drewN _ _ _⟩|exact ⟨rfl,_,Eq.trans (World.drewN_drewN _ _ _) (congrArg (World.drewN _) (Nat.add_assoc _ _ _))⟩);have p7:0≤(t2:Int):=of_decide_eq_true zq_;have q7:t2<(l1.length:Int):=of_decide_eq_true zq_;obtain ⟨ad7,e7,hx7_0,hx7_1,hx7_2,hx7_3,hx7_4,hx7_5,hx7_6,hx7_7,hx7_8,hx7_9,hx7_10,hx7_11⟩:=at_T31 HR1.out t2 p7 q7;cases e7;replace hx7_0:=zx_ HB hx7_0;replace hx7_1:=zx_ HB hx7_1;replace hx7_2:=zx_ HB hx7_2;replace hx7_3:=zx_ HB hx7_3;replace hx7_4:=zx_ HB hx7_4;replace hx7_5:=zx_ HB hx7_5;replace hx7_6:=zx_ HB hx7_6;replace hx7_7:=zx_ HB hx7_7;replace hx7_8:=zx_ HB hx7_8;replace hx7_9:=zx_ HB hx7_9;replace hx7_10:=zx_ HB hx7_10;replace hx7_11:=zx_ HB hx7_11;replace p7:=eq_true p7;replace q7:=eq_true q7;have p8:0≤(x6_1:Int):=of_decide_eq_true zq_;have q8:x6_1<(l0.length:Int):=of_decide_eq_true zq_;obtain ⟨ad8,e8,hx8_0,hx8_1,hx8_2,hx8_3,hx8_4,hx8_5⟩:=at_T54 HR0.out x6_1 p8 q8;obtain rfl:ad1=ad8:=(by injection e8);replace hx8_0:=zx_ HB hx8_0;replace hx8_1:=zx_ HB hx8_1;replace hx8_2:=zx_ HB hx8_2;replace hx8_3:=zx_ HB hx8_3;replace hx8_4:=zx_ HB hx8_4;replace hx8_5:=zx_ HB hx8_5;replace p8:=eq_true p8;replace q8:=eq_true q8;have p9:0≤(t2:Int):=of_decide_eq_true zq_;have q9:t2<(l1.length:Int):=of_decide_eq_true zq_;obtain ⟨ad9,e9,hx9_0,hx9_1,hx9_2,hx9_3,hx9_4,hx9_5,hx9_6,hx9_7,hx9_8,hx9_9,hx9_10,hx9_11⟩:=at_T31 HR1.out t2 p9 q9;obtain rfl:ad7=ad9:=(by injection e9);replace hx9_0:=zx_ HB hx9_0;replace hx9_1:=zx_ HB hx9_1;replace hx9_2:=zx_ HB hx9_2;replace hx9_3:=zx_ HB hx9_3;replace hx9_4:=zx_ HB hx9_4;replace hx9_5:=zx_ HB hx9_5;replace hx9_6:=zx_ HB hx9_6;replace hx9_7:=zx_ HB hx9_7;replace hx9_8:=zx_ HB hx9_8;replace hx9_9:=zx_ HB hx9_9;replace hx9_10:=zx_ HB hx9_10;replace hx9_11:=zx_ HB hx9_11;replace p9:=eq_true p9;replace q9:=eq_true q9;have p10:0≤(x6_1:Int):=of_decide_eq_true zq_;have q10:x6_1<(l0.length:Int):=of_decide_eq_true zq_;obtain ⟨ad10,e10,hx10_0,hx10_1,hx10_2,hx10_3,hx10_4,hx10_5⟩:=at_T54 HR0.out x6_1 p10 q10;obtain rfl:ad1=ad10:=(by injection e10);replace hx10_0:=zx_ HB hx10_0;replace hx10_1:=zx_ HB hx10_1;replace hx10_2:=zx_ HB hx10_2;replace hx10_3:=zx_ HB hx10_3;replace hx10_4:=zx_ HB hx10_4;replace hx10_5:=zx_ HB hx10_5;replace p10:=eq_true p10;replace q10:=eq_true q10));try go_wp2_with (first|(go_at_call 50;(with_reducible refine (r10_Find.calls k1 _ _ l1 ((rd_T54 l0 x6_1).f0) t2 _ ?side1 ?side2 A5.out).mono ?_);(case side1=>exact zc_ (Kd.C_below HR1.out HB.out));(case side2=>exact HC1.out);rintro e w' ⟨rfl,⟨nd,rfl⟩⟩;(try first|exact ⟨rfl,_,World.drewN_drewN _ _ _⟩|exact ⟨rfl,_,Eq.trans (World.drewN_drewN _ _ _) (congrArg (World.drewN _) (Nat.add_assoc _ _ _))⟩);have p7:0≤(t2:Int):=of_decide_eq_true zq_;have q7:t2<(l1.length:Int):=of_decide_eq_true zq_;obtain ⟨ad7,e7,hx7_0,hx7_1,hx7_2,hx7_3,hx7_4,hx7_5,hx7_6,hx7_7,hx7_8,hx7_9,hx7_10,hx7_11⟩:=at_T31 HR1.out t2 p7 q7;cases e7;replace hx7_0:=zx_ HB hx7_0;replace hx7_1:=zx_ HB hx7_1;replace hx7_2:=zx_ HB hx7_2;replace hx7_3:=zx_ HB hx7_3;replace hx7_4:=zx_ HB hx7_4;replace hx7_5:=zx_ HB hx7_5;replace hx7_6:=zx_ HB hx7_6;replace hx7_7:=zx_ HB hx7_7;replace hx7_8:=zx_ HB hx7_8;replace hx7_9:=zx_ HB hx7_9;replace hx7_10:=zx_ HB hx7_10;replace hx7_11:=zx_ HB hx7_11;replace p7:=eq_true p7;replace q7:=eq_true q7;have p8:0≤(x6_1:Int):=of_decide_eq_true zq_;have q8:x6_1<(l0.length:Int):=of_decide_eq_true zq_;obtain ⟨ad8,e8,hx8_0,hx8_1,hx8_2,hx8_3,hx8_4,hx8_5⟩:=at_T54 HR0.out x6_1 p8 q8;obtain rfl:ad1=ad8:=(by injection e8);replace hx8_0:=zx_ HB hx8_0;replace hx8_1:=zx_ HB hx8_1;replace hx8_2:=zx_ HB hx8_2;replace hx8_3:=zx_ HB hx8_3;replace hx8_4:=zx_ HB hx8_4;replace hx8_5:=zx_ HB hx8_5;replace p8:=eq_true p8;replace q8:=eq_true q8;have p9:0≤(t2:Int):=of_decide_eq_true zq_;have q9:t2<(l1.length:Int):=of_decide_eq_true zq_;obtain ⟨ad9,e9,hx9_0,hx9_1,hx9_2,hx9_3,hx9_4,hx9_5,hx9_6,hx9_7,hx9_8,hx9_9,hx9_10,hx9_11⟩:=at_T31 HR1.out t2 p9 q9;obtain rfl:ad7=ad9:=(by injection e9);replace hx9_0:=zx_ HB hx9_0;replace hx9_1:=zx_ HB hx9_1;replace hx9_2:=zx_ HB hx9_2;replace hx9_3:=zx_ HB hx9_3;replace hx9_4:=zx_ HB hx9_4;replace hx9_5:=zx_ HB hx9_5;replace hx9_6:=zx_ HB hx9_6;replace hx9_7:=zx_ HB hx9_7;replace hx9_8:=zx_ HB hx9_8;replace hx9_9:=zx_ HB hx9_9;replace hx9_10:=zx_ HB hx9_10;replace hx9_11:=zx_ HB hx9_11;replace p9:=eq_true p9;replace q9:=eq_true q9;have p10:0≤(x6_1:Int):=of_decide_eq_true zq_;have q10:x6_1<(l0.length:Int):=of_decide_eq_true zq_;obtain ⟨ad10,e10,hx10_0,hx10_1,hx10_2,hx10_3,hx10_4,hx10_5⟩:=at_T54 HR0.out x6_1 p10 q10;obtain rfl:ad1=ad10:=(by injection e10);replace hx10_0:=zx_ HB hx10_0;replace hx10_1:=zx_ HB hx10_1;replace hx10_2:=zx_ HB hx10_2;replace hx10_3:=zx_ HB hx10_3;replace hx10_4:=zx_ HB hx10_4;replace hx10_5:=zx_ HB hx10_5;replace p10:=eq_true p10;replace q10:=eq_true q10)))
        go_roundg k1
        case measure=>have:=HK1.out;omega
        case rel=>exact ⟨(x5_1),(wrap64 (x6_1+1)),(by first|rfl|(simp;done)|(simp [*];done)),H',⟨by have:=HK1.out;omega⟩,⟨by (with_reducible repeat (first|apply Kd.R_alloc|apply Kd.R_drewN|apply Kd.R_drew));exact HO_5.out⟩,⟨zl0_ HB⟩⟩
       rw [if_neg c11] at H
       have c11b0:(((rd_T31 l1 t2).f1).toList==((rd_T54 l0 x6_1).f1).toList)=false:=beq_eq_false_iff_ne.mpr c11
       have c11b1:(((rd_T31 l1 t2).f1).toList !=((rd_T54 l0 x6_1).f1).toList)=true:=bne_iff_ne.mpr c11
       by_cases c15:x5_1.length<5864062014805
       ·rw [if_pos c15] at H
        have LMc15:=Aside0.mk c15
        clear c15
        obtain ⟨y16,hy16⟩: ∃y_:List (S37),y_=(x5_1++ [(⟨(rd_T54 l0 x6_1).f0,2⟩:S37)]):=⟨_,rfl⟩
        replace H:(if (!(((rd_T31 l1 t2).f2.f0)==((rd_T54 l0 x6_1).f2.f0))||(!(((rd_T31 l1 t2).f2.f1)==((rd_T54 l0 x6_1).f2.f1))||(!(((rd_T31 l1 t2).f2.f2)==((rd_T54 l0 x6_1).f2.f2)))))=true then (if y16.length<5864062014805 then (r16_Drifts.l0 k1 l0 l1 (y16++ [(⟨(rd_T54 l0 x6_1).f0,3⟩:S37)]) (wrap64 (x6_1+1))) else (none)) else (r16_Drifts.l0 k1 l0 l1 y16 (wrap64 (x6_1+1))))=some r:=by first|(rw [hy16];with_reducible exact H)|(have H2_:=(Option.bind_some _ _).symm.trans H;rw [hy16];with_reducible exact H2_)|(have H2_:=(Option.bind_some _ _).symm.trans H;with_reducible exact H2_)|with_reducible exact H|(rw [hy16];exact H)|exact H
        have Ny16:=Aside0.mk hy16
        clear hy16
        by_cases c16:(!(((rd_T31 l1 t2).f2.f0)==((rd_T54 l0 x6_1).f2.f0))||(!(((rd_T31 l1 t2).f2.f1)==((rd_T54 l0 x6_1).f2.f1))||(!(((rd_T31 l1 t2).f2.f2)==((rd_T54 l0 x6_1).f2.f2)))))=true
        ·rw [if_pos c16] at H
         have c16b0:(!(((rd_T31 l1 t2).f2.f0)==((rd_T54 l0 x6_1).f2.f0))||(!(((rd_T31 l1 t2).f2.f1)==((rd_T54 l0 x6_1).f2.f1))||(!(((rd_T31 l1 t2).f2.f2)==((rd_T54 l0 x6_1).f2.f2)))))=true:=c16
         clear c16
         by_cases c17:y16.length<5864062014805
         ·rw [if_pos c17] at H
          have LMc17:=Aside0.mk c17
          clear c17
          obtain ⟨y22,hy22⟩: ∃y_:List (S37),y_=(y16++ [(⟨(rd_T54 l0 x6_1).f0,3⟩:S37)]):=⟨_,rfl⟩
          replace H:(r16_Drifts.l0 k1 l0 l1 y22 (wrap64 (x6_1+1)))=some r:=by first|(rw [hy22];with_reducible exact H)|(have H2_:=(Option.bind_some _ _).symm.trans H;rw [hy22];with_reducible exact H2_)|(have H2_:=(Option.bind_some _ _).symm.trans H;with_reducible exact H2_)|with_reducible exact H|(rw [hy22];exact H)|exact H
          have Ny22:=Aside0.mk hy22
          clear hy22
          have H':=Aside0.mk H
          clear H
          have p1:0≤(x6_1:Int):=of_decide_eq_true zq_
          have q1:x6_1<(l0.length:Int):=of_decide_eq_true zq_
          obtain ⟨ad1,e1,hx1_0,hx1_1,hx1_2,hx1_3,hx1_4,hx1_5⟩:=at_T54 HR0.out x6_1 p1 q1
          cases e1
          replace hx1_0:=zx_ HB hx1_0
          replace hx1_1:=zx_ HB hx1_1
          replace hx1_2:=zx_ HB hx1_2
          replace hx1_3:=zx_ HB hx1_3
          replace hx1_4:=zx_ HB hx1_4
          replace hx1_5:=zx_ HB hx1_5
          replace p1:=eq_true p1
          replace q1:=eq_true q1
          go_wp2_with (first|(go_at_call 50;(with_reducible refine (r10_Find.calls k1 _ _ l1 ((rd_T54 l0 x6_1).f0) t2 _ ?side1 ?side2 A5.out).mono ?_);(case side1=>exact zc_ (Kd.C_below HR1.out HB.out));(case side2=>exact HC1.out);rintro e w' ⟨rfl,⟨nd,rfl⟩⟩;(try first|exact ⟨rfl,_,World.drewN_drewN _ _ _⟩|exact ⟨rfl,_,Eq.trans (World.drewN_drewN _ _ _) (congrArg (World.drewN _) (Nat.add_assoc _ _ _))⟩);have p7:0≤(t2:Int):=of_decide_eq_true zq_;have q7:t2<(l1.length:Int):=of_decide_eq_true zq_;obtain ⟨ad7,e7,hx7_0,hx7_1,hx7_2,hx7_3,hx7_4,hx7_5,hx7_6,hx7_7,hx7_8,hx7_9,hx7_10,hx7_11⟩:=at_T31 HR1.out t2 p7 q7;cases e7;replace hx7_0:=zx_ HB hx7_0;replace hx7_1:=zx_ HB hx7_1;replace hx7_2:=zx_ HB hx7_2;replace hx7_3:=zx_ HB hx7_3;replace hx7_4:=zx_ HB hx7_4;replace hx7_5:=zx_ HB hx7_5;replace hx7_6:=zx_ HB hx7_6;replace hx7_7:=zx_ HB hx7_7;replace hx7_8:=zx_ HB hx7_8;replace hx7_9:=zx_ HB hx7_9;replace hx7_10:=zx_ HB hx7_10;replace hx7_11:=zx_ HB hx7_11;replace p7:=eq_true p7;replace q7:=eq_true q7;have p8:0≤(x6_1:Int):=of_decide_eq_true zq_;have q8:x6_1<(l0.length:Int):=of_decide_eq_true zq_;obtain ⟨ad8,e8,hx8_0,hx8_1,hx8_2,hx8_3,hx8_4,hx8_5⟩:=at_T54 HR0.out x6_1 p8 q8;obtain rfl:ad1=ad8:=(by injection e8);replace hx8_0:=zx_ HB hx8_0;replace hx8_1:=zx_ HB hx8_1;replace hx8_2:=zx_ HB hx8_2;replace hx8_3:=zx_ HB hx8_3;replace hx8_4:=zx_ HB hx8_4;replace hx8_5:=zx_ HB hx8_5;replace p8:=eq_true p8;replace q8:=eq_true q8;have p15:0≤(x6_1:Int):=of_decide_eq_true zq_;have q15:x6_1<(l0.length:Int):=of_decide_eq_true zq_;obtain ⟨ad15,e15,hx15_0,hx15_1,hx15_2,hx15_3,hx15_4,hx15_5⟩:=at_T54 HR0.out x6_1 p15 q15;obtain rfl:ad1=ad15:=(by injection e15);replace hx15_0:=zx_ HB hx15_0;replace hx15_1:=zx_ HB hx15_1;replace hx15_2:=zx_ HB hx15_2;replace hx15_3:=zx_ HB hx15_3;replace hx15_4:=zx_ HB hx15_4;replace hx15_5:=zx_ HB hx15_5;replace p15:=eq_true p15;replace q15:=eq_true q15)|((with_reducible refine gate_builtin (b:= .append) (xs:=#[.tmp 43, .tmp 50]) rfl ?_);at_builtin;refine Kd.R_append k37 (w0:=w) w.heap.size rfl (.tmp 43) (.tmp 50) 45 37 (.agg #[(.string ⟨#[]⟩),(.int .i64 0)]) 24 rfl Try.underlying45 info37 rfl (by decide) (by omega) u5 x5_1 (⟨(rd_T54 l0 x6_1).f0,2⟩:S37) [.string ((rd_T54 l0 x6_1).f0), .int .i64 2] (fun _=>True) (fun _=>False) rfl rfl ?aP (fun _ hk=>hk.elim) ?aF ?aO ?aB ?aS ?aL ?_;(case aP=>exact k37_mkM _ _ _ (⟨(rd_T54 l0 x6_1).f0,2⟩:S37));(case aB=>exact (zl0_ HB));(case aF=>exact (fun _ _=>trivial));(case aO=>exact (zr_ HO_5));(case aS=>exact (below_size (zl0_ HB)));(case aL=>have:=LMc15.out;omega);intro v17 w18 ho hb hg hat;rw [←Ny16.out] at ho;have n0_:=am_ (hb);have n1_:=am_ (ho);clear HB;clear HO_5;have HB:=n0_;have HO18:=n1_;clear n0_ n1_;clear ho hb hg hat;have p19:0≤(t2:Int):=of_decide_eq_true zq_;have q19:t2<(l1.length:Int):=of_decide_eq_true zq_;obtain ⟨ad19,e19,hx19_0,hx19_1,hx19_2,hx19_3,hx19_4,hx19_5,hx19_6,hx19_7,hx19_8,hx19_9,hx19_10,hx19_11⟩:=at_T31 HR1.out t2 p19 q19;obtain rfl:ad7=ad19:=(by injection e19);replace hx19_0:=zx_ HB hx19_0;replace hx19_1:=zx_ HB hx19_1;replace hx19_2:=zx_ HB hx19_2;replace hx19_3:=zx_ HB hx19_3;replace hx19_4:=zx_ HB hx19_4;replace hx19_5:=zx_ HB hx19_5;replace hx19_6:=zx_ HB hx19_6;replace hx19_7:=zx_ HB hx19_7;replace hx19_8:=zx_ HB hx19_8;replace hx19_9:=zx_ HB hx19_9;replace hx19_10:=zx_ HB hx19_10;replace hx19_11:=zx_ HB hx19_11;replace p19:=eq_true p19;replace q19:=eq_true q19;have p20:0≤(x6_1:Int):=of_decide_eq_true zq_;have q20:x6_1<(l0.length:Int):=of_decide_eq_true zq_;obtain ⟨ad20,e20,hx20_0,hx20_1,hx20_2,hx20_3,hx20_4,hx20_5⟩:=at_T54 HR0.out x6_1 p20 q20;obtain rfl:ad1=ad20:=(by injection e20);replace hx20_0:=zx_ HB hx20_0;replace hx20_1:=zx_ HB hx20_1;replace hx20_2:=zx_ HB hx20_2;replace hx20_3:=zx_ HB hx20_3;replace hx20_4:=zx_ HB hx20_4;replace hx20_5:=zx_ HB hx20_5;replace p20:=eq_true p20;replace q20:=eq_true q20;have p21:0≤(x6_1:Int):=of_decide_eq_true zq_;have q21:x6_1<(l0.length:Int):=of_decide_eq_true zq_;obtain ⟨ad21,e21,hx21_0,hx21_1,hx21_2,hx21_3,hx21_4,hx21_5⟩:=at_T54 HR0.out x6_1 p21 q21;obtain rfl:ad1=ad21:=(by injection e21);replace hx21_0:=zx_ HB hx21_0;replace hx21_1:=zx_ HB hx21_1;replace hx21_2:=zx_ HB hx21_2;replace hx21_3:=zx_ HB hx21_3;replace hx21_4:=zx_ HB hx21_4;replace hx21_5:=zx_ HB hx21_5;replace p21:=eq_true p21;replace q21:=eq_true q21)|((with_reducible refine gate_builtin (b:= .append) (xs:=#[.tmp 63, .tmp 70]) rfl ?_);at_builtin;refine Kd.R_append k37 (w0:=w) w.heap.size rfl (.tmp 63) (.tmp 70) 45 37 (.agg #[(.string ⟨#[]⟩),(.int .i64 0)]) 24 rfl Try.underlying45 info37 rfl (by decide) (by omega) v17 y16 (⟨(rd_T54 l0 x6_1).f0,3⟩:S37) [.string ((rd_T54 l0 x6_1).f0), .int .i64 3] (fun _=>True) (fun _=>False) rfl rfl ?aP (fun _ hk=>hk.elim) ?aF ?aO ?aB ?aS ?aL ?_;(case aP=>exact k37_mkM _ _ _ (⟨(rd_T54 l0 x6_1).f0,3⟩:S37));(case aB=>exact (zl0_ HB));(case aF=>exact (fun _ _=>trivial));(case aO=>exact (zr_ HO18));(case aS=>exact (below_size (zl0_ HB)));(case aL=>have:=LMc17.out;omega);intro v23 w19 ho hb hg hat;rw [←Ny22.out] at ho;have n0_:=am_ (hb);have n1_:=am_ (ho);clear HB;clear HO18;have HB:=n0_;have HO24:=n1_;clear n0_ n1_;clear ho hb hg hat))
          repeat (go_quiet (first|(go_at_call 50;(with_reducible refine (r10_Find.calls k1 _ _ l1 ((rd_T54 l0 x6_1).f0) t2 _ ?side1 ?side2 A5.out).mono ?_);(case side1=>exact zc_ (Kd.C_below HR1.out HB.out));(case side2=>exact HC1.out);rintro e w' ⟨rfl,⟨nd,rfl⟩⟩;(try first|exact ⟨rfl,_,World.drewN_drewN _ _ _⟩|exact ⟨rfl,_,Eq.trans (World.drewN_drewN _ _ _) (congrArg (World.drewN _) (Nat.add_assoc _ _ _))⟩);have p7:0≤(t2:Int):=of_decide_eq_true zq_;have q7:t2<(l1.length:Int):=of_decide_eq_true zq_;obtain ⟨ad7,e7,hx7_0,hx7_1,hx7_2,hx7_3,hx7_4,hx7_5,hx7_6,hx7_7,hx7_8,hx7_9,hx7_10,hx7_11⟩:=at_T31 HR1.out t2 p7 q7;cases e7;replace hx7_0:=zx_ HB hx7_0;replace hx7_1:=zx_ HB hx7_1;replace hx7_2:=zx_ HB hx7_2;replace hx7_3:=zx_ HB hx7_3;replace hx7_4:=zx_ HB hx7_4;replace hx7_5:=zx_ HB hx7_5;replace hx7_6:=zx_ HB hx7_6;replace hx7_7:=zx_ HB hx7_7;replace hx7_8:=zx_ HB hx7_8;replace hx7_9:=zx_ HB hx7_9;replace hx7_10:=zx_ HB hx7_10;replace hx7_11:=zx_ HB hx7_11;replace p7:=eq_true p7;replace q7:=eq_true q7;have p8:0≤(x6_1:Int):=of_decide_eq_true zq_;have q8:x6_1<(l0.length:Int):=of_decide_eq_true zq_;obtain ⟨ad8,e8,hx8_0,hx8_1,hx8_2,hx8_3,hx8_4,hx8_5⟩:=at_T54 HR0.out x6_1 p8 q8;obtain rfl:ad1=ad8:=(by injection e8);replace hx8_0:=zx_ HB hx8_0;replace hx8_1:=zx_ HB hx8_1;replace hx8_2:=zx_ HB hx8_2;replace hx8_3:=zx_ HB hx8_3;replace hx8_4:=zx_ HB hx8_4;replace hx8_5:=zx_ HB hx8_5;replace p8:=eq_true p8;replace q8:=eq_true q8;have p15:0≤(x6_1:Int):=of_decide_eq_true zq_;have q15:x6_1<(l0.length:Int):=of_decide_eq_true zq_;obtain ⟨ad15,e15,hx15_0,hx15_1,hx15_2,hx15_3,hx15_4,hx15_5⟩:=at_T54 HR0.out x6_1 p15 q15;obtain rfl:ad1=ad15:=(by injection e15);replace hx15_0:=zx_ HB hx15_0;replace hx15_1:=zx_ HB hx15_1;replace hx15_2:=zx_ HB hx15_2;replace hx15_3:=zx_ HB hx15_3;replace hx15_4:=zx_ HB hx15_4;replace hx15_5:=zx_ HB hx15_5;replace p15:=eq_true p15;replace q15:=eq_true q15)|((with_reducible refine gate_builtin (b:= .append) (xs:=#[.tmp 43, .tmp 50]) rfl ?_);at_builtin;refine Kd.R_append k37 (w0:=w) w.heap.size rfl (.tmp 43) (.tmp 50) 45 37 (.agg #[(.string ⟨#[]⟩),(.int .i64 0)]) 24 rfl Try.underlying45 info37 rfl (by decide) (by omega) u5 x5_1 (⟨(rd_T54 l0 x6_1).f0,2⟩:S37) [.string ((rd_T54 l0 x6_1).f0), .int .i64 2] (fun _=>True) (fun _=>False) rfl rfl ?aP (fun _ hk=>hk.elim) ?aF ?aO ?aB ?aS ?aL ?_;(case aP=>exact k37_mkM _ _ _ (⟨(rd_T54 l0 x6_1).f0,2⟩:S37));(case aB=>exact (zl0_ HB));(case aF=>exact (fun _ _=>trivial));(case aO=>exact (zr_ HO_5));(case aS=>exact (below_size (zl0_ HB)));(case aL=>have:=LMc15.out;omega);intro v17 w18 ho hb hg hat;rw [←Ny16.out] at ho;have n0_:=am_ (hb);have n1_:=am_ (ho);clear HB;clear HO_5;have HB:=n0_;have HO18:=n1_;clear n0_ n1_;clear ho hb hg hat;have p19:0≤(t2:Int):=of_decide_eq_true zq_;have q19:t2<(l1.length:Int):=of_decide_eq_true zq_;obtain ⟨ad19,e19,hx19_0,hx19_1,hx19_2,hx19_3,hx19_4,hx19_5,hx19_6,hx19_7,hx19_8,hx19_9,hx19_10,hx19_11⟩:=at_T31 HR1.out t2 p19 q19;obtain rfl:ad7=ad19:=(by injection e19);replace hx19_0:=zx_ HB hx19_0;replace hx19_1:=zx_ HB hx19_1;replace hx19_2:=zx_ HB hx19_2;replace hx19_3:=zx_ HB hx19_3;replace hx19_4:=zx_ HB hx19_4;replace hx19_5:=zx_ HB hx19_5;replace hx19_6:=zx_ HB hx19_6;replace hx19_7:=zx_ HB hx19_7;replace hx19_8:=zx_ HB hx19_8;replace hx19_9:=zx_ HB hx19_9;replace hx19_10:=zx_ HB hx19_10;replace hx19_11:=zx_ HB hx19_11;replace p19:=eq_true p19;replace q19:=eq_true q19;have p20:0≤(x6_1:Int):=of_decide_eq_true zq_;have q20:x6_1<(l0.length:Int):=of_decide_eq_true zq_;obtain ⟨ad20,e20,hx20_0,hx20_1,hx20_2,hx20_3,hx20_4,hx20_5⟩:=at_T54 HR0.out x6_1 p20 q20;obtain rfl:ad1=ad20:=(by injection e20);replace hx20_0:=zx_ HB hx20_0;replace hx20_1:=zx_ HB hx20_1;replace hx20_2:=zx_ HB hx20_2;replace hx20_3:=zx_ HB hx20_3;replace hx20_4:=zx_ HB hx20_4;replace hx20_5:=zx_ HB hx20_5;replace p20:=eq_true p20;replace q20:=eq_true q20;have p21:0≤(x6_1:Int):=of_decide_eq_true zq_;have q21:x6_1<(l0.length:Int):=of_decide_eq_true zq_;obtain ⟨ad21,e21,hx21_0,hx21_1,hx21_2,hx21_3,hx21_4,hx21_5⟩:=at_T54 HR0.out x6_1 p21 q21;obtain rfl:ad1=ad21:=(by injection e21);replace hx21_0:=zx_ HB hx21_0;replace hx21_1:=zx_ HB hx21_1;replace hx21_2:=zx_ HB hx21_2;replace hx21_3:=zx_ HB hx21_3;replace hx21_4:=zx_ HB hx21_4;replace hx21_5:=zx_ HB hx21_5;replace p21:=eq_true p21;replace q21:=eq_true q21)|((with_reducible refine gate_builtin (b:= .append) (xs:=#[.tmp 63, .tmp 70]) rfl ?_);at_builtin;refine Kd.R_append k37 (w0:=w) w.heap.size rfl (.tmp 63) (.tmp 70) 45 37 (.agg #[(.string ⟨#[]⟩),(.int .i64 0)]) 24 rfl Try.underlying45 info37 rfl (by decide) (by omega) v17 y16 (⟨(rd_T54 l0 x6_1).f0,3⟩:S37) [.string ((rd_T54 l0 x6_1).f0), .int .i64 3] (fun _=>True) (fun _=>False) rfl rfl ?aP (fun _ hk=>hk.elim) ?aF ?aO ?aB ?aS ?aL ?_;(case aP=>exact k37_mkM _ _ _ (⟨(rd_T54 l0 x6_1).f0,3⟩:S37));(case aB=>exact (zl0_ HB));(case aF=>exact (fun _ _=>trivial));(case aO=>exact (zr_ HO18));(case aS=>exact (below_size (zl0_ HB)));(case aL=>have:=LMc17.out;omega);intro v23 w19 ho hb hg hat;rw [←Ny22.out] at ho;have n0_:=am_ (hb);have n1_:=am_ (ho);clear HB;clear HO18;have HB:=n0_;have HO24:=n1_;clear n0_ n1_;clear ho hb hg hat));try go_wp2_with (first|(go_at_call 50;(with_reducible refine (r10_Find.calls k1 _ _ l1 ((rd_T54 l0 x6_1).f0) t2 _ ?side1 ?side2 A5.out).mono ?_);(case side1=>exact zc_ (Kd.C_below HR1.out HB.out));(case side2=>exact HC1.out);rintro e w' ⟨rfl,⟨nd,rfl⟩⟩;(try first|exact ⟨rfl,_,World.drewN_drewN _ _ _⟩|exact ⟨rfl,_,Eq.trans (World.drewN_drewN _ _ _) (congrArg (World.drewN _) (Nat.add_assoc _ _ _))⟩);have p7:0≤(t2:Int):=of_decide_eq_true zq_;have q7:t2<(l1.length:Int):=of_decide_eq_true zq_;obtain ⟨ad7,e7,hx7_0,hx7_1,hx7_2,hx7_3,hx7_4,hx7_5,hx7_6,hx7_7,hx7_8,hx7_9,hx7_10,hx7_11⟩:=at_T31 HR1.out t2 p7 q7;cases e7;replace hx7_0:=zx_ HB hx7_0;replace hx7_1:=zx_ HB hx7_1;replace hx7_2:=zx_ HB hx7_2;replace hx7_3:=zx_ HB hx7_3;replace hx7_4:=zx_ HB hx7_4;replace hx7_5:=zx_ HB hx7_5;replace hx7_6:=zx_ HB hx7_6;replace hx7_7:=zx_ HB hx7_7;replace hx7_8:=zx_ HB hx7_8;replace hx7_9:=zx_ HB hx7_9;replace hx7_10:=zx_ HB hx7_10;replace hx7_11:=zx_ HB hx7_11;replace p7:=eq_true p7;replace q7:=eq_true q7;have p8:0≤(x6_1:Int):=of_decide_eq_true zq_;have q8:x6_1<(l0.length:Int):=of_decide_eq_true zq_;obtain ⟨ad8,e8,hx8_0,hx8_1,hx8_2,hx8_3,hx8_4,hx8_5⟩:=at_T54 HR0.out x6_1 p8 q8;obtain rfl:ad1=ad8:=(by injection e8);replace hx8_0:=zx_ HB hx8_0;replace hx8_1:=zx_ HB hx8_1;replace hx8_2:=zx_ HB hx8_2;replace hx8_3:=zx_ HB hx8_3;replace hx8_4:=zx_ HB hx8_4;replace hx8_5:=zx_ HB hx8_5;replace p8:=eq_true p8;replace q8:=eq_true q8;have p15:0≤(x6_1:Int):=of_decide_eq_true zq_;have q15:x6_1<(l0.length:Int):=of_decide_eq_true zq_;obtain ⟨ad15,e15,hx15_0,hx15_1,hx15_2,hx15_3,hx15_4,hx15_5⟩:=at_T54 HR0.out x6_1 p15 q15;obtain rfl:ad1=ad15:=(by injection e15);replace hx15_0:=zx_ HB hx15_0;replace hx15_1:=zx_ HB hx15_1;replace hx15_2:=zx_ HB hx15_2;replace hx15_3:=zx_ HB hx15_3;replace hx15_4:=zx_ HB hx15_4;replace hx15_5:=zx_ HB hx15_5;replace p15:=eq_true p15;replace q15:=eq_true q15)|((with_reducible refine gate_builtin (b:= .append) (xs:=#[.tmp 43, .tmp 50]) rfl ?_);at_builtin;refine Kd.R_append k37 (w0:=w) w.heap.size rfl (.tmp 43) (.tmp 50) 45 37 (.agg #[(.string ⟨#[]⟩),(.int .i64 0)]) 24 rfl Try.underlying45 info37 rfl (by decide) (by omega) u5 x5_1 (⟨(rd_T54 l0 x6_1).f0,2⟩:S37) [.string ((rd_T54 l0 x6_1).f0), .int .i64 2] (fun _=>True) (fun _=>False) rfl rfl ?aP (fun _ hk=>hk.elim) ?aF ?aO ?aB ?aS ?aL ?_;(case aP=>exact k37_mkM _ _ _ (⟨(rd_T54 l0 x6_1).f0,2⟩:S37));(case aB=>exact (zl0_ HB));(case aF=>exact (fun _ _=>trivial));(case aO=>exact (zr_ HO_5));(case aS=>exact (below_size (zl0_ HB)));(case aL=>have:=LMc15.out;omega);intro v17 w18 ho hb hg hat;rw [←Ny16.out] at ho;have n0_:=am_ (hb);have n1_:=am_ (ho);clear HB;clear HO_5;have HB:=n0_;have HO18:=n1_;clear n0_ n1_;clear ho hb hg hat;have p19:0≤(t2:Int):=of_decide_eq_true zq_;have q19:t2<(l1.length:Int):=of_decide_eq_true zq_;obtain ⟨ad19,e19,hx19_0,hx19_1,hx19_2,hx19_3,hx19_4,hx19_5,hx19_6,hx19_7,hx19_8,hx19_9,hx19_10,hx19_11⟩:=at_T31 HR1.out t2 p19 q19;obtain rfl:ad7=ad19:=(by injection e19);replace hx19_0:=zx_ HB hx19_0;replace hx19_1:=zx_ HB hx19_1;replace hx19_2:=zx_ HB hx19_2;replace hx19_3:=zx_ HB hx19_3;replace hx19_4:=zx_ HB hx19_4;replace hx19_5:=zx_ HB hx19_5;replace hx19_6:=zx_ HB hx19_6;replace hx19_7:=zx_ HB hx19_7;replace hx19_8:=zx_ HB hx19_8;replace hx19_9:=zx_ HB hx19_9;replace hx19_10:=zx_ HB hx19_10;replace hx19_11:=zx_ HB hx19_11;replace p19:=eq_true p19;replace q19:=eq_true q19;have p20:0≤(x6_1:Int):=of_decide_eq_true zq_;have q20:x6_1<(l0.length:Int):=of_decide_eq_true zq_;obtain ⟨ad20,e20,hx20_0,hx20_1,hx20_2,hx20_3,hx20_4,hx20_5⟩:=at_T54 HR0.out x6_1 p20 q20;obtain rfl:ad1=ad20:=(by injection e20);replace hx20_0:=zx_ HB hx20_0;replace hx20_1:=zx_ HB hx20_1;replace hx20_2:=zx_ HB hx20_2;replace hx20_3:=zx_ HB hx20_3;replace hx20_4:=zx_ HB hx20_4;replace hx20_5:=zx_ HB hx20_5;replace p20:=eq_true p20;replace q20:=eq_true q20;have p21:0≤(x6_1:Int):=of_decide_eq_true zq_;have q21:x6_1<(l0.length:Int):=of_decide_eq_true zq_;obtain ⟨ad21,e21,hx21_0,hx21_1,hx21_2,hx21_3,hx21_4,hx21_5⟩:=at_T54 HR0.out x6_1 p21 q21;obtain rfl:ad1=ad21:=(by injection e21);replace hx21_0:=zx_ HB hx21_0;replace hx21_1:=zx_ HB hx21_1;replace hx21_2:=zx_ HB hx21_2;replace hx21_3:=zx_ HB hx21_3;replace hx21_4:=zx_ HB hx21_4;replace hx21_5:=zx_ HB hx21_5;replace p21:=eq_true p21;replace q21:=eq_true q21)|((with_reducible refine gate_builtin (b:= .append) (xs:=#[.tmp 63, .tmp 70]) rfl ?_);at_builtin;refine Kd.R_append k37 (w0:=w) w.heap.size rfl (.tmp 63) (.tmp 70) 45 37 (.agg #[(.string ⟨#[]⟩),(.int .i64 0)]) 24 rfl Try.underlying45 info37 rfl (by decide) (by omega) v17 y16 (⟨(rd_T54 l0 x6_1).f0,3⟩:S37) [.string ((rd_T54 l0 x6_1).f0), .int .i64 3] (fun _=>True) (fun _=>False) rfl rfl ?aP (fun _ hk=>hk.elim) ?aF ?aO ?aB ?aS ?aL ?_;(case aP=>exact k37_mkM _ _ _ (⟨(rd_T54 l0 x6_1).f0,3⟩:S37));(case aB=>exact (zl0_ HB));(case aF=>exact (fun _ _=>trivial));(case aO=>exact (zr_ HO18));(case aS=>exact (below_size (zl0_ HB)));(case aL=>have:=LMc17.out;omega);intro v23 w19 ho hb hg hat;rw [←Ny22.out] at ho;have n0_:=am_ (hb);have n1_:=am_ (ho);clear HB;clear HO18;have HB:=n0_;have HO24:=n1_;clear n0_ n1_;clear ho hb hg hat)))
          go_roundg k1
          case measure=>have:=HK1.out;omega
          case rel=>exact ⟨(y22),(wrap64 (x6_1+1)),(by first|rfl|(simp;done)|(simp [*];done)),H',⟨by have:=HK1.out;omega⟩,⟨by (with_reducible repeat (first|apply Kd.R_alloc|apply Kd.R_drewN|apply Kd.R_drew));exact HO24.out⟩,⟨zl0_ HB⟩⟩
         rw [if_neg c17] at H
         exact absurd H (by simp)
        rw [if_neg c16] at H
        have c16b0:(!(((rd_T31 l1 t2).f2.f0)==((rd_T54 l0 x6_1).f2.f0))||(!(((rd_T31 l1 t2).f2.f1)==((rd_T54 l0 x6_1).f2.f1))||(!(((rd_T31 l1 t2).f2.f2)==((rd_T54 l0 x6_1).f2.f2)))))=false:=by simpa using c16
        clear c16
        have H':=Aside0.mk H
        clear H
        have p1:0≤(x6_1:Int):=of_decide_eq_true zq_
        have q1:x6_1<(l0.length:Int):=of_decide_eq_true zq_
        obtain ⟨ad1,e1,hx1_0,hx1_1,hx1_2,hx1_3,hx1_4,hx1_5⟩:=at_T54 HR0.out x6_1 p1 q1
        cases e1
        replace hx1_0:=zx_ HB hx1_0
        replace hx1_1:=zx_ HB hx1_1
        replace hx1_2:=zx_ HB hx1_2
        replace hx1_3:=zx_ HB hx1_3
        replace hx1_4:=zx_ HB hx1_4
        replace hx1_5:=zx_ HB hx1_5
        replace p1:=eq_true p1
        replace q1:=eq_true q1
        go_wp2_with (first|(go_at_call 50;(with_reducible refine (r10_Find.calls k1 _ _ l1 ((rd_T54 l0 x6_1).f0) t2 _ ?side1 ?side2 A5.out).mono ?_);(case side1=>exact zc_ (Kd.C_below HR1.out HB.out));(case side2=>exact HC1.out);rintro e w' ⟨rfl,⟨nd,rfl⟩⟩;(try first|exact ⟨rfl,_,World.drewN_drewN _ _ _⟩|exact ⟨rfl,_,Eq.trans (World.drewN_drewN _ _ _) (congrArg (World.drewN _) (Nat.add_assoc _ _ _))⟩);have p7:0≤(t2:Int):=of_decide_eq_true zq_;have q7:t2<(l1.length:Int):=of_decide_eq_true zq_;obtain ⟨ad7,e7,hx7_0,hx7_1,hx7_2,hx7_3,hx7_4,hx7_5,hx7_6,hx7_7,hx7_8,hx7_9,hx7_10,hx7_11⟩:=at_T31 HR1.out t2 p7 q7;cases e7;replace hx7_0:=zx_ HB hx7_0;replace hx7_1:=zx_ HB hx7_1;replace hx7_2:=zx_ HB hx7_2;replace hx7_3:=zx_ HB hx7_3;replace hx7_4:=zx_ HB hx7_4;replace hx7_5:=zx_ HB hx7_5;replace hx7_6:=zx_ HB hx7_6;replace hx7_7:=zx_ HB hx7_7;replace hx7_8:=zx_ HB hx7_8;replace hx7_9:=zx_ HB hx7_9;replace hx7_10:=zx_ HB hx7_10;replace hx7_11:=zx_ HB hx7_11;replace p7:=eq_true p7;replace q7:=eq_true q7;have p8:0≤(x6_1:Int):=of_decide_eq_true zq_;have q8:x6_1<(l0.length:Int):=of_decide_eq_true zq_;obtain ⟨ad8,e8,hx8_0,hx8_1,hx8_2,hx8_3,hx8_4,hx8_5⟩:=at_T54 HR0.out x6_1 p8 q8;obtain rfl:ad1=ad8:=(by injection e8);replace hx8_0:=zx_ HB hx8_0;replace hx8_1:=zx_ HB hx8_1;replace hx8_2:=zx_ HB hx8_2;replace hx8_3:=zx_ HB hx8_3;replace hx8_4:=zx_ HB hx8_4;replace hx8_5:=zx_ HB hx8_5;replace p8:=eq_true p8;replace q8:=eq_true q8;have p15:0≤(x6_1:Int):=of_decide_eq_true zq_;have q15:x6_1<(l0.length:Int):=of_decide_eq_true zq_;obtain ⟨ad15,e15,hx15_0,hx15_1,hx15_2,hx15_3,hx15_4,hx15_5⟩:=at_T54 HR0.out x6_1 p15 q15;obtain rfl:ad1=ad15:=(by injection e15);replace hx15_0:=zx_ HB hx15_0;replace hx15_1:=zx_ HB hx15_1;replace hx15_2:=zx_ HB hx15_2;replace hx15_3:=zx_ HB hx15_3;replace hx15_4:=zx_ HB hx15_4;replace hx15_5:=zx_ HB hx15_5;replace p15:=eq_true p15;replace q15:=eq_true q15)|((with_reducible refine gate_builtin (b:= .append) (xs:=#[.tmp 43, .tmp 50]) rfl ?_);at_builtin;refine Kd.R_append k37 (w0:=w) w.heap.size rfl (.tmp 43) (.tmp 50) 45 37 (.agg #[(.string ⟨#[]⟩),(.int .i64 0)]) 24 rfl Try.underlying45 info37 rfl (by decide) (by omega) u5 x5_1 (⟨(rd_T54 l0 x6_1).f0,2⟩:S37) [.string ((rd_T54 l0 x6_1).f0), .int .i64 2] (fun _=>True) (fun _=>False) rfl rfl ?aP (fun _ hk=>hk.elim) ?aF ?aO ?aB ?aS ?aL ?_;(case aP=>exact k37_mkM _ _ _ (⟨(rd_T54 l0 x6_1).f0,2⟩:S37));(case aB=>exact (zl0_ HB));(case aF=>exact (fun _ _=>trivial));(case aO=>exact (zr_ HO_5));(case aS=>exact (below_size (zl0_ HB)));(case aL=>have:=LMc15.out;omega);intro v17 w20 ho hb hg hat;rw [←Ny16.out] at ho;have n0_:=am_ (hb);have n1_:=am_ (ho);clear HB;clear HO_5;have HB:=n0_;have HO18:=n1_;clear n0_ n1_;clear ho hb hg hat;have p19:0≤(t2:Int):=of_decide_eq_true zq_;have q19:t2<(l1.length:Int):=of_decide_eq_true zq_;obtain ⟨ad19,e19,hx19_0,hx19_1,hx19_2,hx19_3,hx19_4,hx19_5,hx19_6,hx19_7,hx19_8,hx19_9,hx19_10,hx19_11⟩:=at_T31 HR1.out t2 p19 q19;obtain rfl:ad7=ad19:=(by injection e19);replace hx19_0:=zx_ HB hx19_0;replace hx19_1:=zx_ HB hx19_1;replace hx19_2:=zx_ HB hx19_2;replace hx19_3:=zx_ HB hx19_3;replace hx19_4:=zx_ HB hx19_4;replace hx19_5:=zx_ HB hx19_5;replace hx19_6:=zx_ HB hx19_6;replace hx19_7:=zx_ HB hx19_7;replace hx19_8:=zx_ HB hx19_8;replace hx19_9:=zx_ HB hx19_9;replace hx19_10:=zx_ HB hx19_10;replace hx19_11:=zx_ HB hx19_11;replace p19:=eq_true p19;replace q19:=eq_true q19;have p20:0≤(x6_1:Int):=of_decide_eq_true zq_;have q20:x6_1<(l0.length:Int):=of_decide_eq_true zq_;obtain ⟨ad20,e20,hx20_0,hx20_1,hx20_2,hx20_3,hx20_4,hx20_5⟩:=at_T54 HR0.out x6_1 p20 q20;obtain rfl:ad1=ad20:=(by injection e20);replace hx20_0:=zx_ HB hx20_0;replace hx20_1:=zx_ HB hx20_1;replace hx20_2:=zx_ HB hx20_2;replace hx20_3:=zx_ HB hx20_3;replace hx20_4:=zx_ HB hx20_4;replace hx20_5:=zx_ HB hx20_5;replace p20:=eq_true p20;replace q20:=eq_true q20))
        repeat (go_quiet (first|(go_at_call 50;(with_reducible refine (r10_Find.calls k1 _ _ l1 ((rd_T54 l0 x6_1).f0) t2 _ ?side1 ?side2 A5.out).mono ?_);(case side1=>exact zc_ (Kd.C_below HR1.out HB.out));(case side2=>exact HC1.out);rintro e w' ⟨rfl,⟨nd,rfl⟩⟩;(try first|exact ⟨rfl,_,World.drewN_drewN _ _ _⟩|exact ⟨rfl,_,Eq.trans (World.drewN_drewN _ _ _) (congrArg (World.drewN _) (Nat.add_assoc _ _ _))⟩);have p7:0≤(t2:Int):=of_decide_eq_true zq_;have q7:t2<(l1.length:Int):=of_decide_eq_true zq_;obtain ⟨ad7,e7,hx7_0,hx7_1,hx7_2,hx7_3,hx7_4,hx7_5,hx7_6,hx7_7,hx7_8,hx7_9,hx7_10,hx7_11⟩:=at_T31 HR1.out t2 p7 q7;cases e7;replace hx7_0:=zx_ HB hx7_0;replace hx7_1:=zx_ HB hx7_1;replace hx7_2:=zx_ HB hx7_2;replace hx7_3:=zx_ HB hx7_3;replace hx7_4:=zx_ HB hx7_4;replace hx7_5:=zx_ HB hx7_5;replace hx7_6:=zx_ HB hx7_6;replace hx7_7:=zx_ HB hx7_7;replace hx7_8:=zx_ HB hx7_8;replace hx7_9:=zx_ HB hx7_9;replace hx7_10:=zx_ HB hx7_10;replace hx7_11:=zx_ HB hx7_11;replace p7:=eq_true p7;replace q7:=eq_true q7;have p8:0≤(x6_1:Int):=of_decide_eq_true zq_;have q8:x6_1<(l0.length:Int):=of_decide_eq_true zq_;obtain ⟨ad8,e8,hx8_0,hx8_1,hx8_2,hx8_3,hx8_4,hx8_5⟩:=at_T54 HR0.out x6_1 p8 q8;obtain rfl:ad1=ad8:=(by injection e8);replace hx8_0:=zx_ HB hx8_0;replace hx8_1:=zx_ HB hx8_1;replace hx8_2:=zx_ HB hx8_2;replace hx8_3:=zx_ HB hx8_3;replace hx8_4:=zx_ HB hx8_4;replace hx8_5:=zx_ HB hx8_5;replace p8:=eq_true p8;replace q8:=eq_true q8;have p15:0≤(x6_1:Int):=of_decide_eq_true zq_;have q15:x6_1<(l0.length:Int):=of_decide_eq_true zq_;obtain ⟨ad15,e15,hx15_0,hx15_1,hx15_2,hx15_3,hx15_4,hx15_5⟩:=at_T54 HR0.out x6_1 p15 q15;obtain rfl:ad1=ad15:=(by injection e15);replace hx15_0:=zx_ HB hx15_0;replace hx15_1:=zx_ HB hx15_1;replace hx15_2:=zx_ HB hx15_2;replace hx15_3:=zx_ HB hx15_3;replace hx15_4:=zx_ HB hx15_4;replace hx15_5:=zx_ HB hx15_5;replace p15:=eq_true p15;replace q15:=eq_true q15)|((with_reducible refine gate_builtin (b:= .append) (xs:=#[.tmp 43, .tmp 50]) rfl ?_);at_builtin;refine Kd.R_append k37 (w0:=w) w.heap.size rfl (.tmp 43) (.tmp 50) 45 37 (.agg #[(.string ⟨#[]⟩),(.int .i64 0)]) 24 rfl Try.underlying45 info37 rfl (by decide) (by omega) u5 x5_1 (⟨(rd_T54 l0 x6_1).f0,2⟩:S37) [.string ((rd_T54 l0 x6_1).f0), .int .i64 2] (fun _=>True) (fun _=>False) rfl rfl ?aP (fun _ hk=>hk.elim) ?aF ?aO ?aB ?aS ?aL ?_;(case aP=>exact k37_mkM _ _ _ (⟨(rd_T54 l0 x6_1).f0,2⟩:S37));(case aB=>exact (zl0_ HB));(case aF=>exact (fun _ _=>trivial));(case aO=>exact (zr_ HO_5));(case aS=>exact (below_size (zl0_ HB)));(case aL=>have:=LMc15.out;omega);intro v17 w20 ho hb hg hat;rw [←Ny16.out] at ho;have n0_:=am_ (hb);have n1_:=am_ (ho);clear HB;clear HO_5;have HB:=n0_;have HO18:=n1_;clear n0_ n1_;clear ho hb hg hat;have p19:0≤(t2:Int):=of_decide_eq_true zq_;have q19:t2<(l1.length:Int):=of_decide_eq_true zq_;obtain ⟨ad19,e19,hx19_0,hx19_1,hx19_2,hx19_3,hx19_4,hx19_5,hx19_6,hx19_7,hx19_8,hx19_9,hx19_10,hx19_11⟩:=at_T31 HR1.out t2 p19 q19;obtain rfl:ad7=ad19:=(by injection e19);replace hx19_0:=zx_ HB hx19_0;replace hx19_1:=zx_ HB hx19_1;replace hx19_2:=zx_ HB hx19_2;replace hx19_3:=zx_ HB hx19_3;replace hx19_4:=zx_ HB hx19_4;replace hx19_5:=zx_ HB hx19_5;replace hx19_6:=zx_ HB hx19_6;replace hx19_7:=zx_ HB hx19_7;replace hx19_8:=zx_ HB hx19_8;replace hx19_9:=zx_ HB hx19_9;replace hx19_10:=zx_ HB hx19_10;replace hx19_11:=zx_ HB hx19_11;replace p19:=eq_true p19;replace q19:=eq_true q19;have p20:0≤(x6_1:Int):=of_decide_eq_true zq_;have q20:x6_1<(l0.length:Int):=of_decide_eq_true zq_;obtain ⟨ad20,e20,hx20_0,hx20_1,hx20_2,hx20_3,hx20_4,hx20_5⟩:=at_T54 HR0.out x6_1 p20 q20;obtain rfl:ad1=ad20:=(by injection e20);replace hx20_0:=zx_ HB hx20_0;replace hx20_1:=zx_ HB hx20_1;replace hx20_2:=zx_ HB hx20_2;replace hx20_3:=zx_ HB hx20_3;replace hx20_4:=zx_ HB hx20_4;replace hx20_5:=zx_ HB hx20_5;replace p20:=eq_true p20;replace q20:=eq_true q20));try go_wp2_with (first|(go_at_call 50;(with_reducible refine (r10_Find.calls k1 _ _ l1 ((rd_T54 l0 x6_1).f0) t2 _ ?side1 ?side2 A5.out).mono ?_);(case side1=>exact zc_ (Kd.C_below HR1.out HB.out));(case side2=>exact HC1.out);rintro e w' ⟨rfl,⟨nd,rfl⟩⟩;(try first|exact ⟨rfl,_,World.drewN_drewN _ _ _⟩|exact ⟨rfl,_,Eq.trans (World.drewN_drewN _ _ _) (congrArg (World.drewN _) (Nat.add_assoc _ _ _))⟩);have p7:0≤(t2:Int):=of_decide_eq_true zq_;have q7:t2<(l1.length:Int):=of_decide_eq_true zq_;obtain ⟨ad7,e7,hx7_0,hx7_1,hx7_2,hx7_3,hx7_4,hx7_5,hx7_6,hx7_7,hx7_8,hx7_9,hx7_10,hx7_11⟩:=at_T31 HR1.out t2 p7 q7;cases e7;replace hx7_0:=zx_ HB hx7_0;replace hx7_1:=zx_ HB hx7_1;replace hx7_2:=zx_ HB hx7_2;replace hx7_3:=zx_ HB hx7_3;replace hx7_4:=zx_ HB hx7_4;replace hx7_5:=zx_ HB hx7_5;replace hx7_6:=zx_ HB hx7_6;replace hx7_7:=zx_ HB hx7_7;replace hx7_8:=zx_ HB hx7_8;replace hx7_9:=zx_ HB hx7_9;replace hx7_10:=zx_ HB hx7_10;replace hx7_11:=zx_ HB hx7_11;replace p7:=eq_true p7;replace q7:=eq_true q7;have p8:0≤(x6_1:Int):=of_decide_eq_true zq_;have q8:x6_1<(l0.length:Int):=of_decide_eq_true zq_;obtain ⟨ad8,e8,hx8_0,hx8_1,hx8_2,hx8_3,hx8_4,hx8_5⟩:=at_T54 HR0.out x6_1 p8 q8;obtain rfl:ad1=ad8:=(by injection e8);replace hx8_0:=zx_ HB hx8_0;replace hx8_1:=zx_ HB hx8_1;replace hx8_2:=zx_ HB hx8_2;replace hx8_3:=zx_ HB hx8_3;replace hx8_4:=zx_ HB hx8_4;replace hx8_5:=zx_ HB hx8_5;replace p8:=eq_true p8;replace q8:=eq_true q8;have p15:0≤(x6_1:Int):=of_decide_eq_true zq_;have q15:x6_1<(l0.length:Int):=of_decide_eq_true zq_;obtain ⟨ad15,e15,hx15_0,hx15_1,hx15_2,hx15_3,hx15_4,hx15_5⟩:=at_T54 HR0.out x6_1 p15 q15;obtain rfl:ad1=ad15:=(by injection e15);replace hx15_0:=zx_ HB hx15_0;replace hx15_1:=zx_ HB hx15_1;replace hx15_2:=zx_ HB hx15_2;replace hx15_3:=zx_ HB hx15_3;replace hx15_4:=zx_ HB hx15_4;replace hx15_5:=zx_ HB hx15_5;replace p15:=eq_true p15;replace q15:=eq_true q15)|((with_reducible refine gate_builtin (b:= .append) (xs:=#[.tmp 43, .tmp 50]) rfl ?_);at_builtin;refine Kd.R_append k37 (w0:=w) w.heap.size rfl (.tmp 43) (.tmp 50) 45 37 (.agg #[(.string ⟨#[]⟩),(.int .i64 0)]) 24 rfl Try.underlying45 info37 rfl (by decide) (by omega) u5 x5_1 (⟨(rd_T54 l0 x6_1).f0,2⟩:S37) [.string ((rd_T54 l0 x6_1).f0), .int .i64 2] (fun _=>True) (fun _=>False) rfl rfl ?aP (fun _ hk=>hk.elim) ?aF ?aO ?aB ?aS ?aL ?_;(case aP=>exact k37_mkM _ _ _ (⟨(rd_T54 l0 x6_1).f0,2⟩:S37));(case aB=>exact (zl0_ HB));(case aF=>exact (fun _ _=>trivial));(case aO=>exact (zr_ HO_5));(case aS=>exact (below_size (zl0_ HB)));(case aL=>have:=LMc15.out;omega);intro v17 w20 ho hb hg hat;rw [←Ny16.out] at ho;have n0_:=am_ (hb);have n1_:=am_ (ho);clear HB;clear HO_5;have HB:=n0_;have HO18:=n1_;clear n0_ n1_;clear ho hb hg hat;have p19:0≤(t2:Int):=of_decide_eq_true zq_;have q19:t2<(l1.length:Int):=of_decide_eq_true zq_;obtain ⟨ad19,e19,hx19_0,hx19_1,hx19_2,hx19_3,hx19_4,hx19_5,hx19_6,hx19_7,hx19_8,hx19_9,hx19_10,hx19_11⟩:=at_T31 HR1.out t2 p19 q19;obtain rfl:ad7=ad19:=(by injection e19);replace hx19_0:=zx_ HB hx19_0;replace hx19_1:=zx_ HB hx19_1;replace hx19_2:=zx_ HB hx19_2;replace hx19_3:=zx_ HB hx19_3;replace hx19_4:=zx_ HB hx19_4;replace hx19_5:=zx_ HB hx19_5;replace hx19_6:=zx_ HB hx19_6;replace hx19_7:=zx_ HB hx19_7;replace hx19_8:=zx_ HB hx19_8;replace hx19_9:=zx_ HB hx19_9;replace hx19_10:=zx_ HB hx19_10;replace hx19_11:=zx_ HB hx19_11;replace p19:=eq_true p19;replace q19:=eq_true q19;have p20:0≤(x6_1:Int):=of_decide_eq_true zq_;have q20:x6_1<(l0.length:Int):=of_decide_eq_true zq_;obtain ⟨ad20,e20,hx20_0,hx20_1,hx20_2,hx20_3,hx20_4,hx20_5⟩:=at_T54 HR0.out x6_1 p20 q20;obtain rfl:ad1=ad20:=(by injection e20);replace hx20_0:=zx_ HB hx20_0;replace hx20_1:=zx_ HB hx20_1;replace hx20_2:=zx_ HB hx20_2;replace hx20_3:=zx_ HB hx20_3;replace hx20_4:=zx_ HB hx20_4;replace hx20_5:=zx_ HB hx20_5;replace p20:=eq_true p20;replace q20:=eq_true q20)))
        go_roundg k1
        case measure=>have:=HK1.out;omega
        case rel=>exact ⟨(y16),(wrap64 (x6_1+1)),(by first|rfl|(simp;done)|(simp [*];done)),H',⟨by have:=HK1.out;omega⟩,⟨by (with_reducible repeat (first|apply Kd.R_alloc|apply Kd.R_drewN|apply Kd.R_drew));exact HO18.out⟩,⟨zl0_ HB⟩⟩
       rw [if_neg c15] at H
       exact absurd H (by simp)
      rw [if_neg c10] at H
      exact absurd H (by simp)
     rw [if_neg c9] at H
     exact absurd H (by simp)
    rw [if_neg c4] at H
    exact absurd H (by simp)
   rw [if_neg c3] at H
   have c3b0:decide (x6_1<(l0.length:Int))=false:=decide_eq_false c3
   clear c3
   obtain rfl:=Option.some.inj H
   go_wp2
   repeat (go_quiet (fail);try go_wp2)
   go_ret
   exact ⟨_,by first|rfl|(simp [errW_none,errW_some]<;>rfl)|(simp [*,errW_none,errW_some]<;>rfl),by (with_reducible repeat (first|apply Kd.R_alloc|apply Kd.R_drewN|apply Kd.R_drew));exact HO_5.out,zl0_ HB⟩

theorem eqA54 (d:Nat) (w:World) (x0 y0:ByteArray) (x1 y1:ByteArray) (x2 y2:Int) (x3 y3:Int) (x4 y4:Int) (x5 y5:Int):
  (Op.equalIn (d+3) 54 (.agg #[.string x0, .string x1, .int .i64 x2, .int .i64 x3, .int .i64 x4, .int .i64 x5]) (.agg #[.string y0, .string y1, .int .i64 y2, .int .i64 y3, .int .i64 y4, .int .i64 y5])).run Try.prog w= .ok (x0.toList==y0.toList && (x1.toList==y1.toList && ((x2==y2 && (x3==y3 && (x4==y4))) && (x5==y5)))) w:=by
 refine eqA_of Try.underlying54 (by kernel_rfl) ?_
 refine eqf_cons (by rfl) (by go_simp;rfl) (by go_simp;rfl) (by go_simp) ?_
 refine eqf_cons (by rfl) (by go_simp;rfl) (by go_simp;rfl) (by go_simp) ?_
 refine eqf_cons (by rfl) (by go_simp) (by go_simp) (eqA27 (d+0) w _ _ _ _ _ _) ?_
 exact eqf_last (by rfl) (by go_simp;rfl) (by go_simp;rfl) (by go_simp)
attribute [local go_sem high] eqA54
def r16_SameMarks.l0:Nat→List (S54)→List (S54)→Int→Option (Bool)
 |0,_,_,_=>none
 |k+1,x0,x1,x5=>if x5<(x0.length:Int) then (if 0≤x5 then (if x5<(x1.length:Int) then (if (!((((rd_T54 x0 x5).f0).toList)==(((rd_T54 x1 x5).f0).toList))||(!((((rd_T54 x0 x5).f1).toList)==(((rd_T54 x1 x5).f1).toList))||((!(((rd_T54 x0 x5).f2.f0)==((rd_T54 x1 x5).f2.f0))||(!(((rd_T54 x0 x5).f2.f1)==((rd_T54 x1 x5).f2.f1))||(!(((rd_T54 x0 x5).f2.f2)==((rd_T54 x1 x5).f2.f2)))))||(!(((rd_T54 x0 x5).f3)==((rd_T54 x1 x5).f3))))))=true then (some false) else (r16_SameMarks.l0 k x0 x1 (wrap64 (x5+1)))) else (none)) else (none)) else (some true)
def r16_SameMarks.f (k:Nat) (l0:List (S54)) (l1:List (S54)):Option (Bool):=if (l0.length:Int)=(l1.length:Int) then (r16_SameMarks.l0 k l0 l1 0) else (some false)
theorem r16_SameMarks.mono_l: ∀k,(∀y0 y1 y2,LeO (r16_SameMarks.l0 k y0 y1 y2) (r16_SameMarks.l0 (k+1) y0 y1 y2))
 |0=>fun _ _ _ r h=>by simp [r16_SameMarks.l0] at h
 |k+1=>by
  have ih0:=r16_SameMarks.mono_l k
  intro y0 y1 y2
  unfold r16_SameMarks.l0
  repeat' first
  |(with_reducible exact ih0 _ _ _)
  |(with_reducible exact LeO.refl _)
  |(with_reducible exact LeO.none _)
  |(with_reducible refine LeO.ite ?_ ?_)
  |(with_reducible refine LeO.bind ?_ (fun _=> ?_))
  |exact ih0 _ _ _
  |exact LeO.none _
  |refine LeO.ite ?_ ?_
  |refine LeO.bind ?_ (fun _=> ?_)
theorem r16_SameMarks.mono: ∀a0 a1 k,LeO (r16_SameMarks.f k a0 a1) (r16_SameMarks.f (k+1) a0 a1):=by
 intro a0 a1 k
 have ih0:=r16_SameMarks.mono_l k
 unfold r16_SameMarks.f
 repeat' first
  |(with_reducible exact ih0 _ _ _)
  |(with_reducible exact LeO.refl _)
  |(with_reducible exact LeO.none _)
  |(with_reducible refine LeO.ite ?_ ?_)
  |(with_reducible refine LeO.bind ?_ (fun _=> ?_))
  |exact ih0 _ _ _
  |exact LeO.none _
  |refine LeO.ite ?_ ?_
  |refine LeO.bind ?_ (fun _=> ?_)
set_option maxHeartbeats 8000000 in
set_option maxRecDepth 100000 in
theorem r16_SameMarks.calls (k:Nat) (A0:Option Addr) (c0:Nat) (l0:List (S54)) (A1:Option Addr) (c1:Nat) (l1:List (S54)) (r:Bool) (w:World) (hr0:Kd.C k54 w A0 l0.length l0) (hc0:l0.length≤c0) (hr1:Kd.C k54 w A1 l1.length l1) (hc1:l1.length≤c1) (h:r16_SameMarks.f k l0 l1=some r):
  Calls Try.prog 45 #[.slice A0 l0.length c0, .slice A1 l1.length c1] w fun e w'=>e= .returned (.bool r)∧Drawn0 w w':=by
 have hu54:=Try.underlying54
 have HR0:=Aside0.mk hr0
 have HC0:=Aside0.mk hc0
 clear hr0 hc0
 have HR1:=Aside0.mk hr1
 have HC1:=Aside0.mk hc1
 clear hr1 hc1
 have H:(if (l0.length:Int)=(l1.length:Int) then (r16_SameMarks.l0 k l0 l1 0) else (some false))=some r:=h
 clear h
 by_cases c3:(l0.length:Int)=(l1.length:Int)
 ·rw [if_pos c3] at H
  have c3b0:((l0.length:Int)==(l1.length:Int))=true:=beq_iff_eq.mpr c3
  have c3b1:((l0.length:Int) !=(l1.length:Int))=false:=bne_eq_false_iff_eq.mpr c3
  have c3b2:(l0.length==l1.length)=true:=by first|simpa using c3|(simp at c3 ⊢;omega)
  clear c3
  have H':=Aside0.mk H
  clear H
  go_enter Try.func45,Try.ntmps45
  go_wp2
  repeat (go_quiet (fail);try go_wp2)
  go_loopg [5] k (fun kq v5 w'=> ∃(x5_1:Int),v5= .int .i64 x5_1∧Aside0 (r16_SameMarks.l0 kq l0 l1 x5_1=some r)∧Aside0 (kq≤k)∧Drawn0 w w')
  case atStart=>exact ⟨(0),(by first|rfl|(simp;done)|(simp [*];done)),H',⟨Nat.le_refl _⟩,by repeat (first|exact Drawn0.refl _|apply Drawn0.step)⟩
  case round=>
   clear H'
   try clear c1
   try clear p2
   try clear c3
   try clear c3b0
   try clear c3b1
   try clear c3b2
   obtain ⟨x5_1,rfl,HA,HK1,⟨m1,rfl⟩⟩:=hrel
   cases gk with
   |zero=>exact absurd HA.out (by simp [r16_SameMarks.l0])
   |succ k1=>
    have H:=HA.out
    clear HA
    simp only [r16_SameMarks.l0] at H
    by_cases c4:x5_1<(l0.length:Int)
    ·rw [if_pos c4] at H
     have c4b0:decide (x5_1<(l0.length:Int))=true:=decide_eq_true c4
     clear c4
     by_cases c5:0≤x5_1
     ·rw [if_pos c5] at H
      have c5b0:decide (0≤x5_1)=true:=decide_eq_true c5
      clear c5
      by_cases c6:x5_1<(l1.length:Int)
      ·rw [if_pos c6] at H
       have c6b0:decide (x5_1<(l1.length:Int))=true:=decide_eq_true c6
       clear c6
       by_cases c7:(!((((rd_T54 l0 x5_1).f0).toList)==(((rd_T54 l1 x5_1).f0).toList))||(!((((rd_T54 l0 x5_1).f1).toList)==(((rd_T54 l1 x5_1).f1).toList))||((!(((rd_T54 l0 x5_1).f2.f0)==((rd_T54 l1 x5_1).f2.f0))||(!(((rd_T54 l0 x5_1).f2.f1)==((rd_T54 l1 x5_1).f2.f1))||(!(((rd_T54 l0 x5_1).f2.f2)==((rd_T54 l1 x5_1).f2.f2)))))||(!(((rd_T54 l0 x5_1).f3)==((rd_T54 l1 x5_1).f3))))))=true
       ·rw [if_pos c7] at H
        have c7b0:(!((((rd_T54 l0 x5_1).f0).toList)==(((rd_T54 l1 x5_1).f0).toList))||(!((((rd_T54 l0 x5_1).f1).toList)==(((rd_T54 l1 x5_1).f1).toList))||((!(((rd_T54 l0 x5_1).f2.f0)==((rd_T54 l1 x5_1).f2.f0))||(!(((rd_T54 l0 x5_1).f2.f1)==((rd_T54 l1 x5_1).f2.f1))||(!(((rd_T54 l0 x5_1).f2.f2)==((rd_T54 l1 x5_1).f2.f2)))))||(!(((rd_T54 l0 x5_1).f3)==((rd_T54 l1 x5_1).f3))))))=true:=c7
        clear c7
        obtain rfl:=Option.some.inj H
        have p1:0≤(x5_1:Int):=of_decide_eq_true zq_
        have q1:x5_1<(l0.length:Int):=of_decide_eq_true zq_
        obtain ⟨ad1,e1,hx1_0,hx1_1,hx1_2,hx1_3,hx1_4,hx1_5⟩:=at_T54 HR0.out x5_1 p1 q1
        cases e1
        replace p1:=eq_true p1
        replace q1:=eq_true q1
        have p2:0≤(x5_1:Int):=of_decide_eq_true zq_
        have q2:x5_1<(l1.length:Int):=of_decide_eq_true zq_
        obtain ⟨ad2,e2,hx2_0,hx2_1,hx2_2,hx2_3,hx2_4,hx2_5⟩:=at_T54 HR1.out x5_1 p2 q2
        cases e2
        replace p2:=eq_true p2
        replace q2:=eq_true q2
        go_wp2
        repeat (go_quiet (fail);try go_wp2)
        go_ret
        exact ⟨by first|rfl|(simp;done)|(simp [*];done),by repeat (first|exact Drawn0.refl _|apply Drawn0.step)⟩
       rw [if_neg c7] at H
       have c7b0:(!((((rd_T54 l0 x5_1).f0).toList)==(((rd_T54 l1 x5_1).f0).toList))||(!((((rd_T54 l0 x5_1).f1).toList)==(((rd_T54 l1 x5_1).f1).toList))||((!(((rd_T54 l0 x5_1).f2.f0)==((rd_T54 l1 x5_1).f2.f0))||(!(((rd_T54 l0 x5_1).f2.f1)==((rd_T54 l1 x5_1).f2.f1))||(!(((rd_T54 l0 x5_1).f2.f2)==((rd_T54 l1 x5_1).f2.f2)))))||(!(((rd_T54 l0 x5_1).f3)==((rd_T54 l1 x5_1).f3))))))=false:=by simpa using c7
       clear c7
       have H':=Aside0.mk H
       clear H
       have p1:0≤(x5_1:Int):=of_decide_eq_true zq_
       have q1:x5_1<(l0.length:Int):=of_decide_eq_true zq_
       obtain ⟨ad1,e1,hx1_0,hx1_1,hx1_2,hx1_3,hx1_4,hx1_5⟩:=at_T54 HR0.out x5_1 p1 q1
       cases e1
       replace p1:=eq_true p1
       replace q1:=eq_true q1
       have p2:0≤(x5_1:Int):=of_decide_eq_true zq_
       have q2:x5_1<(l1.length:Int):=of_decide_eq_true zq_
       obtain ⟨ad2,e2,hx2_0,hx2_1,hx2_2,hx2_3,hx2_4,hx2_5⟩:=at_T54 HR1.out x5_1 p2 q2
       cases e2
       replace p2:=eq_true p2
       replace q2:=eq_true q2
       go_wp2
       repeat (go_quiet (fail);try go_wp2)
       go_roundg k1
       case measure=>have:=HK1.out;omega
       case rel=>exact ⟨(wrap64 (x5_1+1)),(by first|rfl|(simp;done)|(simp [*];done)),H',⟨by have:=HK1.out;omega⟩,by repeat (first|exact Drawn0.refl _|apply Drawn0.step)⟩
      rw [if_neg c6] at H
      exact absurd H (by simp)
     rw [if_neg c5] at H
     exact absurd H (by simp)
    rw [if_neg c4] at H
    have c4b0:decide (x5_1<(l0.length:Int))=false:=decide_eq_false c4
    clear c4
    obtain rfl:=Option.some.inj H
    go_wp2
    repeat (go_quiet (fail);try go_wp2)
    go_ret
    exact ⟨by first|rfl|(simp;done)|(simp [*];done),by repeat (first|exact Drawn0.refl _|apply Drawn0.step)⟩
 rw [if_neg c3] at H
 have c3b0:((l0.length:Int)==(l1.length:Int))=false:=beq_eq_false_iff_ne.mpr c3
 have c3b1:((l0.length:Int) !=(l1.length:Int))=true:=bne_iff_ne.mpr c3
 have c3b2:(l0.length==l1.length)=false:=by first|simpa using c3|(simp at c3 ⊢;omega)
 obtain rfl:=Option.some.inj H
 go_enter Try.func45,Try.ntmps45
 go_wp2
 repeat (go_quiet (fail);try go_wp2)
 go_ret
 exact ⟨by first|rfl|(simp;done)|(simp [*];done),by repeat (first|exact Drawn0.refl _|apply Drawn0.step)⟩

def drift_Fresh.l0:Nat→List (S31)→List (S54)→List (S54)→Int→Int→Option ((List (S54)))
 |0,_,_,_,_,_=>none
 |k+1,x1,x5,x10,x11,x12=>if x12<x11 then (if 0≤x12 then (if x12<(x10.length:Int) then ((drift_live_find.f x1 ((rd_T54 x10 x12).f0)).bind fun bt3=>(if bt3.2.2.2.2.2.2.2.2.2.2.2.2=true then (if x5.length<2199023255552 then (drift_Fresh.l0 k x1 (x5++ [(⟨bt3.1,bt3.2.1,(⟨bt3.2.2.1,bt3.2.2.2.1,bt3.2.2.2.2.1⟩:S27),bt3.2.2.2.2.2.2.2.2.2.2.2.1⟩:S54)]) x10 x11 (wrap64 (x12+1))) else (none)) else (drift_Fresh.l0 k x1 x5 x10 x11 (wrap64 (x12+1))))) else (none)) else (none)) else (some x5)
def drift_Fresh.f (k:Nat) (l0:List (S54)) (l1:List (S31)):Option ((List (S54))):=drift_Fresh.l0 k l1 ([]:List (S54)) l0 (l0.length:Int) 0
theorem drift_Fresh.mono_l: ∀k,(∀y0 y1 y2 y3 y4,LeO (drift_Fresh.l0 k y0 y1 y2 y3 y4) (drift_Fresh.l0 (k+1) y0 y1 y2 y3 y4))
 |0=>fun _ _ _ _ _ r h=>by simp [drift_Fresh.l0] at h
 |k+1=>by
  have ih0:=drift_Fresh.mono_l k
  intro y0 y1 y2 y3 y4
  unfold drift_Fresh.l0
  repeat' first
  |(with_reducible exact ih0 _ _ _ _ _)
  |(with_reducible exact LeO.refl _)
  |(with_reducible exact LeO.none _)
  |(with_reducible refine LeO.ite ?_ ?_)
  |(with_reducible refine LeO.bind ?_ (fun _=> ?_))
  |exact ih0 _ _ _ _ _
  |exact LeO.none _
  |refine LeO.ite ?_ ?_
  |refine LeO.bind ?_ (fun _=> ?_)
theorem drift_Fresh.mono: ∀a0 a1 k,LeO (drift_Fresh.f k a0 a1) (drift_Fresh.f (k+1) a0 a1):=by
 intro a0 a1 k
 have ih0:=drift_Fresh.mono_l k
 unfold drift_Fresh.f
 repeat' first
  |(with_reducible exact ih0 _ _ _ _ _)
  |(with_reducible exact LeO.refl _)
  |(with_reducible exact LeO.none _)
  |(with_reducible refine LeO.ite ?_ ?_)
  |(with_reducible refine LeO.bind ?_ (fun _=> ?_))
  |exact ih0 _ _ _ _ _
  |exact LeO.none _
  |refine LeO.ite ?_ ?_
  |refine LeO.bind ?_ (fun _=> ?_)
set_option maxHeartbeats 8000000 in
set_option maxRecDepth 100000 in
theorem drift_Fresh.calls (k:Nat) (A0:Option Addr) (c0:Nat) (l0:List (S54)) (A1:Option Addr) (c1:Nat) (l1:List (S31)) (r:List (S54)) (w:World) (hr0:Kd.C k54 w A0 l0.length l0) (hc0:l0.length≤c0) (hr1:Kd.C k31 w A1 l1.length l1) (hc1:l1.length≤c1) (h:drift_Fresh.f k l0 l1=some r):
  Calls Try.prog 46 #[.slice A0 l0.length c0, .slice A1 l1.length c1] w fun e w'=> ∃v0_:Value,e= .returned (v0_)∧Kd.R k54 54 w' w.heap.size (fun _=>True) v0_ r∧Below w.heap.size w w':=by
 have hu54:=Try.underlying54
 have hu132:=Try.underlying132
 have hu31:=Try.underlying31
 have hu27:=Try.underlying27
 have HR0:=Aside0.mk hr0
 have HC0:=Aside0.mk hc0
 clear hr0 hc0
 have HR1:=Aside0.mk hr1
 have HC1:=Aside0.mk hc1
 clear hr1 hc1
 have HB:=am_ (Below.refl w.heap.size w)
 have H:(drift_Fresh.l0 k l1 ([]:List (S54)) l0 (l0.length:Int) 0)=some r:=h
 clear h
 have H':=Aside0.mk H
 clear H
 go_enter Try.func46,Try.ntmps46
 go_wp2
 go_loopg [5,12] k (fun kq v5 v12 w'=> ∃(x5_1:List (S54)) (x12_1:Int),v12= .int .i64 x12_1∧Aside0 (drift_Fresh.l0 kq l1 x5_1 l0 (l0.length:Int) x12_1=some r)∧Aside0 (kq≤k)∧Aside0 (Kd.R k54 54 w' w.heap.size (fun _=>True) v5 x5_1)∧Aside0 (Below w.heap.size w w'))
 case atStart=>exact ⟨(([]:List (S54))),(0),(by first|rfl|(simp;done)|(simp [*];done)),H',⟨Nat.le_refl _⟩,⟨by first|exact Kd.R_nil _ _ _ _ _|exact Kd.N_nil _ _ _ _ _|exact Kd.V_nil _ _ _ _ _|exact Kd.Q_nil _ _ _ _ _|exact Kd.S_nil _ _ _ _ _⟩,⟨zl0_ HB⟩⟩
 case round=>
  clear H'
  try clear c1
  try clear p2
  obtain ⟨x5_1,x12_1,rfl,HA,HK1,HO_5,HB⟩:=hrel
  cases gk with
  |zero=>exact absurd HA.out (by simp [drift_Fresh.l0])
  |succ k1=>
   have H:=HA.out
   clear HA
   simp only [drift_Fresh.l0] at H
   by_cases c3:x12_1<(l0.length:Int)
   ·rw [if_pos c3] at H
    have c3b0:decide (x12_1<(l0.length:Int))=true:=decide_eq_true c3
    clear c3
    by_cases c4:0≤x12_1
    ·rw [if_pos c4] at H
     have c4b0:decide (0≤x12_1)=true:=decide_eq_true c4
     clear c4
     by_cases c5:x12_1<(l0.length:Int)
     ·rw [if_pos c5] at H
      have c5b0:decide (x12_1<(l0.length:Int))=true:=decide_eq_true c5
      clear c5
      replace H:=Option.bind_eq_some_iff.mp H
      obtain ⟨⟨t3,t4,t5,t6,t7,t8,t9,t10,t11,t12,t13,t14,t15⟩,A60,H⟩:=H
      replace H:(if t15=true then (if x5_1.length<2199023255552 then (drift_Fresh.l0 k1 l1 (x5_1++ [(⟨t3,t4,(⟨t5,t6,t7⟩:S27),t14⟩:S54)]) l0 (l0.length:Int) (wrap64 (x12_1+1))) else (none)) else (drift_Fresh.l0 k1 l1 x5_1 l0 (l0.length:Int) (wrap64 (x12_1+1))))=some r:=H
      have A6:=Aside0.mk A60
      clear A60
      by_cases c7:t15=true
      ·subst c7
       have H1:(if x5_1.length<2199023255552 then (drift_Fresh.l0 k1 l1 (x5_1++ [(⟨t3,t4,(⟨t5,t6,t7⟩:S27),t14⟩:S54)]) l0 (l0.length:Int) (wrap64 (x12_1+1))) else (none))=some r:=by rw [if_pos rfl] at H;exact H
       clear H
       have H:=H1
       clear H1
       by_cases c8:x5_1.length<2199023255552
       ·rw [if_pos c8] at H
        have LMc8:=Aside0.mk c8
        clear c8
        obtain ⟨y17,hy17⟩: ∃y_:List (S54),y_=(x5_1++ [(⟨t3,t4,(⟨t5,t6,t7⟩:S27),t14⟩:S54)]):=⟨_,rfl⟩
        replace H:(drift_Fresh.l0 k1 l1 y17 l0 (l0.length:Int) (wrap64 (x12_1+1)))=some r:=by first|(rw [hy17];with_reducible exact H)|(have H2_:=(Option.bind_some _ _).symm.trans H;rw [hy17];with_reducible exact H2_)|(have H2_:=(Option.bind_some _ _).symm.trans H;with_reducible exact H2_)|with_reducible exact H|(rw [hy17];exact H)|exact H
        have Ny17:=Aside0.mk hy17
        clear hy17
        have H':=Aside0.mk H
        clear H
        have p1:0≤(x12_1:Int):=of_decide_eq_true zq_
        have q1:x12_1<(l0.length:Int):=of_decide_eq_true zq_
        obtain ⟨ad1,e1,hx1_0,hx1_1,hx1_2,hx1_3,hx1_4,hx1_5⟩:=at_T54 HR0.out x12_1 p1 q1
        cases e1
        replace hx1_0:=zx_ HB hx1_0
        replace hx1_1:=zx_ HB hx1_1
        replace hx1_2:=zx_ HB hx1_2
        replace hx1_3:=zx_ HB hx1_3
        replace hx1_4:=zx_ HB hx1_4
        replace hx1_5:=zx_ HB hx1_5
        replace p1:=eq_true p1
        replace q1:=eq_true q1
        go_wp2_with (first|((with_reducible refine gate_dst (N:=7) rfl ?_);refine box_event ?hg (N:=7) ?hd (cs:=#[.string (⟨#[]⟩:ByteArray), .string (⟨#[]⟩:ByteArray), .int .i64 0, .int .i64 0, .int .i64 0, .int .i64 0]) (t:=54) ?hr ?_;(case hd=>rfl);(case hg=>rfl);(case hr=>first|(go_simp;done)|(go_simp;rfl));intro gb2 hg w9 hbox hb;have n0_:=am_ (Kd.R_below (Kd.R_elderB (zr_ HO_5) gb2 (Nat.le_of_eq hg.symm)) hb);have n1_:=am_ (below_step (zl0_ HB) hb);have n2_:=am_ (hbox);have n3_:=am_ ((zg0_ HB hg:w.heap.size≤gb2));have n4_:=am_ ((zg0_ HB hg:w.heap.size≤gb2));clear HO_5;clear HB;have HO_5:=n0_;have HB:=n1_;have BK2:=n2_;have GW2:=n3_;have GE2:=n4_;clear n0_ n1_ n2_ n3_ n4_;clear hb hbox hg;obtain ⟨hcz10_0,hcz10_1,hcz10_2,hcz10_3,hcz10_4,hcz10_5⟩:=x6_ BK2;have hfz10_0:=blk_frozen BK2.out 0;have hfz10_1:=blk_frozen BK2.out 1;have hfz10_2:=blk_frozen BK2.out 2;have hfz10_3:=blk_frozen BK2.out 3;have hfz10_4:=blk_frozen BK2.out 4;have hfz10_5:=blk_frozen BK2.out 5)|((with_reducible refine gate_callee (f:=108) rfl ?_);refine goesL_ (some 21) rfl rfl Try.func108 (by kernel_rfl) rfl #[.agg #[.slice A1 l1.length c1], .string ((rd_T54 l0 x12_1).f0)] rfl zs_ ?_;(with_reducible refine (drift_live_find.calls _ _ l1 ((rd_T54 l0 x12_1).f0) t3 t4 t5 t6 t7 t8 t9 t10 t11 t12 t13 t14 true _ ?side1 ?side2 A6.out).mono ?_);(case side1=>exact Kd.C_below HR1.out (zl1_ HB GE2));(case side2=>exact HC1.out);rintro e w11 ⟨rfl,hb⟩;refine ⟨_,rfl, ?_⟩;have n0_:=am_ (Kd.R_below (by refine zt_ ?_;exact (Kd.R_mono (Kd.R_far (p:=⟨gb2,5,none⟩) (Kd.R_far (p:=⟨gb2,4,none⟩) (Kd.R_far (p:=⟨gb2,3,none⟩) (Kd.R_far (p:=⟨gb2,2,none⟩) (Kd.R_far (p:=⟨gb2,1,none⟩) (Kd.R_far (p:=⟨gb2,0,none⟩) (Kd.R_mono HO_5.out (fun k_ hk=>(⟨hk,hk.2⟩:_∧k_≠gb2))) (fun _ hk=>hk.2) (.string ((rd_T54 l0 x12_1).f0))) (fun _ hk=>hk.2) (.string ((rd_T54 l0 x12_1).f1))) (fun _ hk=>hk.2) (.int .i64 ((rd_T54 l0 x12_1).f2.f0))) (fun _ hk=>hk.2) (.int .i64 ((rd_T54 l0 x12_1).f2.f1))) (fun _ hk=>hk.2) (.int .i64 ((rd_T54 l0 x12_1).f2.f2))) (fun _ hk=>hk.2) (.int .i64 ((rd_T54 l0 x12_1).f3))) (fun _ h_=>h_.1))) hb);have n1_:=am_ (blk_below (g:=gb2) (o:= .cells #[.string ((rd_T54 l0 x12_1).f0), .string ((rd_T54 l0 x12_1).f1), .int .i64 ((rd_T54 l0 x12_1).f2.f0), .int .i64 ((rd_T54 l0 x12_1).f2.f1), .int .i64 ((rd_T54 l0 x12_1).f2.f2), .int .i64 ((rd_T54 l0 x12_1).f3)] 54 (0,0)) (by refine zk_ ?_;refine blk_put (cs:=#[.string ((rd_T54 l0 x12_1).f0), .string ((rd_T54 l0 x12_1).f1), .int .i64 ((rd_T54 l0 x12_1).f2.f0), .int .i64 ((rd_T54 l0 x12_1).f2.f1), .int .i64 ((rd_T54 l0 x12_1).f2.f2), .int .i64 0]) ?_ 5 _ rfl;refine zk_ ?_;refine blk_put (cs:=#[.string ((rd_T54 l0 x12_1).f0), .string ((rd_T54 l0 x12_1).f1), .int .i64 ((rd_T54 l0 x12_1).f2.f0), .int .i64 ((rd_T54 l0 x12_1).f2.f1), .int .i64 0, .int .i64 0]) ?_ 4 _ rfl;refine zk_ ?_;refine blk_put (cs:=#[.string ((rd_T54 l0 x12_1).f0), .string ((rd_T54 l0 x12_1).f1), .int .i64 ((rd_T54 l0 x12_1).f2.f0), .int .i64 0, .int .i64 0, .int .i64 0]) ?_ 3 _ rfl;refine zk_ ?_;refine blk_put (cs:=#[.string ((rd_T54 l0 x12_1).f0), .string ((rd_T54 l0 x12_1).f1), .int .i64 0, .int .i64 0, .int .i64 0, .int .i64 0]) ?_ 2 _ rfl;refine zk_ ?_;refine blk_put (cs:=#[.string ((rd_T54 l0 x12_1).f0), .string (⟨#[]⟩:ByteArray), .int .i64 0, .int .i64 0, .int .i64 0, .int .i64 0]) ?_ 1 _ rfl;refine zk_ ?_;refine blk_put (cs:=#[.string (⟨#[]⟩:ByteArray), .string (⟨#[]⟩:ByteArray), .int .i64 0, .int .i64 0, .int .i64 0, .int .i64 0]) ?_ 0 _ rfl;refine zk_ ?_;exact BK2.out) hb);have n2_:=am_ (below_step (zl1_ HB GE2) hb);clear HO_5;clear BK2;clear HB;have HO_5:=n0_;have BK2:=n1_;have HB:=n2_;clear n0_ n1_ n2_;(try clear hb);(try clear hb2);(try clear hk);(try clear hi))|((with_reducible refine gate_dst (N:=8) rfl ?_);refine box_event ?hg (N:=8) ?hd (cs:=#[.string (⟨#[]⟩:ByteArray), .string (⟨#[]⟩:ByteArray), .int .i64 0, .int .i64 0, .int .i64 0, .int .i64 0, .int .i64 0, .int .i64 0, .int .i64 0, .int .i64 0, .int .i64 0, .int .i64 0]) (t:=31) ?hr ?_;(case hd=>rfl);(case hg=>rfl);(case hr=>first|(go_simp;done)|(go_simp;rfl));intro gb16 hg w12 hbox hb;have n0_:=am_ (Kd.R_below (zr_ HO_5) hb);have n1_:=am_ (blk_below (zb_ BK2) hb);have n2_:=am_ (below_step (zl1_ HB GE2) hb);have n3_:=am_ (hbox);have n4_:=am_ ((zg1_ HB GE2 hg:w.heap.size≤gb16));have n5_:=am_ ((zg1_ HB GE2 hg:w.heap.size≤gb16));have n6_:=am_ ((zn_ BK2 hg:gb2≠gb16));have n7_:=am_ ((zm_ BK2 hg:gb16≠gb2));clear HO_5;clear BK2;clear HB;have HO_5:=n0_;have BK2:=n1_;have HB:=n2_;have BK16:=n3_;have GW16:=n4_;have GE16:=n5_;have NB2_16:=n6_;have NB16_2:=n7_;clear n0_ n1_ n2_ n3_ n4_ n5_ n6_ n7_;clear hb hbox hg;have hnb13:=NB16_2.out;have hnc13:=NB2_16.out;obtain ⟨hcz14_0,hcz14_1,hcz14_2,hcz14_3,hcz14_4,hcz14_5,hcz14_6,hcz14_7,hcz14_8,hcz14_9,hcz14_10,hcz14_11⟩:=x12_ BK16;have hfz14_0:=blk_frozen BK16.out 0;have hfz14_1:=blk_frozen BK16.out 1;have hfz14_2:=blk_frozen BK16.out 2;have hfz14_3:=blk_frozen BK16.out 3;have hfz14_4:=blk_frozen BK16.out 4;have hfz14_5:=blk_frozen BK16.out 5;have hfz14_6:=blk_frozen BK16.out 6;have hfz14_7:=blk_frozen BK16.out 7;have hfz14_8:=blk_frozen BK16.out 8;have hfz14_9:=blk_frozen BK16.out 9;have hfz14_10:=blk_frozen BK16.out 10;have hfz14_11:=blk_frozen BK16.out 11)|((with_reducible refine gate_builtin (b:= .append) (xs:=#[.tmp 25, .tmp 35]) rfl ?_);at_builtin;refine Kd.R_append k54 (w0:=w) w.heap.size rfl (.tmp 25) (.tmp 35) 35 54 (.agg #[(.string ⟨#[]⟩),(.string ⟨#[]⟩),(.int .i64 0),(.int .i64 0),(.int .i64 0),(.int .i64 0)]) 64 rfl Try.underlying35 info54 rfl (by decide) (by omega) u5 x5_1 (⟨t3,t4,(⟨t5,t6,t7⟩:S27),t14⟩:S54) [.string t3, .string t4, .int .i64 t5, .int .i64 t6, .int .i64 t7, .int .i64 t14] (fun k_=>k_≠gb2) (fun _=>False) rfl (by first|(go_simp;done)|(go_simp;rfl)) ?aP (fun _ hk=>hk.elim) ?aF ?aO ?aB ?aS ?aL ?_;(case aP=>exact k54_mkM _ _ _ (⟨t3,t4,(⟨t5,t6,t7⟩:S27),t14⟩:S54));(case aB=>exact (zl2_ HB GE2 GE16));(case aF=>exact (fun k_ hk=>Kd.freshB (g:=gb2) (o:= .cells #[.string ((rd_T54 l0 x12_1).f0), .string ((rd_T54 l0 x12_1).f1), .int .i64 ((rd_T54 l0 x12_1).f2.f0), .int .i64 ((rd_T54 l0 x12_1).f2.f1), .int .i64 ((rd_T54 l0 x12_1).f2.f2), .int .i64 ((rd_T54 l0 x12_1).f3)] 54 (0,0)) (by refine zk_ ?_;refine blk_far ?_ NB2_16.out _;refine zk_ ?_;refine blk_far ?_ NB2_16.out _;refine zk_ ?_;refine blk_far ?_ NB2_16.out _;refine zk_ ?_;refine blk_far ?_ NB2_16.out _;refine zk_ ?_;refine blk_far ?_ NB2_16.out _;refine zk_ ?_;refine blk_far ?_ NB2_16.out _;refine zk_ ?_;refine blk_far ?_ NB2_16.out _;refine zk_ ?_;refine blk_far ?_ NB2_16.out _;refine zk_ ?_;refine blk_far ?_ NB2_16.out _;refine zk_ ?_;refine blk_far ?_ NB2_16.out _;refine zk_ ?_;refine blk_far ?_ NB2_16.out _;refine zk_ ?_;refine blk_far ?_ NB2_16.out _;refine zk_ ?_;exact BK2.out) k_ hk));(case aO=>exact (by refine zt_ ?_;exact Kd.R_mono (Kd.R_far (p:=⟨gb16,11,none⟩) (Kd.R_far (p:=⟨gb16,10,none⟩) (Kd.R_far (p:=⟨gb16,9,none⟩) (Kd.R_far (p:=⟨gb16,8,none⟩) (Kd.R_far (p:=⟨gb16,7,none⟩) (Kd.R_far (p:=⟨gb16,6,none⟩) (Kd.R_far (p:=⟨gb16,5,none⟩) (Kd.R_far (p:=⟨gb16,4,none⟩) (Kd.R_far (p:=⟨gb16,3,none⟩) (Kd.R_far (p:=⟨gb16,2,none⟩) (Kd.R_far (p:=⟨gb16,1,none⟩) (Kd.R_far (p:=⟨gb16,0,none⟩) (Kd.R_types HO_5.out BK16.out (by decide)) (fun _ hk=>hk.2) (.string t3)) (fun _ hk=>hk.2) (.string t4)) (fun _ hk=>hk.2) (.int .i64 t5)) (fun _ hk=>hk.2) (.int .i64 t6)) (fun _ hk=>hk.2) (.int .i64 t7)) (fun _ hk=>hk.2) (.int .i64 t8)) (fun _ hk=>hk.2) (.int .i64 t9)) (fun _ hk=>hk.2) (.int .i64 t10)) (fun _ hk=>hk.2) (.int .i64 t11)) (fun _ hk=>hk.2) (.int .i64 t12)) (fun _ hk=>hk.2) (.int .i64 t13)) (fun _ hk=>hk.2) (.int .i64 t14)) (fun _ hk=>hk.1.2)));(case aS=>exact (below_size (zl2_ HB GE2 GE16)));(case aL=>have:=LMc8.out;omega);intro v18 w15 ho hb hg hat;rw [←Ny17.out] at ho;have n0_:=am_ (blk_grown (g:=gb2) (o:= .cells #[.string ((rd_T54 l0 x12_1).f0), .string ((rd_T54 l0 x12_1).f1), .int .i64 ((rd_T54 l0 x12_1).f2.f0), .int .i64 ((rd_T54 l0 x12_1).f2.f1), .int .i64 ((rd_T54 l0 x12_1).f2.f2), .int .i64 ((rd_T54 l0 x12_1).f3)] 54 (0,0)) (by refine zk_ ?_;refine blk_far ?_ NB2_16.out _;refine zk_ ?_;refine blk_far ?_ NB2_16.out _;refine zk_ ?_;refine blk_far ?_ NB2_16.out _;refine zk_ ?_;refine blk_far ?_ NB2_16.out _;refine zk_ ?_;refine blk_far ?_ NB2_16.out _;refine zk_ ?_;refine blk_far ?_ NB2_16.out _;refine zk_ ?_;refine blk_far ?_ NB2_16.out _;refine zk_ ?_;refine blk_far ?_ NB2_16.out _;refine zk_ ?_;refine blk_far ?_ NB2_16.out _;refine zk_ ?_;refine blk_far ?_ NB2_16.out _;refine zk_ ?_;refine blk_far ?_ NB2_16.out _;refine zk_ ?_;refine blk_far ?_ NB2_16.out _;refine zk_ ?_;exact BK2.out) hg (Kd.R_away HO_5.out (fun _ hk=>hk.2)));have n1_:=am_ (blk_grown (g:=gb16) (o:= .cells #[.string t3, .string t4, .int .i64 t5, .int .i64 t6, .int .i64 t7, .int .i64 t8, .int .i64 t9, .int .i64 t10, .int .i64 t11, .int .i64 t12, .int .i64 t13, .int .i64 t14] 31 (0,0)) (by refine zk_ ?_;refine blk_put (cs:=#[.string t3, .string t4, .int .i64 t5, .int .i64 t6, .int .i64 t7, .int .i64 t8, .int .i64 t9, .int .i64 t10, .int .i64 t11, .int .i64 t12, .int .i64 t13, .int .i64 0]) ?_ 11 _ rfl;refine zk_ ?_;refine blk_put (cs:=#[.string t3, .string t4, .int .i64 t5, .int .i64 t6, .int .i64 t7, .int .i64 t8, .int .i64 t9, .int .i64 t10, .int .i64 t11, .int .i64 t12, .int .i64 0, .int .i64 0]) ?_ 10 _ rfl;refine zk_ ?_;refine blk_put (cs:=#[.string t3, .string t4, .int .i64 t5, .int .i64 t6, .int .i64 t7, .int .i64 t8, .int .i64 t9, .int .i64 t10, .int .i64 t11, .int .i64 0, .int .i64 0, .int .i64 0]) ?_ 9 _ rfl;refine zk_ ?_;refine blk_put (cs:=#[.string t3, .string t4, .int .i64 t5, .int .i64 t6, .int .i64 t7, .int .i64 t8, .int .i64 t9, .int .i64 t10, .int .i64 0, .int .i64 0, .int .i64 0, .int .i64 0]) ?_ 8 _ rfl;refine zk_ ?_;refine blk_put (cs:=#[.string t3, .string t4, .int .i64 t5, .int .i64 t6, .int .i64 t7, .int .i64 t8, .int .i64 t9, .int .i64 0, .int .i64 0, .int .i64 0, .int .i64 0, .int .i64 0]) ?_ 7 _ rfl;refine zk_ ?_;refine blk_put (cs:=#[.string t3, .string t4, .int .i64 t5, .int .i64 t6, .int .i64 t7, .int .i64 t8, .int .i64 0, .int .i64 0, .int .i64 0, .int .i64 0, .int .i64 0, .int .i64 0]) ?_ 6 _ rfl;refine zk_ ?_;refine blk_put (cs:=#[.string t3, .string t4, .int .i64 t5, .int .i64 t6, .int .i64 t7, .int .i64 0, .int .i64 0, .int .i64 0, .int .i64 0, .int .i64 0, .int .i64 0, .int .i64 0]) ?_ 5 _ rfl;refine zk_ ?_;refine blk_put (cs:=#[.string t3, .string t4, .int .i64 t5, .int .i64 t6, .int .i64 0, .int .i64 0, .int .i64 0, .int .i64 0, .int .i64 0, .int .i64 0, .int .i64 0, .int .i64 0]) ?_ 4 _ rfl;refine zk_ ?_;refine blk_put (cs:=#[.string t3, .string t4, .int .i64 t5, .int .i64 0, .int .i64 0, .int .i64 0, .int .i64 0, .int .i64 0, .int .i64 0, .int .i64 0, .int .i64 0, .int .i64 0]) ?_ 3 _ rfl;refine zk_ ?_;refine blk_put (cs:=#[.string t3, .string t4, .int .i64 0, .int .i64 0, .int .i64 0, .int .i64 0, .int .i64 0, .int .i64 0, .int .i64 0, .int .i64 0, .int .i64 0, .int .i64 0]) ?_ 2 _ rfl;refine zk_ ?_;refine blk_put (cs:=#[.string t3, .string (⟨#[]⟩:ByteArray), .int .i64 0, .int .i64 0, .int .i64 0, .int .i64 0, .int .i64 0, .int .i64 0, .int .i64 0, .int .i64 0, .int .i64 0, .int .i64 0]) ?_ 1 _ rfl;refine zk_ ?_;refine blk_put (cs:=#[.string (⟨#[]⟩:ByteArray), .string (⟨#[]⟩:ByteArray), .int .i64 0, .int .i64 0, .int .i64 0, .int .i64 0, .int .i64 0, .int .i64 0, .int .i64 0, .int .i64 0, .int .i64 0, .int .i64 0]) ?_ 0 _ rfl;refine zk_ ?_;exact BK16.out) hg (Kd.R_ne HO_5.out BK16.out (by decide)));have n2_:=am_ (hb);have n3_:=am_ (ho);clear BK2;clear BK16;clear HB;clear HO_5;have BK2:=n0_;have BK16:=n1_;have HB:=n2_;have HO19:=n3_;clear n0_ n1_ n2_ n3_;clear ho hb hg hat))
        go_roundg k1
        case measure=>have:=HK1.out;omega
        case rel=>exact ⟨(y17),(wrap64 (x12_1+1)),(by first|rfl|(simp;done)|(simp [*];done)),H',⟨by have:=HK1.out;omega⟩,⟨by (with_reducible repeat (first|apply Kd.R_alloc|apply Kd.R_drewN|apply Kd.R_drew));exact Kd.R_mono HO19.out (fun _ hk=>trivial)⟩,⟨zl2_ HB GE2 GE16⟩⟩
       rw [if_neg c8] at H
       exact absurd H (by simp)
      replace c7:=Bool.eq_false_iff.mpr c7
      subst c7
      have H1:(drift_Fresh.l0 k1 l1 x5_1 l0 (l0.length:Int) (wrap64 (x12_1+1)))=some r:=by rw [if_neg (show¬(false=true) by decide)] at H;exact H
      clear H
      have H:=H1
      clear H1
      have H':=Aside0.mk H
      clear H
      have p1:0≤(x12_1:Int):=of_decide_eq_true zq_
      have q1:x12_1<(l0.length:Int):=of_decide_eq_true zq_
      obtain ⟨ad1,e1,hx1_0,hx1_1,hx1_2,hx1_3,hx1_4,hx1_5⟩:=at_T54 HR0.out x12_1 p1 q1
      cases e1
      replace hx1_0:=zx_ HB hx1_0
      replace hx1_1:=zx_ HB hx1_1
      replace hx1_2:=zx_ HB hx1_2
      replace hx1_3:=zx_ HB hx1_3
      replace hx1_4:=zx_ HB hx1_4
      replace hx1_5:=zx_ HB hx1_5
      replace p1:=eq_true p1
      replace q1:=eq_true q1
      go_wp2_with (first|((with_reducible refine gate_dst (N:=7) rfl ?_);refine box_event ?hg (N:=7) ?hd (cs:=#[.string (⟨#[]⟩:ByteArray), .string (⟨#[]⟩:ByteArray), .int .i64 0, .int .i64 0, .int .i64 0, .int .i64 0]) (t:=54) ?hr ?_;(case hd=>rfl);(case hg=>rfl);(case hr=>first|(go_simp;done)|(go_simp;rfl));intro gb2 hg w16 hbox hb;have n0_:=am_ (Kd.R_below (Kd.R_elderB (zr_ HO_5) gb2 (Nat.le_of_eq hg.symm)) hb);have n1_:=am_ (below_step (zl0_ HB) hb);have n2_:=am_ (hbox);have n3_:=am_ ((zg0_ HB hg:w.heap.size≤gb2));have n4_:=am_ ((zg0_ HB hg:w.heap.size≤gb2));clear HO_5;clear HB;have HO_5:=n0_;have HB:=n1_;have BK2:=n2_;have GW2:=n3_;have GE2:=n4_;clear n0_ n1_ n2_ n3_ n4_;clear hb hbox hg;obtain ⟨hcz17_0,hcz17_1,hcz17_2,hcz17_3,hcz17_4,hcz17_5⟩:=x6_ BK2;have hfz17_0:=blk_frozen BK2.out 0;have hfz17_1:=blk_frozen BK2.out 1;have hfz17_2:=blk_frozen BK2.out 2;have hfz17_3:=blk_frozen BK2.out 3;have hfz17_4:=blk_frozen BK2.out 4;have hfz17_5:=blk_frozen BK2.out 5)|((with_reducible refine gate_callee (f:=108) rfl ?_);refine goesL_ (some 21) rfl rfl Try.func108 (by kernel_rfl) rfl #[.agg #[.slice A1 l1.length c1], .string ((rd_T54 l0 x12_1).f0)] rfl zs_ ?_;(with_reducible refine (drift_live_find.calls _ _ l1 ((rd_T54 l0 x12_1).f0) t3 t4 t5 t6 t7 t8 t9 t10 t11 t12 t13 t14 false _ ?side1 ?side2 A6.out).mono ?_);(case side1=>exact Kd.C_below HR1.out (zl1_ HB GE2));(case side2=>exact HC1.out);rintro e w18 ⟨rfl,hb⟩;refine ⟨_,rfl, ?_⟩;have n0_:=am_ (Kd.R_below (by refine zt_ ?_;exact (Kd.R_mono (Kd.R_far (p:=⟨gb2,5,none⟩) (Kd.R_far (p:=⟨gb2,4,none⟩) (Kd.R_far (p:=⟨gb2,3,none⟩) (Kd.R_far (p:=⟨gb2,2,none⟩) (Kd.R_far (p:=⟨gb2,1,none⟩) (Kd.R_far (p:=⟨gb2,0,none⟩) (Kd.R_mono HO_5.out (fun k_ hk=>(⟨hk,hk.2⟩:_∧k_≠gb2))) (fun _ hk=>hk.2) (.string ((rd_T54 l0 x12_1).f0))) (fun _ hk=>hk.2) (.string ((rd_T54 l0 x12_1).f1))) (fun _ hk=>hk.2) (.int .i64 ((rd_T54 l0 x12_1).f2.f0))) (fun _ hk=>hk.2) (.int .i64 ((rd_T54 l0 x12_1).f2.f1))) (fun _ hk=>hk.2) (.int .i64 ((rd_T54 l0 x12_1).f2.f2))) (fun _ hk=>hk.2) (.int .i64 ((rd_T54 l0 x12_1).f3))) (fun _ h_=>h_.1))) hb);have n1_:=am_ (blk_below (g:=gb2) (o:= .cells #[.string ((rd_T54 l0 x12_1).f0), .string ((rd_T54 l0 x12_1).f1), .int .i64 ((rd_T54 l0 x12_1).f2.f0), .int .i64 ((rd_T54 l0 x12_1).f2.f1), .int .i64 ((rd_T54 l0 x12_1).f2.f2), .int .i64 ((rd_T54 l0 x12_1).f3)] 54 (0,0)) (by refine zk_ ?_;refine blk_put (cs:=#[.string ((rd_T54 l0 x12_1).f0), .string ((rd_T54 l0 x12_1).f1), .int .i64 ((rd_T54 l0 x12_1).f2.f0), .int .i64 ((rd_T54 l0 x12_1).f2.f1), .int .i64 ((rd_T54 l0 x12_1).f2.f2), .int .i64 0]) ?_ 5 _ rfl;refine zk_ ?_;refine blk_put (cs:=#[.string ((rd_T54 l0 x12_1).f0), .string ((rd_T54 l0 x12_1).f1), .int .i64 ((rd_T54 l0 x12_1).f2.f0), .int .i64 ((rd_T54 l0 x12_1).f2.f1), .int .i64 0, .int .i64 0]) ?_ 4 _ rfl;refine zk_ ?_;refine blk_put (cs:=#[.string ((rd_T54 l0 x12_1).f0), .string ((rd_T54 l0 x12_1).f1), .int .i64 ((rd_T54 l0 x12_1).f2.f0), .int .i64 0, .int .i64 0, .int .i64 0]) ?_ 3 _ rfl;refine zk_ ?_;refine blk_put (cs:=#[.string ((rd_T54 l0 x12_1).f0), .string ((rd_T54 l0 x12_1).f1), .int .i64 0, .int .i64 0, .int .i64 0, .int .i64 0]) ?_ 2 _ rfl;refine zk_ ?_;refine blk_put (cs:=#[.string ((rd_T54 l0 x12_1).f0), .string (⟨#[]⟩:ByteArray), .int .i64 0, .int .i64 0, .int .i64 0, .int .i64 0]) ?_ 1 _ rfl;refine zk_ ?_;refine blk_put (cs:=#[.string (⟨#[]⟩:ByteArray), .string (⟨#[]⟩:ByteArray), .int .i64 0, .int .i64 0, .int .i64 0, .int .i64 0]) ?_ 0 _ rfl;refine zk_ ?_;exact BK2.out) hb);have n2_:=am_ (below_step (zl1_ HB GE2) hb);clear HO_5;clear BK2;clear HB;have HO_5:=n0_;have BK2:=n1_;have HB:=n2_;clear n0_ n1_ n2_;(try clear hb);(try clear hb2);(try clear hk);(try clear hi))|((with_reducible refine gate_dst (N:=8) rfl ?_);refine box_event ?hg (N:=8) ?hd (cs:=#[.string (⟨#[]⟩:ByteArray), .string (⟨#[]⟩:ByteArray), .int .i64 0, .int .i64 0, .int .i64 0, .int .i64 0, .int .i64 0, .int .i64 0, .int .i64 0, .int .i64 0, .int .i64 0, .int .i64 0]) (t:=31) ?hr ?_;(case hd=>rfl);(case hg=>rfl);(case hr=>first|(go_simp;done)|(go_simp;rfl));intro gb16 hg w19 hbox hb;have n0_:=am_ (Kd.R_below (zr_ HO_5) hb);have n1_:=am_ (blk_below (zb_ BK2) hb);have n2_:=am_ (below_step (zl1_ HB GE2) hb);have n3_:=am_ (hbox);have n4_:=am_ ((zg1_ HB GE2 hg:w.heap.size≤gb16));have n5_:=am_ ((zg1_ HB GE2 hg:w.heap.size≤gb16));have n6_:=am_ ((zn_ BK2 hg:gb2≠gb16));have n7_:=am_ ((zm_ BK2 hg:gb16≠gb2));clear HO_5;clear BK2;clear HB;have HO_5:=n0_;have BK2:=n1_;have HB:=n2_;have BK16:=n3_;have GW16:=n4_;have GE16:=n5_;have NB2_16:=n6_;have NB16_2:=n7_;clear n0_ n1_ n2_ n3_ n4_ n5_ n6_ n7_;clear hb hbox hg;have hnb20:=NB16_2.out;have hnc20:=NB2_16.out;obtain ⟨hcz21_0,hcz21_1,hcz21_2,hcz21_3,hcz21_4,hcz21_5,hcz21_6,hcz21_7,hcz21_8,hcz21_9,hcz21_10,hcz21_11⟩:=x12_ BK16;have hfz21_0:=blk_frozen BK16.out 0;have hfz21_1:=blk_frozen BK16.out 1;have hfz21_2:=blk_frozen BK16.out 2;have hfz21_3:=blk_frozen BK16.out 3;have hfz21_4:=blk_frozen BK16.out 4;have hfz21_5:=blk_frozen BK16.out 5;have hfz21_6:=blk_frozen BK16.out 6;have hfz21_7:=blk_frozen BK16.out 7;have hfz21_8:=blk_frozen BK16.out 8;have hfz21_9:=blk_frozen BK16.out 9;have hfz21_10:=blk_frozen BK16.out 10;have hfz21_11:=blk_frozen BK16.out 11))
      go_roundg k1
      case measure=>have:=HK1.out;omega
      case rel=>exact ⟨(x5_1),(wrap64 (x12_1+1)),(by first|rfl|(simp;done)|(simp [*];done)),H',⟨by have:=HK1.out;omega⟩,⟨by (with_reducible repeat (first|apply Kd.R_alloc|apply Kd.R_drewN|apply Kd.R_drew));exact Kd.R_mono (Kd.R_far (p:=⟨gb16,11,none⟩) (Kd.R_far (p:=⟨gb16,10,none⟩) (Kd.R_far (p:=⟨gb16,9,none⟩) (Kd.R_far (p:=⟨gb16,8,none⟩) (Kd.R_far (p:=⟨gb16,7,none⟩) (Kd.R_far (p:=⟨gb16,6,none⟩) (Kd.R_far (p:=⟨gb16,5,none⟩) (Kd.R_far (p:=⟨gb16,4,none⟩) (Kd.R_far (p:=⟨gb16,3,none⟩) (Kd.R_far (p:=⟨gb16,2,none⟩) (Kd.R_far (p:=⟨gb16,1,none⟩) (Kd.R_far (p:=⟨gb16,0,none⟩) (Kd.R_types HO_5.out BK16.out (by decide)) (fun _ hk=>hk.2) (.string t3)) (fun _ hk=>hk.2) (.string t4)) (fun _ hk=>hk.2) (.int .i64 t5)) (fun _ hk=>hk.2) (.int .i64 t6)) (fun _ hk=>hk.2) (.int .i64 t7)) (fun _ hk=>hk.2) (.int .i64 t8)) (fun _ hk=>hk.2) (.int .i64 t9)) (fun _ hk=>hk.2) (.int .i64 t10)) (fun _ hk=>hk.2) (.int .i64 t11)) (fun _ hk=>hk.2) (.int .i64 t12)) (fun _ hk=>hk.2) (.int .i64 t13)) (fun _ hk=>hk.2) (.int .i64 t14)) (fun _ hk=>trivial)⟩,⟨zl2_ HB GE2 GE16⟩⟩
     rw [if_neg c5] at H
     exact absurd H (by simp)
    rw [if_neg c4] at H
    exact absurd H (by simp)
   rw [if_neg c3] at H
   have c3b0:decide (x12_1<(l0.length:Int))=false:=decide_eq_false c3
   clear c3
   obtain rfl:=Option.some.inj H
   go_wp2
   go_ret
   exact ⟨_,by first|rfl|(simp [errW_none,errW_some]<;>rfl)|(simp [*,errW_none,errW_some]<;>rfl),by (with_reducible repeat (first|apply Kd.R_alloc|apply Kd.R_drewN|apply Kd.R_drew));exact HO_5.out,zl0_ HB⟩

def r16_mark.f (a0_0:ByteArray) (a0_1:ByteArray) (a0_2:Int) (a0_3:Int) (a0_4:Int) (a0_5:Int) (a0_6:Int) (a0_7:Int) (a0_8:Int) (a0_9:Int) (a0_10:Int) (a0_11:Int):Option (ByteArray×ByteArray×Int×Int×Int×Int):=some (a0_0,a0_1,a0_2,a0_3,a0_4,a0_11)
set_option maxHeartbeats 8000000 in
set_option maxRecDepth 100000 in
theorem r16_mark.calls (a0_0:ByteArray) (a0_1:ByteArray) (a0_2:Int) (a0_3:Int) (a0_4:Int) (a0_5:Int) (a0_6:Int) (a0_7:Int) (a0_8:Int) (a0_9:Int) (a0_10:Int) (a0_11:Int) (r1:ByteArray) (r2:ByteArray) (r3:Int) (r4:Int) (r5:Int) (r6:Int) (w:World) (h:r16_mark.f a0_0 a0_1 a0_2 a0_3 a0_4 a0_5 a0_6 a0_7 a0_8 a0_9 a0_10 a0_11=some (r1,r2,r3,r4,r5,r6)):
  Calls Try.prog 109 #[.agg #[.string a0_0, .string a0_1, .int .i64 a0_2, .int .i64 a0_3, .int .i64 a0_4, .int .i64 a0_5, .int .i64 a0_6, .int .i64 a0_7, .int .i64 a0_8, .int .i64 a0_9, .int .i64 a0_10, .int .i64 a0_11]] w fun e w'=>e= .returned (.agg #[.string r1, .string r2, .int .i64 r3, .int .i64 r4, .int .i64 r5, .int .i64 r6])∧Below w.heap.size w w':=by
 have hu31:=Try.underlying31
 have hu54:=Try.underlying54
 have hu27:=Try.underlying27
 have HB:=am_ (Below.refl w.heap.size w)
 have H:(some (a0_0,a0_1,a0_2,a0_3,a0_4,a0_11))=some (r1,r2,r3,r4,r5,r6):=h
 clear h
 simp only [Option.some.injEq,Prod.mk.injEq] at H
 obtain ⟨rfl,rfl,rfl,rfl,rfl,rfl⟩:=H
 go_enter Try.func109,Try.ntmps109
 go_wp2_with (first|((with_reducible refine gate_dst (N:=1) rfl ?_);refine box_event ?hg (N:=1) ?hd (cs:=#[.string a0_0, .string a0_1, .int .i64 a0_2, .int .i64 a0_3, .int .i64 a0_4, .int .i64 a0_5, .int .i64 a0_6, .int .i64 a0_7, .int .i64 a0_8, .int .i64 a0_9, .int .i64 a0_10, .int .i64 a0_11]) (t:=31) ?hr ?_;(case hd=>rfl);(case hg=>rfl);(case hr=>first|(go_simp;done)|(go_simp;rfl));intro gb1 hg w2 hbox hb;have n0_:=am_ (below_step (zl0_ HB) hb);have n1_:=am_ (hbox);have n2_:=am_ ((zg0_ HB hg:w.heap.size≤gb1));have n3_:=am_ ((zg0_ HB hg:w.heap.size≤gb1));clear HB;have HB:=n0_;have BK1:=n1_;have GW1:=n2_;have GE1:=n3_;clear n0_ n1_ n2_ n3_;clear hb hbox hg)|((with_reducible refine gate_dst (N:=2) rfl ?_);refine box_event ?hg (N:=2) ?hd (cs:=#[.string (⟨#[]⟩:ByteArray), .string (⟨#[]⟩:ByteArray), .int .i64 0, .int .i64 0, .int .i64 0, .int .i64 0]) (t:=54) ?hr ?_;(case hd=>rfl);(case hg=>rfl);(case hr=>first|(go_simp;done)|(go_simp;rfl));intro gb2 hg w3 hbox hb;have n0_:=am_ (blk_below (zb_ BK1) hb);have n1_:=am_ (below_step (zl1_ HB GE1) hb);have n2_:=am_ (hbox);have n3_:=am_ ((zg1_ HB GE1 hg:w.heap.size≤gb2));have n4_:=am_ ((zg1_ HB GE1 hg:w.heap.size≤gb2));have n5_:=am_ ((zn_ BK1 hg:gb1≠gb2));have n6_:=am_ ((zm_ BK1 hg:gb2≠gb1));clear BK1;clear HB;have BK1:=n0_;have HB:=n1_;have BK2:=n2_;have GW2:=n3_;have GE2:=n4_;have NB1_2:=n5_;have NB2_1:=n6_;clear n0_ n1_ n2_ n3_ n4_ n5_ n6_;clear hb hbox hg;have hnb4:=NB1_2.out;have hnc4:=NB2_1.out;obtain ⟨hcz5_0,hcz5_1,hcz5_2,hcz5_3,hcz5_4,hcz5_5,hcz5_6,hcz5_7,hcz5_8,hcz5_9,hcz5_10,hcz5_11,hfz5_0,hfz5_1,hfz5_2,hfz5_3,hfz5_4,hfz5_5,hfz5_6,hfz5_7,hfz5_8,hfz5_9,hfz5_10,hfz5_11⟩:=y12_ BK1;obtain ⟨hcz6_0,hcz6_1,hcz6_2,hcz6_3,hcz6_4,hcz6_5⟩:=x6_ BK2;have hfz6_0:=blk_frozen BK2.out 0;have hfz6_1:=blk_frozen BK2.out 1;have hfz6_2:=blk_frozen BK2.out 2;have hfz6_3:=blk_frozen BK2.out 3;have hfz6_4:=blk_frozen BK2.out 4;have hfz6_5:=blk_frozen BK2.out 5))
 refine bodyPost_ret (results_cell_row rfl _ _ gb2 54 #[.string a0_0, .string a0_1, .int .i64 a0_2, .int .i64 a0_3, .int .i64 a0_4, .int .i64 a0_11] (0,0) _ rfl (by refine zk_ ?_;refine blk_put (cs:=#[.string a0_0, .string a0_1, .int .i64 a0_2, .int .i64 a0_3, .int .i64 a0_4, .int .i64 0]) ?_ 5 _ rfl;refine zk_ ?_;refine blk_put (cs:=#[.string a0_0, .string a0_1, .int .i64 a0_2, .int .i64 a0_3, .int .i64 0, .int .i64 0]) ?_ 4 _ rfl;refine zk_ ?_;refine blk_put (cs:=#[.string a0_0, .string a0_1, .int .i64 a0_2, .int .i64 0, .int .i64 0, .int .i64 0]) ?_ 3 _ rfl;refine zk_ ?_;refine blk_put (cs:=#[.string a0_0, .string a0_1, .int .i64 0, .int .i64 0, .int .i64 0, .int .i64 0]) ?_ 2 _ rfl;refine zk_ ?_;refine blk_put (cs:=#[.string a0_0, .string (⟨#[]⟩:ByteArray), .int .i64 0, .int .i64 0, .int .i64 0, .int .i64 0]) ?_ 1 _ rfl;refine zk_ ?_;refine blk_put (cs:=#[.string (⟨#[]⟩:ByteArray), .string (⟨#[]⟩:ByteArray), .int .i64 0, .int .i64 0, .int .i64 0, .int .i64 0]) ?_ 0 _ rfl;refine zk_ ?_;exact BK2.out) Try.underlying54 rfl (by kernel_rfl)) rfl ?_
 exact ⟨by first|rfl|(simp [errW_none,errW_some]<;>rfl)|(simp [*,errW_none,errW_some]<;>rfl),zl2_ HB GE1 GE2⟩

def r16_Fresh.l0:Nat→List (S54)→List (S31)→List (S54)→Int→Option ((List (S54)))
 |0,_,_,_,_=>none
 |k+1,x0,x1,x5,x6=>if x6<(x0.length:Int) then (if 0≤x6 then ((r10_Find.f k x1 ((rd_T54 x0 x6).f0)).bind fun t2=>(if t2≥0 then (if 0≤t2 then (if t2<(x1.length:Int) then ((r16_mark.f ((rd_T31 x1 t2).f0) ((rd_T31 x1 t2).f1) ((rd_T31 x1 t2).f2.f0) ((rd_T31 x1 t2).f2.f1) ((rd_T31 x1 t2).f2.f2) ((rd_T31 x1 t2).f3.f0) ((rd_T31 x1 t2).f3.f1) ((rd_T31 x1 t2).f3.f2) ((rd_T31 x1 t2).f4.f0) ((rd_T31 x1 t2).f4.f1) ((rd_T31 x1 t2).f4.f2) ((rd_T31 x1 t2).f5)).bind fun bt4=>(if x5.length<2199023255552 then (r16_Fresh.l0 k x0 x1 (x5++ [(⟨bt4.1,bt4.2.1,(⟨bt4.2.2.1,bt4.2.2.2.1,bt4.2.2.2.2.1⟩:S27),bt4.2.2.2.2.2⟩:S54)]) (wrap64 (x6+1))) else (none))) else (none)) else (none)) else (r16_Fresh.l0 k x0 x1 x5 (wrap64 (x6+1))))) else (none)) else (some x5)
def r16_Fresh.f (k:Nat) (l0:List (S54)) (l1:List (S31)):Option ((List (S54))):=r16_Fresh.l0 k l0 l1 ([]:List (S54)) 0
theorem r16_Fresh.mono_l: ∀k,(∀y0 y1 y2 y3,LeO (r16_Fresh.l0 k y0 y1 y2 y3) (r16_Fresh.l0 (k+1) y0 y1 y2 y3))
 |0=>fun _ _ _ _ r h=>by simp [r16_Fresh.l0] at h
 |k+1=>by
  have ih0:=r16_Fresh.mono_l k
  intro y0 y1 y2 y3
  unfold r16_Fresh.l0
  repeat' first
  |(with_reducible exact ih0 _ _ _ _)
  |(with_reducible exact r10_Find.mono _ _ _)
  |(with_reducible exact LeO.refl _)
  |(with_reducible exact LeO.none _)
  |(with_reducible refine LeO.ite ?_ ?_)
  |(with_reducible refine LeO.bind ?_ (fun _=> ?_))
  |exact ih0 _ _ _ _
  |exact r10_Find.mono _ _ _
  |exact LeO.none _
  |refine LeO.ite ?_ ?_
  |refine LeO.bind ?_ (fun _=> ?_)
theorem r16_Fresh.mono: ∀a0 a1 k,LeO (r16_Fresh.f k a0 a1) (r16_Fresh.f (k+1) a0 a1):=by
 intro a0 a1 k
 have ih0:=r16_Fresh.mono_l k
 unfold r16_Fresh.f
 repeat' first
  |(with_reducible exact ih0 _ _ _ _)
  |(with_reducible exact r10_Find.mono _ _ _)
  |(with_reducible exact LeO.refl _)
  |(with_reducible exact LeO.none _)
  |(with_reducible refine LeO.ite ?_ ?_)
  |(with_reducible refine LeO.bind ?_ (fun _=> ?_))
  |exact ih0 _ _ _ _
  |exact r10_Find.mono _ _ _
  |exact LeO.none _
  |refine LeO.ite ?_ ?_
  |refine LeO.bind ?_ (fun _=> ?_)
set_option maxHeartbeats 8000000 in
set_option maxRecDepth 100000 in
theorem r16_Fresh.calls (k:Nat) (A0:Option Addr) (c0:Nat) (l0:List (S54)) (A1:Option Addr) (c1:Nat) (l1:List (S31)) (r:List (S54)) (w:World) (hr0:Kd.C k54 w A0 l0.length l0) (hc0:l0.length≤c0) (hr1:Kd.C k31 w A1 l1.length l1) (hc1:l1.length≤c1) (h:r16_Fresh.f k l0 l1=some r):
  Calls Try.prog 47 #[.slice A0 l0.length c0, .slice A1 l1.length c1] w fun e w'=> ∃v0_:Value,e= .returned (v0_)∧Kd.R k54 54 w' w.heap.size (fun _=>True) v0_ r∧Below w.heap.size w w':=by
 have hu31:=Try.underlying31
 have HR0:=Aside0.mk hr0
 have HC0:=Aside0.mk hc0
 clear hr0 hc0
 have HR1:=Aside0.mk hr1
 have HC1:=Aside0.mk hc1
 clear hr1 hc1
 have HB:=am_ (Below.refl w.heap.size w)
 have H:(r16_Fresh.l0 k l0 l1 ([]:List (S54)) 0)=some r:=h
 clear h
 have H':=Aside0.mk H
 clear H
 go_enter Try.func47,Try.ntmps47
 go_wp2
 go_loopg [5,6] k (fun kq v5 v6 w'=> ∃(x5_1:List (S54)) (x6_1:Int),v6= .int .i64 x6_1∧Aside0 (r16_Fresh.l0 kq l0 l1 x5_1 x6_1=some r)∧Aside0 (kq≤k)∧Aside0 (Kd.R k54 54 w' w.heap.size (fun _=>True) v5 x5_1)∧Aside0 (Below w.heap.size w w'))
 case atStart=>exact ⟨(([]:List (S54))),(0),(by first|rfl|(simp;done)|(simp [*];done)),H',⟨Nat.le_refl _⟩,⟨by first|exact Kd.R_nil _ _ _ _ _|exact Kd.N_nil _ _ _ _ _|exact Kd.V_nil _ _ _ _ _|exact Kd.Q_nil _ _ _ _ _|exact Kd.S_nil _ _ _ _ _⟩,⟨zl0_ HB⟩⟩
 case round=>
  clear H'
  try clear c1
  try clear p2
  obtain ⟨x5_1,x6_1,rfl,HA,HK1,HO_5,HB⟩:=hrel
  cases gk with
  |zero=>exact absurd HA.out (by simp [r16_Fresh.l0])
  |succ k1=>
   have H:=HA.out
   clear HA
   simp only [r16_Fresh.l0] at H
   by_cases c3:x6_1<(l0.length:Int)
   ·rw [if_pos c3] at H
    have c3b0:decide (x6_1<(l0.length:Int))=true:=decide_eq_true c3
    clear c3
    by_cases c4:0≤x6_1
    ·rw [if_pos c4] at H
     have c4b0:decide (0≤x6_1)=true:=decide_eq_true c4
     clear c4
     replace H:=Option.bind_eq_some_iff.mp H
     obtain ⟨t2,A50,H⟩:=H
     replace H:(if t2≥0 then (if 0≤t2 then (if t2<(l1.length:Int) then ((r16_mark.f ((rd_T31 l1 t2).f0) ((rd_T31 l1 t2).f1) ((rd_T31 l1 t2).f2.f0) ((rd_T31 l1 t2).f2.f1) ((rd_T31 l1 t2).f2.f2) ((rd_T31 l1 t2).f3.f0) ((rd_T31 l1 t2).f3.f1) ((rd_T31 l1 t2).f3.f2) ((rd_T31 l1 t2).f4.f0) ((rd_T31 l1 t2).f4.f1) ((rd_T31 l1 t2).f4.f2) ((rd_T31 l1 t2).f5)).bind fun bt4=>(if x5_1.length<2199023255552 then (r16_Fresh.l0 k1 l0 l1 (x5_1++ [(⟨bt4.1,bt4.2.1,(⟨bt4.2.2.1,bt4.2.2.2.1,bt4.2.2.2.2.1⟩:S27),bt4.2.2.2.2.2⟩:S54)]) (wrap64 (x6_1+1))) else (none))) else (none)) else (none)) else (r16_Fresh.l0 k1 l0 l1 x5_1 (wrap64 (x6_1+1))))=some r:=H
     have A5:=Aside0.mk A50
     clear A50
     by_cases c6:t2≥0
     ·rw [if_pos c6] at H
      have c6b0:decide (0≤t2)=true:=decide_eq_true c6
      clear c6
      by_cases c7:0≤t2
      ·rw [if_pos c7] at H
       have c7b0:decide (0≤t2)=true:=decide_eq_true c7
       clear c7
       by_cases c8:t2<(l1.length:Int)
       ·rw [if_pos c8] at H
        have c8b0:decide (t2<(l1.length:Int))=true:=decide_eq_true c8
        clear c8
        replace H:=Option.bind_eq_some_iff.mp H
        obtain ⟨⟨t4,t5,t6,t7,t8,t9⟩,A90,H⟩:=H
        replace H:(if x5_1.length<2199023255552 then (r16_Fresh.l0 k1 l0 l1 (x5_1++ [(⟨t4,t5,(⟨t6,t7,t8⟩:S27),t9⟩:S54)]) (wrap64 (x6_1+1))) else (none))=some r:=H
        have A9:=Aside0.mk A90
        clear A90
        by_cases c10:x5_1.length<2199023255552
        ·rw [if_pos c10] at H
         have LMc10:=Aside0.mk c10
         clear c10
         obtain ⟨y10,hy10⟩: ∃y_:List (S54),y_=(x5_1++ [(⟨t4,t5,(⟨t6,t7,t8⟩:S27),t9⟩:S54)]):=⟨_,rfl⟩
         replace H:(r16_Fresh.l0 k1 l0 l1 y10 (wrap64 (x6_1+1)))=some r:=by first|(rw [hy10];with_reducible exact H)|(have H2_:=(Option.bind_some _ _).symm.trans H;rw [hy10];with_reducible exact H2_)|(have H2_:=(Option.bind_some _ _).symm.trans H;with_reducible exact H2_)|with_reducible exact H|(rw [hy10];exact H)|exact H
         have Ny10:=Aside0.mk hy10
         clear hy10
         have H':=Aside0.mk H
         clear H
         have p1:0≤(x6_1:Int):=of_decide_eq_true zq_
         have q1:x6_1<(l0.length:Int):=of_decide_eq_true zq_
         obtain ⟨ad1,e1,hx1_0,hx1_1,hx1_2,hx1_3,hx1_4,hx1_5⟩:=at_T54 HR0.out x6_1 p1 q1
         cases e1
         replace hx1_0:=zx_ HB hx1_0
         replace hx1_1:=zx_ HB hx1_1
         replace hx1_2:=zx_ HB hx1_2
         replace hx1_3:=zx_ HB hx1_3
         replace hx1_4:=zx_ HB hx1_4
         replace hx1_5:=zx_ HB hx1_5
         replace p1:=eq_true p1
         replace q1:=eq_true q1
         go_wp2_with (first|((with_reducible refine gate_callee (f:=50) rfl ?_);refine goesL_ (some 20) rfl rfl Try.func50 (by kernel_rfl) rfl #[.slice A1 l1.length c1, .string ((rd_T54 l0 x6_1).f0)] rfl zs_ ?_;(with_reducible refine (r10_Find.calls k1 _ _ l1 ((rd_T54 l0 x6_1).f0) t2 _ ?side1 ?side2 A5.out).mono ?_);(case side1=>exact zc_ (Kd.C_below HR1.out HB.out));(case side2=>exact HC1.out);rintro e w' ⟨rfl,⟨nd,rfl⟩⟩;refine ⟨_,rfl, ?_⟩;have p3:0≤(t2:Int):=of_decide_eq_true zq_;have q3:t2<(l1.length:Int):=of_decide_eq_true zq_;obtain ⟨ad3,e3,hx3_0,hx3_1,hx3_2,hx3_3,hx3_4,hx3_5,hx3_6,hx3_7,hx3_8,hx3_9,hx3_10,hx3_11⟩:=at_T31 HR1.out t2 p3 q3;cases e3;replace hx3_0:=zx_ HB hx3_0;replace hx3_1:=zx_ HB hx3_1;replace hx3_2:=zx_ HB hx3_2;replace hx3_3:=zx_ HB hx3_3;replace hx3_4:=zx_ HB hx3_4;replace hx3_5:=zx_ HB hx3_5;replace hx3_6:=zx_ HB hx3_6;replace hx3_7:=zx_ HB hx3_7;replace hx3_8:=zx_ HB hx3_8;replace hx3_9:=zx_ HB hx3_9;replace hx3_10:=zx_ HB hx3_10;replace hx3_11:=zx_ HB hx3_11;replace p3:=eq_true p3;replace q3:=eq_true q3)|((with_reducible refine gate_callee (f:=109) rfl ?_);refine goesL_ (some 28) rfl rfl Try.func109 (by kernel_rfl) rfl #[.agg #[.string ((rd_T31 l1 t2).f0), .string ((rd_T31 l1 t2).f1), .int .i64 ((rd_T31 l1 t2).f2.f0), .int .i64 ((rd_T31 l1 t2).f2.f1), .int .i64 ((rd_T31 l1 t2).f2.f2), .int .i64 ((rd_T31 l1 t2).f3.f0), .int .i64 ((rd_T31 l1 t2).f3.f1), .int .i64 ((rd_T31 l1 t2).f3.f2), .int .i64 ((rd_T31 l1 t2).f4.f0), .int .i64 ((rd_T31 l1 t2).f4.f1), .int .i64 ((rd_T31 l1 t2).f4.f2), .int .i64 ((rd_T31 l1 t2).f5)]] rfl zs_ ?_;(with_reducible refine (r16_mark.calls ((rd_T31 l1 t2).f0) ((rd_T31 l1 t2).f1) ((rd_T31 l1 t2).f2.f0) ((rd_T31 l1 t2).f2.f1) ((rd_T31 l1 t2).f2.f2) ((rd_T31 l1 t2).f3.f0) ((rd_T31 l1 t2).f3.f1) ((rd_T31 l1 t2).f3.f2) ((rd_T31 l1 t2).f4.f0) ((rd_T31 l1 t2).f4.f1) ((rd_T31 l1 t2).f4.f2) ((rd_T31 l1 t2).f5) t4 t5 t6 t7 t8 t9 _ A9.out).mono ?_);rintro e w11 ⟨rfl,hb⟩;refine ⟨_,rfl, ?_⟩;have n0_:=am_ (Kd.R_below (zr_ HO_5) hb);have n1_:=am_ (below_step (zl0_ HB) hb);clear HO_5;clear HB;have HO_5:=n0_;have HB:=n1_;clear n0_ n1_;(try clear hb);(try clear hb2);(try clear hk);(try clear hi))|((with_reducible refine gate_builtin (b:= .append) (xs:=#[.tmp 23, .tmp 29]) rfl ?_);at_builtin;refine Kd.R_append k54 (w0:=w) w.heap.size rfl (.tmp 23) (.tmp 29) 35 54 (.agg #[(.string ⟨#[]⟩),(.string ⟨#[]⟩),(.int .i64 0),(.int .i64 0),(.int .i64 0),(.int .i64 0)]) 64 rfl Try.underlying35 info54 rfl (by decide) (by omega) u5 x5_1 (⟨t4,t5,(⟨t6,t7,t8⟩:S27),t9⟩:S54) [.string t4, .string t5, .int .i64 t6, .int .i64 t7, .int .i64 t8, .int .i64 t9] (fun _=>True) (fun _=>False) rfl rfl ?aP (fun _ hk=>hk.elim) ?aF ?aO ?aB ?aS ?aL ?_;(case aP=>exact k54_mkM _ _ _ (⟨t4,t5,(⟨t6,t7,t8⟩:S27),t9⟩:S54));(case aB=>exact (zl0_ HB));(case aF=>exact (fun _ _=>trivial));(case aO=>exact (zr_ HO_5));(case aS=>exact (below_size (zl0_ HB)));(case aL=>have:=LMc10.out;omega);intro v11 w12 ho hb hg hat;rw [←Ny10.out] at ho;have n0_:=am_ (hb);have n1_:=am_ (ho);clear HB;clear HO_5;have HB:=n0_;have HO12:=n1_;clear n0_ n1_;clear ho hb hg hat))
         go_roundg k1
         case measure=>have:=HK1.out;omega
         case rel=>exact ⟨(y10),(wrap64 (x6_1+1)),(by first|rfl|(simp;done)|(simp [*];done)),H',⟨by have:=HK1.out;omega⟩,⟨by (with_reducible repeat (first|apply Kd.R_alloc|apply Kd.R_drewN|apply Kd.R_drew));exact HO12.out⟩,⟨zl0_ HB⟩⟩
        rw [if_neg c10] at H
        exact absurd H (by simp)
       rw [if_neg c8] at H
       exact absurd H (by simp)
      rw [if_neg c7] at H
      exact absurd H (by simp)
     rw [if_neg c6] at H
     have c6b0:decide (0≤t2)=false:=decide_eq_false c6
     clear c6
     have H':=Aside0.mk H
     clear H
     have p1:0≤(x6_1:Int):=of_decide_eq_true zq_
     have q1:x6_1<(l0.length:Int):=of_decide_eq_true zq_
     obtain ⟨ad1,e1,hx1_0,hx1_1,hx1_2,hx1_3,hx1_4,hx1_5⟩:=at_T54 HR0.out x6_1 p1 q1
     cases e1
     replace hx1_0:=zx_ HB hx1_0
     replace hx1_1:=zx_ HB hx1_1
     replace hx1_2:=zx_ HB hx1_2
     replace hx1_3:=zx_ HB hx1_3
     replace hx1_4:=zx_ HB hx1_4
     replace hx1_5:=zx_ HB hx1_5
     replace p1:=eq_true p1
     replace q1:=eq_true q1
     go_wp2_with (first|((with_reducible refine gate_callee (f:=50) rfl ?_);refine goesL_ (some 20) rfl rfl Try.func50 (by kernel_rfl) rfl #[.slice A1 l1.length c1, .string ((rd_T54 l0 x6_1).f0)] rfl zs_ ?_;(with_reducible refine (r10_Find.calls k1 _ _ l1 ((rd_T54 l0 x6_1).f0) t2 _ ?side1 ?side2 A5.out).mono ?_);(case side1=>exact zc_ (Kd.C_below HR1.out HB.out));(case side2=>exact HC1.out);rintro e w' ⟨rfl,⟨nd,rfl⟩⟩;refine ⟨_,rfl, ?_⟩))
     go_roundg k1
     case measure=>have:=HK1.out;omega
     case rel=>exact ⟨(x5_1),(wrap64 (x6_1+1)),(by first|rfl|(simp;done)|(simp [*];done)),H',⟨by have:=HK1.out;omega⟩,⟨by (with_reducible repeat (first|apply Kd.R_alloc|apply Kd.R_drewN|apply Kd.R_drew));exact HO_5.out⟩,⟨zl0_ HB⟩⟩
    rw [if_neg c4] at H
    exact absurd H (by simp)
   rw [if_neg c3] at H
   have c3b0:decide (x6_1<(l0.length:Int))=false:=decide_eq_false c3
   clear c3
   obtain rfl:=Option.some.inj H
   go_wp2
   go_ret
   exact ⟨_,by first|rfl|(simp [errW_none,errW_some]<;>rfl)|(simp [*,errW_none,errW_some]<;>rfl),by (with_reducible repeat (first|apply Kd.R_alloc|apply Kd.R_drewN|apply Kd.R_drew));exact HO_5.out,zl0_ HB⟩

mutual
def law12_Great.l0:Nat→List (S31)→Int→Option (Bool)
 |0,_,_=>none
 |k+1,x0,x3=>if x3<(x0.length:Int) then (law12_Great.j1 k x0 x3 (decide (x3<150))) else (law12_Great.j1 k x0 x3 false)
def law12_Great.j1:Nat→List (S31)→Int→Bool→Option (Bool)
 |0,_,_,_=>none
 |k+1,x0,x3,x11=>if x11=true then (if 0≤x3 then (if x3<(x0.length:Int) then (if (((rd_T31 x0 x3).f0).size:Int)>100 then (some true) else (if (((rd_T31 x0 x3).f1).size:Int)>100 then (some true) else (law12_Great.l0 k x0 (wrap64 (x3+1))))) else (none)) else (none)) else (some (decide ((x0.length:Int)>130)))
end
def law12_Great.f (k:Nat) (l0:List (S31)):Option (Bool):=law12_Great.l0 k l0 0
theorem law12_Great.mono_l: ∀k,(∀y0 y1,LeO (law12_Great.l0 k y0 y1) (law12_Great.l0 (k+1) y0 y1))∧(∀y0 y1 y2,LeO (law12_Great.j1 k y0 y1 y2) (law12_Great.j1 (k+1) y0 y1 y2))
 |0=>⟨fun _ _ r h=>by simp [law12_Great.l0] at h,fun _ _ _ r h=>by simp [law12_Great.j1] at h⟩
 |k+1=>by
  obtain ⟨ih0,ih1⟩:=law12_Great.mono_l k
  refine ⟨?_, ?_⟩
  ·intro y0 y1
   unfold law12_Great.l0
   repeat' first
   |(with_reducible exact ih0 _ _)
   |(with_reducible exact ih1 _ _ _)
   |(with_reducible exact LeO.refl _)
   |(with_reducible exact LeO.none _)
   |(with_reducible refine LeO.ite ?_ ?_)
   |(with_reducible refine LeO.bind ?_ (fun _=> ?_))
   |exact ih0 _ _
   |exact ih1 _ _ _
   |exact LeO.none _
   |refine LeO.ite ?_ ?_
   |refine LeO.bind ?_ (fun _=> ?_)
  intro y0 y1 y2
  unfold law12_Great.j1
  repeat' first
  |(with_reducible exact ih0 _ _)
  |(with_reducible exact ih1 _ _ _)
  |(with_reducible exact LeO.refl _)
  |(with_reducible exact LeO.none _)
  |(with_reducible refine LeO.ite ?_ ?_)
  |(with_reducible refine LeO.bind ?_ (fun _=> ?_))
  |exact ih0 _ _
  |exact ih1 _ _ _
  |exact LeO.none _
  |refine LeO.ite ?_ ?_
  |refine LeO.bind ?_ (fun _=> ?_)
theorem law12_Great.mono: ∀a0 k,LeO (law12_Great.f k a0) (law12_Great.f (k+1) a0):=by
 intro a0 k
 obtain ⟨ih0,ih1⟩:=law12_Great.mono_l k
 unfold law12_Great.f
 repeat' first
  |(with_reducible exact ih0 _ _)
  |(with_reducible exact ih1 _ _ _)
  |(with_reducible exact LeO.refl _)
  |(with_reducible exact LeO.none _)
  |(with_reducible refine LeO.ite ?_ ?_)
  |(with_reducible refine LeO.bind ?_ (fun _=> ?_))
  |exact ih0 _ _
  |exact ih1 _ _ _
  |exact LeO.none _
  |refine LeO.ite ?_ ?_
  |refine LeO.bind ?_ (fun _=> ?_)
set_option maxHeartbeats 8000000 in
set_option maxRecDepth 100000 in
theorem law12_Great.calls (k:Nat) (A0:Option Addr) (c0:Nat) (l0:List (S31)) (r:Bool) (w:World) (hr0:Kd.C k31 w A0 l0.length l0) (hc0:l0.length≤c0) (h:law12_Great.f k l0=some r):
  Calls Try.prog 36 #[.slice A0 l0.length c0] w fun e w'=>e= .returned (.bool r)∧Drawn0 w w':=by
 have HR0:=Aside0.mk hr0
 have HC0:=Aside0.mk hc0
 clear hr0 hc0
 have H:(law12_Great.l0 k l0 0)=some r:=h
 clear h
 have H':=Aside0.mk H
 clear H
 go_enter Try.func36,Try.ntmps36
 go_wp2
 go_loopg [3] k (fun kq v3 w'=> ∃(x3_1:Int),v3= .int .i64 x3_1∧Aside0 (law12_Great.l0 kq l0 x3_1=some r)∧Aside0 (kq≤k)∧Drawn0 w w')
 case atStart=>exact ⟨(0),(by first|rfl|(simp;done)|(simp [*];done)),H',⟨Nat.le_refl _⟩,by repeat (first|exact Drawn0.refl _|apply Drawn0.step)⟩
 case round=>
  clear H'
  obtain ⟨x3_1,rfl,HA,HK1,⟨m1,rfl⟩⟩:=hrel
  cases gk with
  |zero=>exact absurd HA.out (by simp [law12_Great.l0])
  |succ k1=>
   have H:=HA.out
   clear HA
   simp only [law12_Great.l0] at H
   have HC2:=Aside0.mk H
   clear H
   go_upto_region 2 with (fail)
   go_cut [11] (fun v11 wc=> ∃(kq:Nat) (x11_1:Bool),v11= .bool x11_1∧Aside0 (law12_Great.j1 kq l0 x3_1 x11_1=some r)∧Aside0 (kq≤k1)∧Drawn0 w wc)
   case first=>
    have H:=HC2.out
    clear HC2
    by_cases c3:x3_1<(l0.length:Int)
    ·rw [if_pos c3] at H
     have c3b0:decide (x3_1<(l0.length:Int))=true:=decide_eq_true c3
     clear c3
     (first|rw [c3b0]|(simp only [i64_w,i32_w];rw [c3b0])|skip)
     have H':=Aside0.mk H
     clear H
     go_wp2
     go_meet
     case rel=>exact ⟨_,(decide (x3_1<150)),(by first|rfl|(simp;done)|(simp [*];done)),H',⟨by have:=HK1.out;first|omega|exact Nat.le_refl _⟩,by repeat (first|exact Drawn0.refl _|apply Drawn0.step)⟩
    rw [if_neg c3] at H
    have c3b0:decide (x3_1<(l0.length:Int))=false:=decide_eq_false c3
    clear c3
    (first|rw [c3b0]|(simp only [i64_w,i32_w];rw [c3b0])|skip)
    have H':=Aside0.mk H
    clear H
    go_wp2
    go_meet
    case rel=>exact ⟨_,(false),(by first|rfl|(simp;done)|(simp [*];done)),H',⟨by have:=HK1.out;first|omega|exact Nat.le_refl _⟩,by repeat (first|exact Drawn0.refl _|apply Drawn0.step)⟩
   case rest=>
    clear HC2
    try clear p2
    try clear c3
    try clear c3b0
    obtain ⟨kq,x11_1,rfl,HA,HJ1,⟨mc1,rfl⟩⟩:=hcut
    cases kq with
    |zero=>exact absurd HA.out (by simp [law12_Great.j1])
    |succ kj1=>
     have H:=HA.out
     clear HA
     simp only [law12_Great.j1] at H
     by_cases c4:x11_1=true
     ·subst c4
      have H1:(if 0≤x3_1 then (if x3_1<(l0.length:Int) then (if (((rd_T31 l0 x3_1).f0).size:Int)>100 then (some true) else (if (((rd_T31 l0 x3_1).f1).size:Int)>100 then (some true) else (law12_Great.l0 kj1 l0 (wrap64 (x3_1+1))))) else (none)) else (none))=some r:=by rw [if_pos rfl] at H;exact H
      clear H
      have H:=H1
      clear H1
      by_cases c5:0≤x3_1
      ·rw [if_pos c5] at H
       have c5b0:decide (0≤x3_1)=true:=decide_eq_true c5
       clear c5
       by_cases c6:x3_1<(l0.length:Int)
       ·rw [if_pos c6] at H
        have c6b0:decide (x3_1<(l0.length:Int))=true:=decide_eq_true c6
        clear c6
        by_cases c7:(((rd_T31 l0 x3_1).f0).size:Int)>100
        ·rw [if_pos c7] at H
         have c7b0:decide (100<(((rd_T31 l0 x3_1).f0).size:Int))=true:=decide_eq_true c7
         have c7b1:decide (100<((rd_T31 l0 x3_1).f0).size)=true:=decide_eq_true (by omega)
         clear c7
         obtain rfl:=Option.some.inj H
         have p1:0≤(x3_1:Int):=of_decide_eq_true zq_
         have q1:x3_1<(l0.length:Int):=of_decide_eq_true zq_
         obtain ⟨ad1,e1,hx1_0,hx1_1,hx1_2,hx1_3,hx1_4,hx1_5,hx1_6,hx1_7,hx1_8,hx1_9,hx1_10,hx1_11⟩:=at_T31 HR0.out x3_1 p1 q1
         cases e1
         replace p1:=eq_true p1
         replace q1:=eq_true q1
         go_wp2
         go_ret
         exact ⟨by first|rfl|(simp;done)|(simp [*];done),by repeat (first|exact Drawn0.refl _|apply Drawn0.step)⟩
        rw [if_neg c7] at H
        have c7b0:decide (100<(((rd_T31 l0 x3_1).f0).size:Int))=false:=decide_eq_false c7
        have c7b1:decide (100<((rd_T31 l0 x3_1).f0).size)=false:=decide_eq_false (by omega)
        clear c7
        by_cases c8:(((rd_T31 l0 x3_1).f1).size:Int)>100
        ·rw [if_pos c8] at H
         have c8b0:decide (100<(((rd_T31 l0 x3_1).f1).size:Int))=true:=decide_eq_true c8
         have c8b1:decide (100<((rd_T31 l0 x3_1).f1).size)=true:=decide_eq_true (by omega)
         clear c8
         obtain rfl:=Option.some.inj H
         have p1:0≤(x3_1:Int):=of_decide_eq_true zq_
         have q1:x3_1<(l0.length:Int):=of_decide_eq_true zq_
         obtain ⟨ad1,e1,hx1_0,hx1_1,hx1_2,hx1_3,hx1_4,hx1_5,hx1_6,hx1_7,hx1_8,hx1_9,hx1_10,hx1_11⟩:=at_T31 HR0.out x3_1 p1 q1
         cases e1
         replace p1:=eq_true p1
         replace q1:=eq_true q1
         have p2:0≤(x3_1:Int):=of_decide_eq_true zq_
         have q2:x3_1<(l0.length:Int):=of_decide_eq_true zq_
         obtain ⟨ad2,e2,hx2_0,hx2_1,hx2_2,hx2_3,hx2_4,hx2_5,hx2_6,hx2_7,hx2_8,hx2_9,hx2_10,hx2_11⟩:=at_T31 HR0.out x3_1 p2 q2
         obtain rfl:ad1=ad2:=(by injection e2)
         replace p2:=eq_true p2
         replace q2:=eq_true q2
         go_wp2
         go_ret
         exact ⟨by first|rfl|(simp;done)|(simp [*];done),by repeat (first|exact Drawn0.refl _|apply Drawn0.step)⟩
        rw [if_neg c8] at H
        have c8b0:decide (100<(((rd_T31 l0 x3_1).f1).size:Int))=false:=decide_eq_false c8
        have c8b1:decide (100<((rd_T31 l0 x3_1).f1).size)=false:=decide_eq_false (by omega)
        clear c8
        have H':=Aside0.mk H
        clear H
        have p1:0≤(x3_1:Int):=of_decide_eq_true zq_
        have q1:x3_1<(l0.length:Int):=of_decide_eq_true zq_
        obtain ⟨ad1,e1,hx1_0,hx1_1,hx1_2,hx1_3,hx1_4,hx1_5,hx1_6,hx1_7,hx1_8,hx1_9,hx1_10,hx1_11⟩:=at_T31 HR0.out x3_1 p1 q1
        cases e1
        replace p1:=eq_true p1
        replace q1:=eq_true q1
        have p2:0≤(x3_1:Int):=of_decide_eq_true zq_
        have q2:x3_1<(l0.length:Int):=of_decide_eq_true zq_
        obtain ⟨ad2,e2,hx2_0,hx2_1,hx2_2,hx2_3,hx2_4,hx2_5,hx2_6,hx2_7,hx2_8,hx2_9,hx2_10,hx2_11⟩:=at_T31 HR0.out x3_1 p2 q2
        obtain rfl:ad1=ad2:=(by injection e2)
        replace p2:=eq_true p2
        replace q2:=eq_true q2
        go_wp2
        go_roundg kj1
        case measure=>have:=HK1.out;have:=HJ1.out;omega
        case rel=>exact ⟨(wrap64 (x3_1+1)),(by first|rfl|(simp;done)|(simp [*];done)),H',⟨by have:=HK1.out;have:=HJ1.out;omega⟩,by repeat (first|exact Drawn0.refl _|apply Drawn0.step)⟩
       rw [if_neg c6] at H
       exact absurd H (by simp)
      rw [if_neg c5] at H
      exact absurd H (by simp)
     replace c4:=Bool.eq_false_iff.mpr c4
     subst c4
     have H1:(some (decide ((l0.length:Int)>130)))=some r:=by rw [if_neg (show¬(false=true) by decide)] at H;exact H
     clear H
     have H:=H1
     clear H1
     obtain rfl:=Option.some.inj H
     go_wp2
     go_ret
     exact ⟨by first|rfl|(simp;done)|(simp [*];done),by repeat (first|exact Drawn0.refl _|apply Drawn0.step)⟩

mutual
def law16_Great.l0:Nat→Int→List (S54)→List (S58)→Int→Option (Bool)
 |0,_,_,_,_=>none
 |k+1,x3,x2000,x2001,x2002=>if x3<(x2000.length:Int) then (law16_Great.j1 k x3 (decide (x3<300)) x2000 x2001 x2002) else (law16_Great.j1 k x3 false x2000 x2001 x2002)
def law16_Great.j1:Nat→Int→Bool→List (S54)→List (S58)→Int→Option (Bool)
 |0,_,_,_,_,_=>none
 |k+1,x3,x13,x2000,x2001,x2002=>if x13=true then (if 0≤x3 then (if x3<(x2000.length:Int) then (if (((rd_T54 x2000 x3).f0).size:Int)>100 then (some true) else (if (((rd_T54 x2000 x3).f1).size:Int)>100 then (some true) else (law16_Great.l0 k (wrap64 (x3+1)) x2000 x2001 x2002))) else (none)) else (none)) else (law16_Great.l1 k 0 x2000 x2001 x2002)
def law16_Great.l1:Nat→Int→List (S54)→List (S58)→Int→Option (Bool)
 |0,_,_,_,_=>none
 |k+1,x4,x2000,x2001,x2002=>if x4<(x2001.length:Int) then (law16_Great.j3 k x4 (decide (x4<600)) x2000 x2001 x2002) else (law16_Great.j3 k x4 false x2000 x2001 x2002)
def law16_Great.j3:Nat→Int→Bool→List (S54)→List (S58)→Int→Option (Bool)
 |0,_,_,_,_,_=>none
 |k+1,x4,x42,x2000,x2001,x2002=>if x42=true then (if 0≤x4 then (if x4<(x2001.length:Int) then (if (((rd_T58 x2001 x4).f1).size:Int)>100 then (some true) else (if (((rd_T58 x2001 x4).f2).size:Int)>100 then (some true) else (law16_Great.l1 k (wrap64 (x4+1)) x2000 x2001 x2002))) else (none)) else (none)) else (if (x2000.length:Int)>260 then (some true) else (some (decide ((x2001.length:Int)>500))))
end
def law16_Great.f (k:Nat) (l0_0:List (S54)) (l0_1:List (S58)) (a0_2:Int):Option (Bool):=law16_Great.l0 k 0 l0_0 l0_1 a0_2
theorem law16_Great.mono_l: ∀k,(∀y0 y1 y2 y3,LeO (law16_Great.l0 k y0 y1 y2 y3) (law16_Great.l0 (k+1) y0 y1 y2 y3))∧(∀y0 y1 y2 y3 y4,LeO (law16_Great.j1 k y0 y1 y2 y3 y4) (law16_Great.j1 (k+1) y0 y1 y2 y3 y4))∧(∀y0 y1 y2 y3,LeO (law16_Great.l1 k y0 y1 y2 y3) (law16_Great.l1 (k+1) y0 y1 y2 y3))∧(∀y0 y1 y2 y3 y4,LeO (law16_Great.j3 k y0 y1 y2 y3 y4) (law16_Great.j3 (k+1) y0 y1 y2 y3 y4))
 |0=>⟨fun _ _ _ _ r h=>by simp [law16_Great.l0] at h,fun _ _ _ _ _ r h=>by simp [law16_Great.j1] at h,fun _ _ _ _ r h=>by simp [law16_Great.l1] at h,fun _ _ _ _ _ r h=>by simp [law16_Great.j3] at h⟩
 |k+1=>by
  obtain ⟨ih0,ih1,ih2,ih3⟩:=law16_Great.mono_l k
  refine ⟨?_, ?_, ?_, ?_⟩
  ·intro y0 y1 y2 y3
   unfold law16_Great.l0
   repeat' first
   |(with_reducible exact ih0 _ _ _ _)
   |(with_reducible exact ih1 _ _ _ _ _)
   |(with_reducible exact ih2 _ _ _ _)
   |(with_reducible exact ih3 _ _ _ _ _)
   |(with_reducible exact LeO.refl _)
   |(with_reducible exact LeO.none _)
   |(with_reducible refine LeO.ite ?_ ?_)
   |(with_reducible refine LeO.bind ?_ (fun _=> ?_))
   |exact ih0 _ _ _ _
   |exact ih1 _ _ _ _ _
   |exact ih2 _ _ _ _
   |exact ih3 _ _ _ _ _
   |exact LeO.none _
   |refine LeO.ite ?_ ?_
   |refine LeO.bind ?_ (fun _=> ?_)
  ·intro y0 y1 y2 y3 y4
   unfold law16_Great.j1
   repeat' first
   |(with_reducible exact ih0 _ _ _ _)
   |(with_reducible exact ih1 _ _ _ _ _)
   |(with_reducible exact ih2 _ _ _ _)
   |(with_reducible exact ih3 _ _ _ _ _)
   |(with_reducible exact LeO.refl _)
   |(with_reducible exact LeO.none _)
   |(with_reducible refine LeO.ite ?_ ?_)
   |(with_reducible refine LeO.bind ?_ (fun _=> ?_))
   |exact ih0 _ _ _ _
   |exact ih1 _ _ _ _ _
   |exact ih2 _ _ _ _
   |exact ih3 _ _ _ _ _
   |exact LeO.none _
   |refine LeO.ite ?_ ?_
   |refine LeO.bind ?_ (fun _=> ?_)
  ·intro y0 y1 y2 y3
   unfold law16_Great.l1
   repeat' first
   |(with_reducible exact ih0 _ _ _ _)
   |(with_reducible exact ih1 _ _ _ _ _)
   |(with_reducible exact ih2 _ _ _ _)
   |(with_reducible exact ih3 _ _ _ _ _)
   |(with_reducible exact LeO.refl _)
   |(with_reducible exact LeO.none _)
   |(with_reducible refine LeO.ite ?_ ?_)
   |(with_reducible refine LeO.bind ?_ (fun _=> ?_))
   |exact ih0 _ _ _ _
   |exact ih1 _ _ _ _ _
   |exact ih2 _ _ _ _
   |exact ih3 _ _ _ _ _
   |exact LeO.none _
   |refine LeO.ite ?_ ?_
   |refine LeO.bind ?_ (fun _=> ?_)
  intro y0 y1 y2 y3 y4
  unfold law16_Great.j3
  repeat' first
  |(with_reducible exact ih0 _ _ _ _)
  |(with_reducible exact ih1 _ _ _ _ _)
  |(with_reducible exact ih2 _ _ _ _)
  |(with_reducible exact ih3 _ _ _ _ _)
  |(with_reducible exact LeO.refl _)
  |(with_reducible exact LeO.none _)
  |(with_reducible refine LeO.ite ?_ ?_)
  |(with_reducible refine LeO.bind ?_ (fun _=> ?_))
  |exact ih0 _ _ _ _
  |exact ih1 _ _ _ _ _
  |exact ih2 _ _ _ _
  |exact ih3 _ _ _ _ _
  |exact LeO.none _
  |refine LeO.ite ?_ ?_
  |refine LeO.bind ?_ (fun _=> ?_)
theorem law16_Great.mono: ∀a0 a1 a2 k,LeO (law16_Great.f k a0 a1 a2) (law16_Great.f (k+1) a0 a1 a2):=by
 intro a0 a1 a2 k
 obtain ⟨ih0,ih1,ih2,ih3⟩:=law16_Great.mono_l k
 unfold law16_Great.f
 repeat' first
  |(with_reducible exact ih0 _ _ _ _)
  |(with_reducible exact ih1 _ _ _ _ _)
  |(with_reducible exact ih2 _ _ _ _)
  |(with_reducible exact ih3 _ _ _ _ _)
  |(with_reducible exact LeO.refl _)
  |(with_reducible exact LeO.none _)
  |(with_reducible refine LeO.ite ?_ ?_)
  |(with_reducible refine LeO.bind ?_ (fun _=> ?_))
  |exact ih0 _ _ _ _
  |exact ih1 _ _ _ _ _
  |exact ih2 _ _ _ _
  |exact ih3 _ _ _ _ _
  |exact LeO.none _
  |refine LeO.ite ?_ ?_
  |refine LeO.bind ?_ (fun _=> ?_)
set_option maxHeartbeats 8000000 in
set_option maxRecDepth 100000 in
theorem law16_Great.calls (k:Nat) (A0_0:Option Addr) (c0_0:Nat) (l0_0:List (S54)) (A0_1:Option Addr) (c0_1:Nat) (l0_1:List (S58)) (a0_2:Int) (r:Bool) (w:World) (hr0_0:Kd.C k54 w A0_0 l0_0.length l0_0) (hc0_0:l0_0.length≤c0_0) (hr0_1:Kd.C k58 w A0_1 l0_1.length l0_1) (hc0_1:l0_1.length≤c0_1) (h:law16_Great.f k l0_0 l0_1 a0_2=some r):
  Calls Try.prog 37 #[.agg #[.slice A0_0 l0_0.length c0_0, .slice A0_1 l0_1.length c0_1, .int .i64 a0_2]] w fun e w'=>e= .returned (.bool r)∧Below w.heap.size w w':=by
 have hu42:=Try.underlying42
 have HR0_0:=Aside0.mk hr0_0
 have HC0_0:=Aside0.mk hc0_0
 clear hr0_0 hc0_0
 have HR0_1:=Aside0.mk hr0_1
 have HC0_1:=Aside0.mk hc0_1
 clear hr0_1 hc0_1
 have HB:=am_ (Below.refl w.heap.size w)
 have H:(law16_Great.l0 k 0 l0_0 l0_1 a0_2)=some r:=h
 clear h
 have H':=Aside0.mk H
 clear H
 go_enter Try.func37,Try.ntmps37
 go_wp2_with (first|((with_reducible refine gate_dst (N:=1) rfl ?_);(try (refine gate_guard (by rfl) ?_;dsimp only));refine box_event ?hg (N:=1) ?hd (cs:=#[.slice A0_0 l0_0.length c0_0, .slice A0_1 l0_1.length c0_1, .int .i64 a0_2]) (t:=42) ?hr ?_;(case hd=>rfl);(case hg=>rfl);(case hr=>first|(go_simp;done)|(go_simp;rfl));intro gb1 hg w2 hbox hb;have n0_:=am_ (below_step (zl0_ HB) hb);have n1_:=am_ (hbox);have n2_:=am_ ((zg0_ HB hg:w.heap.size≤gb1));have n3_:=am_ ((zg0_ HB hg:w.heap.size≤gb1));clear HB;have HB:=n0_;have BK1:=n1_;have GW1:=n2_;have GE1:=n3_;clear n0_ n1_ n2_ n3_;clear hb hbox hg))
 go_loopg [3] k (fun kq v3 w'=> ∃(x3_1:Int),v3= .int .i64 x3_1∧Aside0 (law16_Great.l0 kq x3_1 l0_0 l0_1 a0_2=some r)∧Aside0 (kq≤k)∧Aside0 (w'.heap[gb1]?=some (.cells #[(.slice A0_0 l0_0.length c0_0),(.slice A0_1 l0_1.length c0_1), .int .i64 a0_2] 42 (0,0)))∧Aside0 (Below w.heap.size w w'))
 case atStart=>exact ⟨(0),(by first|rfl|(simp;done)|(simp [*];done)),H',⟨Nat.le_refl _⟩,⟨by refine zk_ ?_;exact BK1.out⟩,⟨zl1_ HB GE1⟩⟩
 case round=>
  clear H'
  try clear p2
  obtain ⟨x3_1,rfl,HA,HK1,BK1,HB⟩:=hrel
  cases gk with
  |zero=>exact absurd HA.out (by simp [law16_Great.l0])
  |succ k1=>
   have H:=HA.out
   clear HA
   simp only [law16_Great.l0] at H
   have HC3:=Aside0.mk H
   clear H
   go_upto_region 2 with (fail)
   go_cut [13] (fun v13 wc=> ∃(kq:Nat) (x13_2:Bool),v13= .bool x13_2∧Aside0 (law16_Great.j1 kq x3_1 x13_2 l0_0 l0_1 a0_2=some r)∧Aside0 (kq≤k1)∧Aside0 (wc.heap[gb1]?=some (.cells #[(.slice A0_0 l0_0.length c0_0),(.slice A0_1 l0_1.length c0_1), .int .i64 a0_2] 42 (0,0)))∧Aside0 (Below w.heap.size w wc))
   case first=>
    have H:=HC3.out
    clear HC3
    by_cases c4:x3_1<(l0_0.length:Int)
    ·rw [if_pos c4] at H
     have c4b0:decide (x3_1<(l0_0.length:Int))=true:=decide_eq_true c4
     clear c4
     (first|rw [c4b0]|(simp only [i64_w,i32_w];rw [c4b0])|skip)
     have H':=Aside0.mk H
     clear H
     obtain ⟨hcz5_0,hcz5_1,hcz5_2,hfz5_0,hfz5_1,hfz5_2⟩:=y3_ BK1
     go_wp2
     go_meet
     case rel=>exact ⟨_,(decide (x3_1<300)),(by first|rfl|(simp;done)|(simp [*];done)),H',⟨by have:=HK1.out;first|omega|exact Nat.le_refl _⟩,⟨by refine zk_ ?_;exact BK1.out⟩,⟨zl1_ HB GE1⟩⟩
    rw [if_neg c4] at H
    have c4b0:decide (x3_1<(l0_0.length:Int))=false:=decide_eq_false c4
    clear c4
    (first|rw [c4b0]|(simp only [i64_w,i32_w];rw [c4b0])|skip)
    have H':=Aside0.mk H
    clear H
    obtain ⟨hcz6_0,hcz6_1,hcz6_2,hfz6_0,hfz6_1,hfz6_2⟩:=y3_ BK1
    go_wp2
    go_meet
    case rel=>exact ⟨_,(false),(by first|rfl|(simp;done)|(simp [*];done)),H',⟨by have:=HK1.out;first|omega|exact Nat.le_refl _⟩,⟨by refine zk_ ?_;exact BK1.out⟩,⟨zl1_ HB GE1⟩⟩
   case rest=>
    clear HC3
    try clear p2
    try clear c3
    try clear c4
    try clear c4b0
    try clear hcz5_0
    try clear hcz5_1
    try clear hcz5_2
    try clear hcz6_0
    try clear hcz6_1
    try clear hcz6_2
    try clear hfz5_0
    try clear hfz5_1
    try clear hfz5_2
    try clear hfz6_0
    try clear hfz6_1
    try clear hfz6_2
    try clear p2
    obtain ⟨kq,x13_2,rfl,HA,HJ2,BK1,HB⟩:=hcut
    cases kq with
    |zero=>exact absurd HA.out (by simp [law16_Great.j1])
    |succ kj2=>
     have H:=HA.out
     clear HA
     simp only [law16_Great.j1] at H
     by_cases c7:x13_2=true
     ·subst c7
      have H1:(if 0≤x3_1 then (if x3_1<(l0_0.length:Int) then (if (((rd_T54 l0_0 x3_1).f0).size:Int)>100 then (some true) else (if (((rd_T54 l0_0 x3_1).f1).size:Int)>100 then (some true) else (law16_Great.l0 kj2 (wrap64 (x3_1+1)) l0_0 l0_1 a0_2))) else (none)) else (none))=some r:=by rw [if_pos rfl] at H;exact H
      clear H
      have H:=H1
      clear H1
      by_cases c8:0≤x3_1
      ·rw [if_pos c8] at H
       have c8b0:decide (0≤x3_1)=true:=decide_eq_true c8
       clear c8
       by_cases c9:x3_1<(l0_0.length:Int)
       ·rw [if_pos c9] at H
        have c9b0:decide (x3_1<(l0_0.length:Int))=true:=decide_eq_true c9
        clear c9
        by_cases c10:(((rd_T54 l0_0 x3_1).f0).size:Int)>100
        ·rw [if_pos c10] at H
         have c10b0:decide (100<(((rd_T54 l0_0 x3_1).f0).size:Int))=true:=decide_eq_true c10
         have c10b1:decide (100<((rd_T54 l0_0 x3_1).f0).size)=true:=decide_eq_true (by omega)
         clear c10
         obtain rfl:=Option.some.inj H
         obtain ⟨hcz11_0,hcz11_1,hcz11_2,hfz11_0,hfz11_1,hfz11_2⟩:=y3_ BK1
         have p2:0≤(x3_1:Int):=of_decide_eq_true zq_
         have q2:x3_1<(l0_0.length:Int):=of_decide_eq_true zq_
         obtain ⟨ad2,e2,hx2_0,hx2_1,hx2_2,hx2_3,hx2_4,hx2_5⟩:=at_T54 HR0_0.out x3_1 p2 q2
         cases e2
         replace hx2_0:=zx_ HB hx2_0
         replace hx2_1:=zx_ HB hx2_1
         replace hx2_2:=zx_ HB hx2_2
         replace hx2_3:=zx_ HB hx2_3
         replace hx2_4:=zx_ HB hx2_4
         replace hx2_5:=zx_ HB hx2_5
         replace p2:=eq_true p2
         replace q2:=eq_true q2
         go_wp2
         go_ret
         exact ⟨by first|rfl|(simp [errW_none,errW_some]<;>rfl)|(simp [*,errW_none,errW_some]<;>rfl),zl1_ HB GE1⟩
        rw [if_neg c10] at H
        have c10b0:decide (100<(((rd_T54 l0_0 x3_1).f0).size:Int))=false:=decide_eq_false c10
        have c10b1:decide (100<((rd_T54 l0_0 x3_1).f0).size)=false:=decide_eq_false (by omega)
        clear c10
        by_cases c12:(((rd_T54 l0_0 x3_1).f1).size:Int)>100
        ·rw [if_pos c12] at H
         have c12b0:decide (100<(((rd_T54 l0_0 x3_1).f1).size:Int))=true:=decide_eq_true c12
         have c12b1:decide (100<((rd_T54 l0_0 x3_1).f1).size)=true:=decide_eq_true (by omega)
         clear c12
         obtain rfl:=Option.some.inj H
         obtain ⟨hcz13_0,hcz13_1,hcz13_2,hfz13_0,hfz13_1,hfz13_2⟩:=y3_ BK1
         have p2:0≤(x3_1:Int):=of_decide_eq_true zq_
         have q2:x3_1<(l0_0.length:Int):=of_decide_eq_true zq_
         obtain ⟨ad2,e2,hx2_0,hx2_1,hx2_2,hx2_3,hx2_4,hx2_5⟩:=at_T54 HR0_0.out x3_1 p2 q2
         cases e2
         replace hx2_0:=zx_ HB hx2_0
         replace hx2_1:=zx_ HB hx2_1
         replace hx2_2:=zx_ HB hx2_2
         replace hx2_3:=zx_ HB hx2_3
         replace hx2_4:=zx_ HB hx2_4
         replace hx2_5:=zx_ HB hx2_5
         replace p2:=eq_true p2
         replace q2:=eq_true q2
         have p3:0≤(x3_1:Int):=of_decide_eq_true zq_
         have q3:x3_1<(l0_0.length:Int):=of_decide_eq_true zq_
         obtain ⟨ad3,e3,hx3_0,hx3_1,hx3_2,hx3_3,hx3_4,hx3_5⟩:=at_T54 HR0_0.out x3_1 p3 q3
         obtain rfl:ad2=ad3:=(by injection e3)
         replace hx3_0:=zx_ HB hx3_0
         replace hx3_1:=zx_ HB hx3_1
         replace hx3_2:=zx_ HB hx3_2
         replace hx3_3:=zx_ HB hx3_3
         replace hx3_4:=zx_ HB hx3_4
         replace hx3_5:=zx_ HB hx3_5
         replace p3:=eq_true p3
         replace q3:=eq_true q3
         go_wp2
         go_ret
         exact ⟨by first|rfl|(simp [errW_none,errW_some]<;>rfl)|(simp [*,errW_none,errW_some]<;>rfl),zl1_ HB GE1⟩
        rw [if_neg c12] at H
        have c12b0:decide (100<(((rd_T54 l0_0 x3_1).f1).size:Int))=false:=decide_eq_false c12
        have c12b1:decide (100<((rd_T54 l0_0 x3_1).f1).size)=false:=decide_eq_false (by omega)
        clear c12
        have H':=Aside0.mk H
        clear H
        obtain ⟨hcz14_0,hcz14_1,hcz14_2,hfz14_0,hfz14_1,hfz14_2⟩:=y3_ BK1
        have p2:0≤(x3_1:Int):=of_decide_eq_true zq_
        have q2:x3_1<(l0_0.length:Int):=of_decide_eq_true zq_
        obtain ⟨ad2,e2,hx2_0,hx2_1,hx2_2,hx2_3,hx2_4,hx2_5⟩:=at_T54 HR0_0.out x3_1 p2 q2
        cases e2
        replace hx2_0:=zx_ HB hx2_0
        replace hx2_1:=zx_ HB hx2_1
        replace hx2_2:=zx_ HB hx2_2
        replace hx2_3:=zx_ HB hx2_3
        replace hx2_4:=zx_ HB hx2_4
        replace hx2_5:=zx_ HB hx2_5
        replace p2:=eq_true p2
        replace q2:=eq_true q2
        have p3:0≤(x3_1:Int):=of_decide_eq_true zq_
        have q3:x3_1<(l0_0.length:Int):=of_decide_eq_true zq_
        obtain ⟨ad3,e3,hx3_0,hx3_1,hx3_2,hx3_3,hx3_4,hx3_5⟩:=at_T54 HR0_0.out x3_1 p3 q3
        obtain rfl:ad2=ad3:=(by injection e3)
        replace hx3_0:=zx_ HB hx3_0
        replace hx3_1:=zx_ HB hx3_1
        replace hx3_2:=zx_ HB hx3_2
        replace hx3_3:=zx_ HB hx3_3
        replace hx3_4:=zx_ HB hx3_4
        replace hx3_5:=zx_ HB hx3_5
        replace p3:=eq_true p3
        replace q3:=eq_true q3
        go_wp2
        go_roundg kj2
        case measure=>have:=HK1.out;have:=HJ2.out;omega
        case rel=>exact ⟨(wrap64 (x3_1+1)),(by first|rfl|(simp;done)|(simp [*];done)),H',⟨by have:=HK1.out;have:=HJ2.out;omega⟩,⟨by refine zk_ ?_;exact BK1.out⟩,⟨zl1_ HB GE1⟩⟩
       rw [if_neg c9] at H
       exact absurd H (by simp)
      rw [if_neg c8] at H
      exact absurd H (by simp)
     replace c7:=Bool.eq_false_iff.mpr c7
     subst c7
     have H1:(law16_Great.l1 kj2 0 l0_0 l0_1 a0_2)=some r:=by rw [if_neg (show¬(false=true) by decide)] at H;exact H
     clear H
     have H:=H1
     clear H1
     have H':=Aside0.mk H
     clear H
     go_wp2
     go_loopg [4] kj2 (fun kq v4 w'=> ∃(x4_3:Int),v4= .int .i64 x4_3∧Aside0 (law16_Great.l1 kq x4_3 l0_0 l0_1 a0_2=some r)∧Aside0 (kq≤kj2)∧Aside0 (w'.heap[gb1]?=some (.cells #[(.slice A0_0 l0_0.length c0_0),(.slice A0_1 l0_1.length c0_1), .int .i64 a0_2] 42 (0,0)))∧Aside0 (Below w.heap.size w w'))
     case atStart=>exact ⟨(0),(by first|rfl|(simp;done)|(simp [*];done)),H',⟨Nat.le_refl _⟩,⟨by refine zk_ ?_;exact BK1.out⟩,⟨zl1_ HB GE1⟩⟩
     case round=>
      clear H'
      try clear c1
      try clear p2
      try clear q2
      try clear hx2
      try clear c3
      try clear p3
      try clear q3
      try clear hx3
      try clear c4
      try clear c4b0
      try clear p6
      try clear c7
      try clear c8
      try clear c8b0
      try clear c9
      try clear c9b0
      try clear c10
      try clear c10b0
      try clear c10b1
      try clear c12
      try clear c12b0
      try clear c12b1
      try clear hcz11_0
      try clear hcz11_1
      try clear hcz11_2
      try clear hcz13_0
      try clear hcz13_1
      try clear hcz13_2
      try clear hcz14_0
      try clear hcz14_1
      try clear hcz14_2
      try clear hcz5_0
      try clear hcz5_1
      try clear hcz5_2
      try clear hcz6_0
      try clear hcz6_1
      try clear hcz6_2
      try clear hfz11_0
      try clear hfz11_1
      try clear hfz11_2
      try clear hfz13_0
      try clear hfz13_1
      try clear hfz13_2
      try clear hfz14_0
      try clear hfz14_1
      try clear hfz14_2
      try clear hfz5_0
      try clear hfz5_1
      try clear hfz5_2
      try clear hfz6_0
      try clear hfz6_1
      try clear hfz6_2
      try clear hx2_0
      try clear hx2_1
      try clear hx2_2
      try clear hx2_3
      try clear hx2_4
      try clear hx2_5
      try clear hx3_0
      try clear hx3_1
      try clear hx3_2
      try clear hx3_3
      try clear hx3_4
      try clear hx3_5
      try clear p2
      try clear p3
      try clear q2
      try clear q3
      obtain ⟨x4_3,rfl,HA,HK3,BK1,HB⟩:=hrel
      cases gk with
      |zero=>exact absurd HA.out (by simp [law16_Great.l1])
      |succ k3=>
       have H:=HA.out
       clear HA
       simp only [law16_Great.l1] at H
       have HC15:=Aside0.mk H
       clear H
       go_upto_region 7 with (fail)
       go_cut [42] (fun v42 wc=> ∃(kq:Nat) (x42_14:Bool),v42= .bool x42_14∧Aside0 (law16_Great.j3 kq x4_3 x42_14 l0_0 l0_1 a0_2=some r)∧Aside0 (kq≤k3)∧Aside0 (wc.heap[gb1]?=some (.cells #[(.slice A0_0 l0_0.length c0_0),(.slice A0_1 l0_1.length c0_1), .int .i64 a0_2] 42 (0,0)))∧Aside0 (Below w.heap.size w wc))
       case first=>
        have H:=HC15.out
        clear HC15
        by_cases c16:x4_3<(l0_1.length:Int)
        ·rw [if_pos c16] at H
         have c16b0:decide (x4_3<(l0_1.length:Int))=true:=decide_eq_true c16
         clear c16
         (first|rw [c16b0]|(simp only [i64_w,i32_w];rw [c16b0])|skip)
         have H':=Aside0.mk H
         clear H
         obtain ⟨hcz17_0,hcz17_1,hcz17_2,hfz17_0,hfz17_1,hfz17_2⟩:=y3_ BK1
         go_wp2
         go_meet
         case rel=>exact ⟨_,(decide (x4_3<600)),(by first|rfl|(simp;done)|(simp [*];done)),H',⟨by have:=HK1.out;have:=HJ2.out;have:=HK3.out;first|omega|exact Nat.le_refl _⟩,⟨by refine zk_ ?_;exact BK1.out⟩,⟨zl1_ HB GE1⟩⟩
        rw [if_neg c16] at H
        have c16b0:decide (x4_3<(l0_1.length:Int))=false:=decide_eq_false c16
        clear c16
        (first|rw [c16b0]|(simp only [i64_w,i32_w];rw [c16b0])|skip)
        have H':=Aside0.mk H
        clear H
        obtain ⟨hcz18_0,hcz18_1,hcz18_2,hfz18_0,hfz18_1,hfz18_2⟩:=y3_ BK1
        go_wp2
        go_meet
        case rel=>exact ⟨_,(false),(by first|rfl|(simp;done)|(simp [*];done)),H',⟨by have:=HK1.out;have:=HJ2.out;have:=HK3.out;first|omega|exact Nat.le_refl _⟩,⟨by refine zk_ ?_;exact BK1.out⟩,⟨zl1_ HB GE1⟩⟩
       case rest=>
        clear HC15
        try clear c1
        try clear p2
        try clear q2
        try clear hx2
        try clear c3
        try clear p3
        try clear q3
        try clear hx3
        try clear c4
        try clear c4b0
        try clear p6
        try clear c7
        try clear c8
        try clear c8b0
        try clear c9
        try clear c9b0
        try clear c10
        try clear c10b0
        try clear c10b1
        try clear c12
        try clear c12b0
        try clear c12b1
        try clear c16
        try clear c16b0
        try clear hcz11_0
        try clear hcz11_1
        try clear hcz11_2
        try clear hcz13_0
        try clear hcz13_1
        try clear hcz13_2
        try clear hcz14_0
        try clear hcz14_1
        try clear hcz14_2
        try clear hcz17_0
        try clear hcz17_1
        try clear hcz17_2
        try clear hcz18_0
        try clear hcz18_1
        try clear hcz18_2
        try clear hcz5_0
        try clear hcz5_1
        try clear hcz5_2
        try clear hcz6_0
        try clear hcz6_1
        try clear hcz6_2
        try clear hfz11_0
        try clear hfz11_1
        try clear hfz11_2
        try clear hfz13_0
        try clear hfz13_1
        try clear hfz13_2
        try clear hfz14_0
        try clear hfz14_1
        try clear hfz14_2
        try clear hfz17_0
        try clear hfz17_1
        try clear hfz17_2
        try clear hfz18_0
        try clear hfz18_1
        try clear hfz18_2
        try clear hfz5_0
        try clear hfz5_1
        try clear hfz5_2
        try clear hfz6_0
        try clear hfz6_1
        try clear hfz6_2
        try clear hx2_0
        try clear hx2_1
        try clear hx2_2
        try clear hx2_3
        try clear hx2_4
        try clear hx2_5
        try clear hx3_0
        try clear hx3_1
        try clear hx3_2
        try clear hx3_3
        try clear hx3_4
        try clear hx3_5
        try clear p2
        try clear p3
        try clear p6
        try clear q2
        try clear q3
        obtain ⟨kq,x42_14,rfl,HA,HJ14,BK1,HB⟩:=hcut
        cases kq with
        |zero=>exact absurd HA.out (by simp [law16_Great.j3])
        |succ kj14=>
         have H:=HA.out
         clear HA
         simp only [law16_Great.j3] at H
         by_cases c19:x42_14=true
         ·subst c19
          have H1:(if 0≤x4_3 then (if x4_3<(l0_1.length:Int) then (if (((rd_T58 l0_1 x4_3).f1).size:Int)>100 then (some true) else (if (((rd_T58 l0_1 x4_3).f2).size:Int)>100 then (some true) else (law16_Great.l1 kj14 (wrap64 (x4_3+1)) l0_0 l0_1 a0_2))) else (none)) else (none))=some r:=by rw [if_pos rfl] at H;exact H
          clear H
          have H:=H1
          clear H1
          by_cases c20:0≤x4_3
          ·rw [if_pos c20] at H
           have c20b0:decide (0≤x4_3)=true:=decide_eq_true c20
           clear c20
           by_cases c21:x4_3<(l0_1.length:Int)
           ·rw [if_pos c21] at H
            have c21b0:decide (x4_3<(l0_1.length:Int))=true:=decide_eq_true c21
            clear c21
            by_cases c22:(((rd_T58 l0_1 x4_3).f1).size:Int)>100
            ·rw [if_pos c22] at H
             have c22b0:decide (100<(((rd_T58 l0_1 x4_3).f1).size:Int))=true:=decide_eq_true c22
             have c22b1:decide (100<((rd_T58 l0_1 x4_3).f1).size)=true:=decide_eq_true (by omega)
             clear c22
             obtain rfl:=Option.some.inj H
             obtain ⟨hcz23_0,hcz23_1,hcz23_2,hfz23_0,hfz23_1,hfz23_2⟩:=y3_ BK1
             have p4:0≤(x4_3:Int):=of_decide_eq_true zq_
             have q4:x4_3<(l0_1.length:Int):=of_decide_eq_true zq_
             obtain ⟨ad4,e4,hx4_0,hx4_1,hx4_2,hx4_3,hx4_4,hx4_5⟩:=at_T58 HR0_1.out x4_3 p4 q4
             cases e4
             replace hx4_0:=zx_ HB hx4_0
             replace hx4_1:=zx_ HB hx4_1
             replace hx4_2:=zx_ HB hx4_2
             replace hx4_3:=zx_ HB hx4_3
             replace hx4_4:=zx_ HB hx4_4
             replace hx4_5:=zx_ HB hx4_5
             replace p4:=eq_true p4
             replace q4:=eq_true q4
             go_wp2
             go_ret
             exact ⟨by first|rfl|(simp [errW_none,errW_some]<;>rfl)|(simp [*,errW_none,errW_some]<;>rfl),zl1_ HB GE1⟩
            rw [if_neg c22] at H
            have c22b0:decide (100<(((rd_T58 l0_1 x4_3).f1).size:Int))=false:=decide_eq_false c22
            have c22b1:decide (100<((rd_T58 l0_1 x4_3).f1).size)=false:=decide_eq_false (by omega)
            clear c22
            by_cases c24:(((rd_T58 l0_1 x4_3).f2).size:Int)>100
            ·rw [if_pos c24] at H
             have c24b0:decide (100<(((rd_T58 l0_1 x4_3).f2).size:Int))=true:=decide_eq_true c24
             have c24b1:decide (100<((rd_T58 l0_1 x4_3).f2).size)=true:=decide_eq_true (by omega)
             clear c24
             obtain rfl:=Option.some.inj H
             obtain ⟨hcz25_0,hcz25_1,hcz25_2,hfz25_0,hfz25_1,hfz25_2⟩:=y3_ BK1
             have p4:0≤(x4_3:Int):=of_decide_eq_true zq_
             have q4:x4_3<(l0_1.length:Int):=of_decide_eq_true zq_
             obtain ⟨ad4,e4,hx4_0,hx4_1,hx4_2,hx4_3,hx4_4,hx4_5⟩:=at_T58 HR0_1.out x4_3 p4 q4
             cases e4
             replace hx4_0:=zx_ HB hx4_0
             replace hx4_1:=zx_ HB hx4_1
             replace hx4_2:=zx_ HB hx4_2
             replace hx4_3:=zx_ HB hx4_3
             replace hx4_4:=zx_ HB hx4_4
             replace hx4_5:=zx_ HB hx4_5
             replace p4:=eq_true p4
             replace q4:=eq_true q4
             have p5:0≤(x4_3:Int):=of_decide_eq_true zq_
             have q5:x4_3<(l0_1.length:Int):=of_decide_eq_true zq_
             obtain ⟨ad5,e5,hx5_0,hx5_1,hx5_2,hx5_3,hx5_4,hx5_5⟩:=at_T58 HR0_1.out x4_3 p5 q5
             obtain rfl:ad4=ad5:=(by injection e5)
             replace hx5_0:=zx_ HB hx5_0
             replace hx5_1:=zx_ HB hx5_1
             replace hx5_2:=zx_ HB hx5_2
             replace hx5_3:=zx_ HB hx5_3
             replace hx5_4:=zx_ HB hx5_4
             replace hx5_5:=zx_ HB hx5_5
             replace p5:=eq_true p5
             replace q5:=eq_true q5
             go_wp2
             go_ret
             exact ⟨by first|rfl|(simp [errW_none,errW_some]<;>rfl)|(simp [*,errW_none,errW_some]<;>rfl),zl1_ HB GE1⟩
            rw [if_neg c24] at H
            have c24b0:decide (100<(((rd_T58 l0_1 x4_3).f2).size:Int))=false:=decide_eq_false c24
            have c24b1:decide (100<((rd_T58 l0_1 x4_3).f2).size)=false:=decide_eq_false (by omega)
            clear c24
            have H':=Aside0.mk H
            clear H
            obtain ⟨hcz26_0,hcz26_1,hcz26_2,hfz26_0,hfz26_1,hfz26_2⟩:=y3_ BK1
            have p4:0≤(x4_3:Int):=of_decide_eq_true zq_
            have q4:x4_3<(l0_1.length:Int):=of_decide_eq_true zq_
            obtain ⟨ad4,e4,hx4_0,hx4_1,hx4_2,hx4_3,hx4_4,hx4_5⟩:=at_T58 HR0_1.out x4_3 p4 q4
            cases e4
            replace hx4_0:=zx_ HB hx4_0
            replace hx4_1:=zx_ HB hx4_1
            replace hx4_2:=zx_ HB hx4_2
            replace hx4_3:=zx_ HB hx4_3
            replace hx4_4:=zx_ HB hx4_4
            replace hx4_5:=zx_ HB hx4_5
            replace p4:=eq_true p4
            replace q4:=eq_true q4
            have p5:0≤(x4_3:Int):=of_decide_eq_true zq_
            have q5:x4_3<(l0_1.length:Int):=of_decide_eq_true zq_
            obtain ⟨ad5,e5,hx5_0,hx5_1,hx5_2,hx5_3,hx5_4,hx5_5⟩:=at_T58 HR0_1.out x4_3 p5 q5
            obtain rfl:ad4=ad5:=(by injection e5)
            replace hx5_0:=zx_ HB hx5_0
            replace hx5_1:=zx_ HB hx5_1
            replace hx5_2:=zx_ HB hx5_2
            replace hx5_3:=zx_ HB hx5_3
            replace hx5_4:=zx_ HB hx5_4
            replace hx5_5:=zx_ HB hx5_5
            replace p5:=eq_true p5
            replace q5:=eq_true q5
            go_wp2
            go_roundg kj14
            case measure=>have:=HK1.out;have:=HJ2.out;have:=HK3.out;have:=HJ14.out;omega
            case rel=>exact ⟨(wrap64 (x4_3+1)),(by first|rfl|(simp;done)|(simp [*];done)),H',⟨by have:=HK1.out;have:=HJ2.out;have:=HK3.out;have:=HJ14.out;omega⟩,⟨by refine zk_ ?_;exact BK1.out⟩,⟨zl1_ HB GE1⟩⟩
           rw [if_neg c21] at H
           exact absurd H (by simp)
          rw [if_neg c20] at H
          exact absurd H (by simp)
         replace c19:=Bool.eq_false_iff.mpr c19
         subst c19
         have H1:(if (l0_0.length:Int)>260 then (some true) else (some (decide ((l0_1.length:Int)>500))))=some r:=by rw [if_neg (show¬(false=true) by decide)] at H;exact H
         clear H
         have H:=H1
         clear H1
         by_cases c27:(l0_0.length:Int)>260
         ·rw [if_pos c27] at H
          have c27b0:decide (260<(l0_0.length:Int))=true:=decide_eq_true c27
          have c27b1:decide (260<l0_0.length)=true:=decide_eq_true (by omega)
          clear c27
          obtain rfl:=Option.some.inj H
          obtain ⟨hcz28_0,hcz28_1,hcz28_2,hfz28_0,hfz28_1,hfz28_2⟩:=y3_ BK1
          go_wp2
          go_ret
          exact ⟨by first|rfl|(simp [errW_none,errW_some]<;>rfl)|(simp [*,errW_none,errW_some]<;>rfl),zl1_ HB GE1⟩
         rw [if_neg c27] at H
         have c27b0:decide (260<(l0_0.length:Int))=false:=decide_eq_false c27
         have c27b1:decide (260<l0_0.length)=false:=decide_eq_false (by omega)
         clear c27
         obtain rfl:=Option.some.inj H
         obtain ⟨hcz29_0,hcz29_1,hcz29_2,hfz29_0,hfz29_1,hfz29_2⟩:=y3_ BK1
         go_wp2
         go_ret
         exact ⟨by first|rfl|(simp [errW_none,errW_some]<;>rfl)|(simp [*,errW_none,errW_some]<;>rfl),zl1_ HB GE1⟩

def law17_awake.f:Option (Bool):=(drift_Of.f (([(⟨(⟨#[97]⟩:ByteArray),(⟨#[]⟩:ByteArray),(⟨0,0,0⟩:S27),1⟩:S54)]:List (S54))) ([]:List (S31))).bind fun t4=>((drift_Of.f ([]:List (S54)) ([]:List (S31))).bind fun t7=>(if (t7.length:Int)=0 then (if (t4.length:Int)=1 then (if 0<(t4.length:Int) then (if ((rd_T37 t4 0).f1)=1 then ((drift_Text.f ((rd_T37 t4 0).f0) ((rd_T37 t4 0).f1)).bind fun t12=>(some (t12.toList==([97,32,105,115,32,103,111,110,101]:List UInt8)))) else (some false)) else (none)) else (some false)) else (some false)))
set_option maxHeartbeats 8000000 in
set_option maxRecDepth 100000 in
theorem law17_awake.calls (r:Bool) (w:World) (h:law17_awake.f=some r):
  Calls Try.prog 38 #[] w fun e w'=>e= .returned (.bool r)∧Below w.heap.size w w':=by
 have hu54:=Try.underlying54
 have hu37:=Try.underlying37
 have HB:=am_ (Below.refl w.heap.size w)
 have H:((drift_Of.f (([(⟨(⟨#[97]⟩:ByteArray),(⟨#[]⟩:ByteArray),(⟨0,0,0⟩:S27),1⟩:S54)]:List (S54))) ([]:List (S31))).bind fun t4=>((drift_Of.f ([]:List (S54)) ([]:List (S31))).bind fun t7=>(if (t7.length:Int)=0 then (if (t4.length:Int)=1 then (if 0<(t4.length:Int) then (if ((rd_T37 t4 0).f1)=1 then ((drift_Text.f ((rd_T37 t4 0).f0) ((rd_T37 t4 0).f1)).bind fun t12=>(some (t12.toList==([97,32,105,115,32,103,111,110,101]:List UInt8)))) else (some false)) else (none)) else (some false)) else (some false))))=some r:=h
 clear h
 obtain ⟨y1,hy1⟩: ∃y_:List (S54),y_=(([(⟨(⟨#[97]⟩:ByteArray),(⟨#[]⟩:ByteArray),(⟨0,0,0⟩:S27),1⟩:S54)]:List (S54))):=⟨_,rfl⟩
 replace H:((drift_Of.f y1 ([]:List (S31))).bind fun t4=>((drift_Of.f ([]:List (S54)) ([]:List (S31))).bind fun t7=>(if (t7.length:Int)=0 then (if (t4.length:Int)=1 then (if 0<(t4.length:Int) then (if ((rd_T37 t4 0).f1)=1 then ((drift_Text.f ((rd_T37 t4 0).f0) ((rd_T37 t4 0).f1)).bind fun t12=>(some (t12.toList==([97,32,105,115,32,103,111,110,101]:List UInt8)))) else (some false)) else (none)) else (some false)) else (some false))))=some r:=by first|(rw [hy1];with_reducible exact H)|(have H2_:=(Option.bind_some _ _).symm.trans H;rw [hy1];with_reducible exact H2_)|(have H2_:=(Option.bind_some _ _).symm.trans H;with_reducible exact H2_)|with_reducible exact H|(rw [hy1];exact H)|exact H
 have Ny1:=Aside0.mk hy1
 clear hy1
 replace H:=Option.bind_eq_some_iff.mp H
 obtain ⟨t4,A10,H⟩:=H
 replace H:((drift_Of.f ([]:List (S54)) ([]:List (S31))).bind fun t7=>(if (t7.length:Int)=0 then (if (t4.length:Int)=1 then (if 0<(t4.length:Int) then (if ((rd_T37 t4 0).f1)=1 then ((drift_Text.f ((rd_T37 t4 0).f0) ((rd_T37 t4 0).f1)).bind fun t12=>(some (t12.toList==([97,32,105,115,32,103,111,110,101]:List UInt8)))) else (some false)) else (none)) else (some false)) else (some false)))=some r:=H
 have A1:=Aside0.mk A10
 clear A10
 replace H:=Option.bind_eq_some_iff.mp H
 obtain ⟨t7,A20,H⟩:=H
 replace H:(if (t7.length:Int)=0 then (if (t4.length:Int)=1 then (if 0<(t4.length:Int) then (if ((rd_T37 t4 0).f1)=1 then ((drift_Text.f ((rd_T37 t4 0).f0) ((rd_T37 t4 0).f1)).bind fun t12=>(some (t12.toList==([97,32,105,115,32,103,111,110,101]:List UInt8)))) else (some false)) else (none)) else (some false)) else (some false))=some r:=H
 have A2:=Aside0.mk A20
 clear A20
 by_cases c3:(t7.length:Int)=0
 ·rw [if_pos c3] at H
  have c3b0:((t7.length:Int)==0)=true:=beq_iff_eq.mpr c3
  have c3b1:((t7.length:Int) !=0)=false:=bne_eq_false_iff_eq.mpr c3
  clear c3
  by_cases c4:(t4.length:Int)=1
  ·rw [if_pos c4] at H
   have c4b0:((t4.length:Int)==1)=true:=beq_iff_eq.mpr c4
   have c4b1:((t4.length:Int) !=1)=false:=bne_eq_false_iff_eq.mpr c4
   clear c4
   by_cases c5:0<(t4.length:Int)
   ·rw [if_pos c5] at H
    have c5b0:decide (0<(t4.length:Int))=true:=decide_eq_true c5
    have c5b1:decide (0<t4.length)=true:=decide_eq_true (by omega)
    clear c5
    by_cases c6:((rd_T37 t4 0).f1)=1
    ·rw [if_pos c6] at H
     have c6b0:(((rd_T37 t4 0).f1)==1)=true:=beq_iff_eq.mpr c6
     have c6b1:(((rd_T37 t4 0).f1) !=1)=false:=bne_eq_false_iff_eq.mpr c6
     clear c6
     replace H:=Option.bind_eq_some_iff.mp H
     obtain ⟨t12,A70,H⟩:=H
     replace H:(some (t12.toList==([97,32,105,115,32,103,111,110,101]:List UInt8)))=some r:=H
     have A7:=Aside0.mk A70
     clear A70
     obtain rfl:=Option.some.inj H
     go_enter Try.func38,Try.ntmps38
     go_wp2_with (first|((with_reducible refine gate_dst (N:=3) rfl ?_);(try (refine gate_guard (by rfl) ?_;dsimp only));refine Kd.R_lit k54 _ 54 ?hg (N:=3) ?hd (xs:=([(⟨(⟨#[97]⟩:ByteArray),(⟨#[]⟩:ByteArray),(⟨0,0,0⟩:S27),1⟩:S54)]:List (S54))) (inner:=[.string (⟨#[97]⟩:ByteArray), .string (⟨#[]⟩:ByteArray), .int .i64 0, .int .i64 0, .int .i64 0, .int .i64 1]) (ok:=fun _=>True) (okp:=fun _=>True) ?hr ?hp (fun _ hk=>hk) trivial (Below.refl _ _) (Nat.le_refl _) (by simp) ?_;(case hd=>rfl);(case hg=>rfl);(case hr=>first|(go_simp;done)|(go_simp;rfl));(case hp=>exact (Reps.c6 (show Kd.M k54 _ _ _ (⟨(⟨#[97]⟩:ByteArray),(⟨#[]⟩:ByteArray),(⟨0,0,0⟩:S27),1⟩:S54) [.string (⟨#[97]⟩:ByteArray), .string (⟨#[]⟩:ByteArray), .int .i64 0, .int .i64 0, .int .i64 0, .int .i64 1] from (k54_mkM _ _ _ (⟨(⟨#[97]⟩:ByteArray),(⟨#[]⟩:ByteArray),(⟨0,0,0⟩:S27),1⟩:S54))) (Reps.none _ _)));intro v2 w8 ho9 hb hg_ hnew_;clear hg_ hnew_;(first|rw [←Ny1.out] at ho9|(simp only [Int.reduceToNat] at ho9;rw [←Ny1.out] at ho9));have n0_:=am_ (Kd.R_lower ho9 (below_size (zl0_ HB)));have n1_:=am_ (below_step (zl0_ HB) hb);clear HB;have HO3:=n0_;have HB:=n1_;clear n0_ n1_;clear hb ho9;obtain ⟨Ao10,co10,eo10⟩:=Kd.R_slice HO3.out;subst eo10)|((with_reducible refine gate_callee (f:=43) rfl ?_);refine goesL_ (some 4) rfl rfl Try.func43 (by kernel_rfl) rfl #[.slice Ao10 y1.length co10, .slice none 0 0] rfl zs_ ?_;(refine (drift_Of.calls _ _ y1 _ _ ([]:List (S31)) t4 _ ?side1 ?side2 ?side3 ?side4 A1.out).mono ?_);(case side1=>exact zc_ (Kd.R_reads' HO3.out).2.2);(case side2=>exact (Kd.R_reads' HO3.out).2.1);(case side3=>exact Kd.C_nil _ _);(case side4=>exact Nat.le_refl _);rintro e w11 ⟨v5,rfl,ho0,hb⟩;refine ⟨_,rfl, ?_⟩;have n0_:=am_ (Kd.R_below (zr_ HO3) hb);have n1_:=am_ (Kd.R_lower ho0 (below_size (zl0_ HB)));have n2_:=am_ (below_step (zl0_ HB) hb);clear HO3;clear HB;have HO3:=n0_;have HO6:=n1_;have HB:=n2_;clear n0_ n1_ n2_;(try clear hb);(try clear hb2);(try clear hk);(try clear hi);(try clear ho0))|((with_reducible refine gate_callee (f:=43) rfl ?_);refine goesL_ (some 5) rfl rfl Try.func43 (by kernel_rfl) rfl #[.slice none 0 0, .slice none 0 0] rfl zs_ ?_;(refine (drift_Of.calls _ _ ([]:List (S54)) _ _ ([]:List (S31)) t7 _ ?side1 ?side2 ?side3 ?side4 A2.out).mono ?_);(case side1=>exact Kd.C_nil _ _);(case side2=>exact Nat.le_refl _);(case side3=>exact Kd.C_nil _ _);(case side4=>exact Nat.le_refl _);rintro e w12 ⟨v8,rfl,ho0,hb⟩;refine ⟨_,rfl, ?_⟩;have n0_:=am_ (Kd.R_below (zr_ HO3) hb);have n1_:=am_ (Kd.R_elder' (zr_ HO6) (Kd.R_base ho0) hb);have n2_:=am_ (Kd.R_lower (Kd.R_new' ho0 (Kd.R_lt (zr_ HO6))) (below_size (zl0_ HB)));have n3_:=am_ (below_step (zl0_ HB) hb);clear HO3;clear HO6;clear HB;have HO3:=n0_;have HO6:=n1_;have HO9:=n2_;have HB:=n3_;clear n0_ n1_ n2_ n3_;(try clear hb);(try clear hb2);(try clear hk);(try clear hi);(try clear ho0);obtain ⟨Ao13,co13,eo13⟩:=Kd.R_slice HO9.out;subst eo13;obtain ⟨Ao14,co14,eo14⟩:=Kd.R_slice HO6.out;subst eo14;have p10:0≤(0:Int):=(by omega);have q10:0<(t4.length:Int):=of_decide_eq_true zq_;obtain ⟨ad10,e10,hx10_0,hx10_1⟩:=at_T37 (Kd.R_reads' HO6.out).2.2 0 p10 q10;cases e10;have qi10:(0<t4.length)=True:=eq_true (by omega);(try rw [show ((0:Int)).toNat=0 from rfl] at hx10_0);(try rw [show 0*2=0 from rfl] at hx10_0);(try rw [Addr.add_zero'] at hx10_0);(try rw [show ((0:Int)).toNat=0 from rfl] at hx10_1);(try rw [show 0*2=0 from rfl] at hx10_1);(try rw [Addr.add_zero'] at hx10_1);replace p10:=eq_true p10;replace q10:=eq_true q10;have p11:0≤(0:Int):=(by omega);have q11:0<(t4.length:Int):=of_decide_eq_true zq_;obtain ⟨ad11,e11,hx11_0,hx11_1⟩:=at_T37 (Kd.R_reads' HO6.out).2.2 0 p11 q11;obtain rfl:ad10=ad11:=(by injection e11);have qi11:(0<t4.length)=True:=eq_true (by omega);(try rw [show ((0:Int)).toNat=0 from rfl] at hx11_0);(try rw [show 0*2=0 from rfl] at hx11_0);(try rw [Addr.add_zero'] at hx11_0);(try rw [show ((0:Int)).toNat=0 from rfl] at hx11_1);(try rw [show 0*2=0 from rfl] at hx11_1);(try rw [Addr.add_zero'] at hx11_1);replace p11:=eq_true p11;replace q11:=eq_true q11)|(go_at_call 39;(with_reducible refine (drift_Text.calls ((rd_T37 t4 0).f0) ((rd_T37 t4 0).f1) t12 _ A7.out).mono ?_);rintro e w15 ⟨rfl,hb⟩;have n0_:=am_ (Kd.R_below (zr_ HO3) hb);have n1_:=am_ (Kd.R_below (zr_ HO6) hb);have n2_:=am_ (Kd.R_below (zr_ HO9) hb);have n3_:=am_ (below_step (zl0_ HB) hb);clear HO3;clear HO6;clear HO9;clear HB;have HO3:=n0_;have HO6:=n1_;have HO9:=n2_;have HB:=n3_;clear n0_ n1_ n2_ n3_;(try clear hb);(try clear hb2);(try clear hk);(try clear hi)))
     go_ret
     exact ⟨by first|rfl|(simp [errW_none,errW_some]<;>rfl)|(simp [*,errW_none,errW_some]<;>rfl),zl0_ HB⟩
    rw [if_neg c6] at H
    have c6b0:(((rd_T37 t4 0).f1)==1)=false:=beq_eq_false_iff_ne.mpr c6
    have c6b1:(((rd_T37 t4 0).f1) !=1)=true:=bne_iff_ne.mpr c6
    obtain rfl:=Option.some.inj H
    go_enter Try.func38,Try.ntmps38
    go_wp2_with (first|((with_reducible refine gate_dst (N:=3) rfl ?_);(try (refine gate_guard (by rfl) ?_;dsimp only));refine Kd.R_lit k54 _ 54 ?hg (N:=3) ?hd (xs:=([(⟨(⟨#[97]⟩:ByteArray),(⟨#[]⟩:ByteArray),(⟨0,0,0⟩:S27),1⟩:S54)]:List (S54))) (inner:=[.string (⟨#[97]⟩:ByteArray), .string (⟨#[]⟩:ByteArray), .int .i64 0, .int .i64 0, .int .i64 0, .int .i64 1]) (ok:=fun _=>True) (okp:=fun _=>True) ?hr ?hp (fun _ hk=>hk) trivial (Below.refl _ _) (Nat.le_refl _) (by simp) ?_;(case hd=>rfl);(case hg=>rfl);(case hr=>first|(go_simp;done)|(go_simp;rfl));(case hp=>exact (Reps.c6 (show Kd.M k54 _ _ _ (⟨(⟨#[97]⟩:ByteArray),(⟨#[]⟩:ByteArray),(⟨0,0,0⟩:S27),1⟩:S54) [.string (⟨#[97]⟩:ByteArray), .string (⟨#[]⟩:ByteArray), .int .i64 0, .int .i64 0, .int .i64 0, .int .i64 1] from (k54_mkM _ _ _ (⟨(⟨#[97]⟩:ByteArray),(⟨#[]⟩:ByteArray),(⟨0,0,0⟩:S27),1⟩:S54))) (Reps.none _ _)));intro v2 w16 ho17 hb hg_ hnew_;clear hg_ hnew_;(first|rw [←Ny1.out] at ho17|(simp only [Int.reduceToNat] at ho17;rw [←Ny1.out] at ho17));have n0_:=am_ (Kd.R_lower ho17 (below_size (zl0_ HB)));have n1_:=am_ (below_step (zl0_ HB) hb);clear HB;have HO3:=n0_;have HB:=n1_;clear n0_ n1_;clear hb ho17;obtain ⟨Ao18,co18,eo18⟩:=Kd.R_slice HO3.out;subst eo18)|((with_reducible refine gate_callee (f:=43) rfl ?_);refine goesL_ (some 4) rfl rfl Try.func43 (by kernel_rfl) rfl #[.slice Ao18 y1.length co18, .slice none 0 0] rfl zs_ ?_;(refine (drift_Of.calls _ _ y1 _ _ ([]:List (S31)) t4 _ ?side1 ?side2 ?side3 ?side4 A1.out).mono ?_);(case side1=>exact zc_ (Kd.R_reads' HO3.out).2.2);(case side2=>exact (Kd.R_reads' HO3.out).2.1);(case side3=>exact Kd.C_nil _ _);(case side4=>exact Nat.le_refl _);rintro e w19 ⟨v5,rfl,ho0,hb⟩;refine ⟨_,rfl, ?_⟩;have n0_:=am_ (Kd.R_below (zr_ HO3) hb);have n1_:=am_ (Kd.R_lower ho0 (below_size (zl0_ HB)));have n2_:=am_ (below_step (zl0_ HB) hb);clear HO3;clear HB;have HO3:=n0_;have HO6:=n1_;have HB:=n2_;clear n0_ n1_ n2_;(try clear hb);(try clear hb2);(try clear hk);(try clear hi);(try clear ho0))|((with_reducible refine gate_callee (f:=43) rfl ?_);refine goesL_ (some 5) rfl rfl Try.func43 (by kernel_rfl) rfl #[.slice none 0 0, .slice none 0 0] rfl zs_ ?_;(refine (drift_Of.calls _ _ ([]:List (S54)) _ _ ([]:List (S31)) t7 _ ?side1 ?side2 ?side3 ?side4 A2.out).mono ?_);(case side1=>exact Kd.C_nil _ _);(case side2=>exact Nat.le_refl _);(case side3=>exact Kd.C_nil _ _);(case side4=>exact Nat.le_refl _);rintro e w20 ⟨v8,rfl,ho0,hb⟩;refine ⟨_,rfl, ?_⟩;have n0_:=am_ (Kd.R_below (zr_ HO3) hb);have n1_:=am_ (Kd.R_elder' (zr_ HO6) (Kd.R_base ho0) hb);have n2_:=am_ (Kd.R_lower (Kd.R_new' ho0 (Kd.R_lt (zr_ HO6))) (below_size (zl0_ HB)));have n3_:=am_ (below_step (zl0_ HB) hb);clear HO3;clear HO6;clear HB;have HO3:=n0_;have HO6:=n1_;have HO9:=n2_;have HB:=n3_;clear n0_ n1_ n2_ n3_;(try clear hb);(try clear hb2);(try clear hk);(try clear hi);(try clear ho0);obtain ⟨Ao21,co21,eo21⟩:=Kd.R_slice HO9.out;subst eo21;obtain ⟨Ao22,co22,eo22⟩:=Kd.R_slice HO6.out;subst eo22;have p10:0≤(0:Int):=(by omega);have q10:0<(t4.length:Int):=of_decide_eq_true zq_;obtain ⟨ad10,e10,hx10_0,hx10_1⟩:=at_T37 (Kd.R_reads' HO6.out).2.2 0 p10 q10;cases e10;have qi10:(0<t4.length)=True:=eq_true (by omega);(try rw [show ((0:Int)).toNat=0 from rfl] at hx10_0);(try rw [show 0*2=0 from rfl] at hx10_0);(try rw [Addr.add_zero'] at hx10_0);(try rw [show ((0:Int)).toNat=0 from rfl] at hx10_1);(try rw [show 0*2=0 from rfl] at hx10_1);(try rw [Addr.add_zero'] at hx10_1);replace p10:=eq_true p10;replace q10:=eq_true q10))
    go_ret
    exact ⟨by first|rfl|(simp [errW_none,errW_some]<;>rfl)|(simp [*,errW_none,errW_some]<;>rfl),zl0_ HB⟩
   rw [if_neg c5] at H
   exact absurd H (by simp)
  rw [if_neg c4] at H
  have c4b0:((t4.length:Int)==1)=false:=beq_eq_false_iff_ne.mpr c4
  have c4b1:((t4.length:Int) !=1)=true:=bne_iff_ne.mpr c4
  obtain rfl:=Option.some.inj H
  go_enter Try.func38,Try.ntmps38
  go_wp2_with (first|((with_reducible refine gate_dst (N:=3) rfl ?_);(try (refine gate_guard (by rfl) ?_;dsimp only));refine Kd.R_lit k54 _ 54 ?hg (N:=3) ?hd (xs:=([(⟨(⟨#[97]⟩:ByteArray),(⟨#[]⟩:ByteArray),(⟨0,0,0⟩:S27),1⟩:S54)]:List (S54))) (inner:=[.string (⟨#[97]⟩:ByteArray), .string (⟨#[]⟩:ByteArray), .int .i64 0, .int .i64 0, .int .i64 0, .int .i64 1]) (ok:=fun _=>True) (okp:=fun _=>True) ?hr ?hp (fun _ hk=>hk) trivial (Below.refl _ _) (Nat.le_refl _) (by simp) ?_;(case hd=>rfl);(case hg=>rfl);(case hr=>first|(go_simp;done)|(go_simp;rfl));(case hp=>exact (Reps.c6 (show Kd.M k54 _ _ _ (⟨(⟨#[97]⟩:ByteArray),(⟨#[]⟩:ByteArray),(⟨0,0,0⟩:S27),1⟩:S54) [.string (⟨#[97]⟩:ByteArray), .string (⟨#[]⟩:ByteArray), .int .i64 0, .int .i64 0, .int .i64 0, .int .i64 1] from (k54_mkM _ _ _ (⟨(⟨#[97]⟩:ByteArray),(⟨#[]⟩:ByteArray),(⟨0,0,0⟩:S27),1⟩:S54))) (Reps.none _ _)));intro v2 w23 ho24 hb hg_ hnew_;clear hg_ hnew_;(first|rw [←Ny1.out] at ho24|(simp only [Int.reduceToNat] at ho24;rw [←Ny1.out] at ho24));have n0_:=am_ (Kd.R_lower ho24 (below_size (zl0_ HB)));have n1_:=am_ (below_step (zl0_ HB) hb);clear HB;have HO3:=n0_;have HB:=n1_;clear n0_ n1_;clear hb ho24;obtain ⟨Ao25,co25,eo25⟩:=Kd.R_slice HO3.out;subst eo25)|((with_reducible refine gate_callee (f:=43) rfl ?_);refine goesL_ (some 4) rfl rfl Try.func43 (by kernel_rfl) rfl #[.slice Ao25 y1.length co25, .slice none 0 0] rfl zs_ ?_;(refine (drift_Of.calls _ _ y1 _ _ ([]:List (S31)) t4 _ ?side1 ?side2 ?side3 ?side4 A1.out).mono ?_);(case side1=>exact zc_ (Kd.R_reads' HO3.out).2.2);(case side2=>exact (Kd.R_reads' HO3.out).2.1);(case side3=>exact Kd.C_nil _ _);(case side4=>exact Nat.le_refl _);rintro e w26 ⟨v5,rfl,ho0,hb⟩;refine ⟨_,rfl, ?_⟩;have n0_:=am_ (Kd.R_below (zr_ HO3) hb);have n1_:=am_ (Kd.R_lower ho0 (below_size (zl0_ HB)));have n2_:=am_ (below_step (zl0_ HB) hb);clear HO3;clear HB;have HO3:=n0_;have HO6:=n1_;have HB:=n2_;clear n0_ n1_ n2_;(try clear hb);(try clear hb2);(try clear hk);(try clear hi);(try clear ho0))|((with_reducible refine gate_callee (f:=43) rfl ?_);refine goesL_ (some 5) rfl rfl Try.func43 (by kernel_rfl) rfl #[.slice none 0 0, .slice none 0 0] rfl zs_ ?_;(refine (drift_Of.calls _ _ ([]:List (S54)) _ _ ([]:List (S31)) t7 _ ?side1 ?side2 ?side3 ?side4 A2.out).mono ?_);(case side1=>exact Kd.C_nil _ _);(case side2=>exact Nat.le_refl _);(case side3=>exact Kd.C_nil _ _);(case side4=>exact Nat.le_refl _);rintro e w27 ⟨v8,rfl,ho0,hb⟩;refine ⟨_,rfl, ?_⟩;have n0_:=am_ (Kd.R_below (zr_ HO3) hb);have n1_:=am_ (Kd.R_elder' (zr_ HO6) (Kd.R_base ho0) hb);have n2_:=am_ (Kd.R_lower (Kd.R_new' ho0 (Kd.R_lt (zr_ HO6))) (below_size (zl0_ HB)));have n3_:=am_ (below_step (zl0_ HB) hb);clear HO3;clear HO6;clear HB;have HO3:=n0_;have HO6:=n1_;have HO9:=n2_;have HB:=n3_;clear n0_ n1_ n2_ n3_;(try clear hb);(try clear hb2);(try clear hk);(try clear hi);(try clear ho0);obtain ⟨Ao28,co28,eo28⟩:=Kd.R_slice HO9.out;subst eo28;obtain ⟨Ao29,co29,eo29⟩:=Kd.R_slice HO6.out;subst eo29))
  go_ret
  exact ⟨by first|rfl|(simp [errW_none,errW_some]<;>rfl)|(simp [*,errW_none,errW_some]<;>rfl),zl0_ HB⟩
 rw [if_neg c3] at H
 have c3b0:((t7.length:Int)==0)=false:=beq_eq_false_iff_ne.mpr c3
 have c3b1:((t7.length:Int) !=0)=true:=bne_iff_ne.mpr c3
 have c3b2: ¬(t7=[]):=fun h_=>c3 (by rw [h_];rfl)
 obtain rfl:=Option.some.inj H
 go_enter Try.func38,Try.ntmps38
 go_wp2_with (first|((with_reducible refine gate_dst (N:=3) rfl ?_);(try (refine gate_guard (by rfl) ?_;dsimp only));refine Kd.R_lit k54 _ 54 ?hg (N:=3) ?hd (xs:=([(⟨(⟨#[97]⟩:ByteArray),(⟨#[]⟩:ByteArray),(⟨0,0,0⟩:S27),1⟩:S54)]:List (S54))) (inner:=[.string (⟨#[97]⟩:ByteArray), .string (⟨#[]⟩:ByteArray), .int .i64 0, .int .i64 0, .int .i64 0, .int .i64 1]) (ok:=fun _=>True) (okp:=fun _=>True) ?hr ?hp (fun _ hk=>hk) trivial (Below.refl _ _) (Nat.le_refl _) (by simp) ?_;(case hd=>rfl);(case hg=>rfl);(case hr=>first|(go_simp;done)|(go_simp;rfl));(case hp=>exact (Reps.c6 (show Kd.M k54 _ _ _ (⟨(⟨#[97]⟩:ByteArray),(⟨#[]⟩:ByteArray),(⟨0,0,0⟩:S27),1⟩:S54) [.string (⟨#[97]⟩:ByteArray), .string (⟨#[]⟩:ByteArray), .int .i64 0, .int .i64 0, .int .i64 0, .int .i64 1] from (k54_mkM _ _ _ (⟨(⟨#[97]⟩:ByteArray),(⟨#[]⟩:ByteArray),(⟨0,0,0⟩:S27),1⟩:S54))) (Reps.none _ _)));intro v2 w30 ho31 hb hg_ hnew_;clear hg_ hnew_;(first|rw [←Ny1.out] at ho31|(simp only [Int.reduceToNat] at ho31;rw [←Ny1.out] at ho31));have n0_:=am_ (Kd.R_lower ho31 (below_size (zl0_ HB)));have n1_:=am_ (below_step (zl0_ HB) hb);clear HB;have HO3:=n0_;have HB:=n1_;clear n0_ n1_;clear hb ho31;obtain ⟨Ao32,co32,eo32⟩:=Kd.R_slice HO3.out;subst eo32)|((with_reducible refine gate_callee (f:=43) rfl ?_);refine goesL_ (some 4) rfl rfl Try.func43 (by kernel_rfl) rfl #[.slice Ao32 y1.length co32, .slice none 0 0] rfl zs_ ?_;(refine (drift_Of.calls _ _ y1 _ _ ([]:List (S31)) t4 _ ?side1 ?side2 ?side3 ?side4 A1.out).mono ?_);(case side1=>exact zc_ (Kd.R_reads' HO3.out).2.2);(case side2=>exact (Kd.R_reads' HO3.out).2.1);(case side3=>exact Kd.C_nil _ _);(case side4=>exact Nat.le_refl _);rintro e w33 ⟨v5,rfl,ho0,hb⟩;refine ⟨_,rfl, ?_⟩;have n0_:=am_ (Kd.R_below (zr_ HO3) hb);have n1_:=am_ (Kd.R_lower ho0 (below_size (zl0_ HB)));have n2_:=am_ (below_step (zl0_ HB) hb);clear HO3;clear HB;have HO3:=n0_;have HO6:=n1_;have HB:=n2_;clear n0_ n1_ n2_;(try clear hb);(try clear hb2);(try clear hk);(try clear hi);(try clear ho0))|((with_reducible refine gate_callee (f:=43) rfl ?_);refine goesL_ (some 5) rfl rfl Try.func43 (by kernel_rfl) rfl #[.slice none 0 0, .slice none 0 0] rfl zs_ ?_;(refine (drift_Of.calls _ _ ([]:List (S54)) _ _ ([]:List (S31)) t7 _ ?side1 ?side2 ?side3 ?side4 A2.out).mono ?_);(case side1=>exact Kd.C_nil _ _);(case side2=>exact Nat.le_refl _);(case side3=>exact Kd.C_nil _ _);(case side4=>exact Nat.le_refl _);rintro e w34 ⟨v8,rfl,ho0,hb⟩;refine ⟨_,rfl, ?_⟩;have n0_:=am_ (Kd.R_below (zr_ HO3) hb);have n1_:=am_ (Kd.R_elder' (zr_ HO6) (Kd.R_base ho0) hb);have n2_:=am_ (Kd.R_lower (Kd.R_new' ho0 (Kd.R_lt (zr_ HO6))) (below_size (zl0_ HB)));have n3_:=am_ (below_step (zl0_ HB) hb);clear HO3;clear HO6;clear HB;have HO3:=n0_;have HO6:=n1_;have HO9:=n2_;have HB:=n3_;clear n0_ n1_ n2_ n3_;(try clear hb);(try clear hb2);(try clear hk);(try clear hi);(try clear ho0);obtain ⟨Ao35,co35,eo35⟩:=Kd.R_slice HO9.out;subst eo35))
 go_ret
 exact ⟨by first|rfl|(simp [errW_none,errW_some]<;>rfl)|(simp [*,errW_none,errW_some]<;>rfl),zl0_ HB⟩

def law17_DriftAll.j0:Nat→List (S54)→List (S31)→Bool→ByteArray→Int→Option (Bool)
 |0,_,_,_,_,_=>none
 |k+1,x0,x1,x19,x2000,x2001=>if x19=true then ((law17_awake.f).bind fun t4=>(some t4)) else ((drift_Text.f x2000 x2001).bind fun t5=>((r16_DriftText.f x2000 x2001).bind fun t6=>(if t5.toList=t6.toList then ((r10_Right.f k x1).bind fun t7=>(if t7=true then ((drift_Of.f x0 x1).bind fun t9=>((r16_Drifts.f k x0 x1).bind fun t12=>((r16_SameDrifts.f k t9 t12).bind fun t15=>(if t15=true then ((drift_Fresh.f k x0 x1).bind fun t16=>((r16_Fresh.f k x0 x1).bind fun t19=>((r16_SameMarks.f k t16 t19).bind fun t22=>(if t22=true then ((law17_awake.f).bind fun t23=>(some t23)) else (none))))) else (none))))) else ((law17_awake.f).bind fun t8=>(some t8)))) else (none))))
def law17_DriftAll.f (k:Nat) (l0:List (S54)) (l1:List (S31)) (a2_0:ByteArray) (a2_1:Int):Option (Bool):=(law12_Great.f k l1).bind fun t2=>(if t2=true then (law17_DriftAll.j0 k l0 l1 true a2_0 a2_1) else ((law16_Great.f k l0 ([]:List (S58)) 0).bind fun t3=>(if t3=true then (law17_DriftAll.j0 k l0 l1 true a2_0 a2_1) else (law17_DriftAll.j0 k l0 l1 (decide ((a2_0.size:Int)>100)) a2_0 a2_1))))
theorem law17_DriftAll.mono_l: ∀k,(∀y0 y1 y2 y3 y4,LeO (law17_DriftAll.j0 k y0 y1 y2 y3 y4) (law17_DriftAll.j0 (k+1) y0 y1 y2 y3 y4))
 |0=>fun _ _ _ _ _ r h=>by simp [law17_DriftAll.j0] at h
 |k+1=>by
  have ih0:=law17_DriftAll.mono_l k
  intro y0 y1 y2 y3 y4
  unfold law17_DriftAll.j0
  repeat' first
  |(with_reducible exact ih0 _ _ _ _ _)
  |(with_reducible exact drift_Fresh.mono _ _ _)
  |(with_reducible exact law12_Great.mono _ _)
  |(with_reducible exact law16_Great.mono _ _ _ _)
  |(with_reducible exact r10_Right.mono _ _)
  |(with_reducible exact r16_Drifts.mono _ _ _)
  |(with_reducible exact r16_Fresh.mono _ _ _)
  |(with_reducible exact r16_SameDrifts.mono _ _ _)
  |(with_reducible exact r16_SameMarks.mono _ _ _)
  |(with_reducible exact LeO.refl _)
  |(with_reducible exact LeO.none _)
  |(with_reducible refine LeO.ite ?_ ?_)
  |(with_reducible refine LeO.bind ?_ (fun _=> ?_))
  |exact ih0 _ _ _ _ _
  |exact drift_Fresh.mono _ _ _
  |exact law12_Great.mono _ _
  |exact law16_Great.mono _ _ _ _
  |exact r10_Right.mono _ _
  |exact r16_Drifts.mono _ _ _
  |exact r16_Fresh.mono _ _ _
  |exact r16_SameDrifts.mono _ _ _
  |exact r16_SameMarks.mono _ _ _
  |exact LeO.none _
  |refine LeO.ite ?_ ?_
  |refine LeO.bind ?_ (fun _=> ?_)
theorem law17_DriftAll.mono: ∀a0 a1 a2 a3 k,LeO (law17_DriftAll.f k a0 a1 a2 a3) (law17_DriftAll.f (k+1) a0 a1 a2 a3):=by
 intro a0 a1 a2 a3 k
 have ih0:=law17_DriftAll.mono_l k
 unfold law17_DriftAll.f
 repeat' first
  |(with_reducible exact ih0 _ _ _ _ _)
  |(with_reducible exact drift_Fresh.mono _ _ _)
  |(with_reducible exact law12_Great.mono _ _)
  |(with_reducible exact law16_Great.mono _ _ _ _)
  |(with_reducible exact r10_Right.mono _ _)
  |(with_reducible exact r16_Drifts.mono _ _ _)
  |(with_reducible exact r16_Fresh.mono _ _ _)
  |(with_reducible exact r16_SameDrifts.mono _ _ _)
  |(with_reducible exact r16_SameMarks.mono _ _ _)
  |(with_reducible exact LeO.refl _)
  |(with_reducible exact LeO.none _)
  |(with_reducible refine LeO.ite ?_ ?_)
  |(with_reducible refine LeO.bind ?_ (fun _=> ?_))
  |exact ih0 _ _ _ _ _
  |exact drift_Fresh.mono _ _ _
  |exact law12_Great.mono _ _
  |exact law16_Great.mono _ _ _ _
  |exact r10_Right.mono _ _
  |exact r16_Drifts.mono _ _ _
  |exact r16_Fresh.mono _ _ _
  |exact r16_SameDrifts.mono _ _ _
  |exact r16_SameMarks.mono _ _ _
  |exact LeO.none _
  |refine LeO.ite ?_ ?_
  |refine LeO.bind ?_ (fun _=> ?_)
set_option maxHeartbeats 80000000 in
set_option maxRecDepth 100000 in
theorem law17_DriftAll.calls (k:Nat) (A0:Option Addr) (c0:Nat) (l0:List (S54)) (A1:Option Addr) (c1:Nat) (l1:List (S31)) (a2_0:ByteArray) (a2_1:Int) (r:Bool) (w:World) (hr0:Kd.C k54 w A0 l0.length l0) (hc0:l0.length≤c0) (hr1:Kd.C k31 w A1 l1.length l1) (hc1:l1.length≤c1) (h:law17_DriftAll.f k l0 l1 a2_0 a2_1=some r):
  Calls Try.prog 4 #[.slice A0 l0.length c0, .slice A1 l1.length c1, .agg #[.string a2_0, .int .i64 a2_1]] w fun e w'=>e= .returned (.bool r)∧Below w.heap.size w w':=by
 have hu37:=Try.underlying37
 have hu42:=Try.underlying42
 have HR0:=Aside0.mk hr0
 have HC0:=Aside0.mk hc0
 clear hr0 hc0
 have HR1:=Aside0.mk hr1
 have HC1:=Aside0.mk hc1
 clear hr1 hc1
 have HB:=am_ (Below.refl w.heap.size w)
 have H:((law12_Great.f k l1).bind fun t2=>(if t2=true then (law17_DriftAll.j0 k l0 l1 true a2_0 a2_1) else ((law16_Great.f k l0 ([]:List (S58)) 0).bind fun t3=>(if t3=true then (law17_DriftAll.j0 k l0 l1 true a2_0 a2_1) else (law17_DriftAll.j0 k l0 l1 (decide ((a2_0.size:Int)>100)) a2_0 a2_1)))))=some r:=h
 clear h
 have HC4:=Aside0.mk H
 clear H
 go_enter Try.func4,Try.ntmps4
 go_upto_region 1 with (first|((with_reducible refine gate_dst (N:=5) rfl ?_);(try (refine gate_guard (by rfl) ?_;dsimp only));refine box_event ?hg (N:=5) ?hd (cs:=#[.string a2_0, .int .i64 a2_1]) (t:=37) ?hr ?_;(case hd=>rfl);(case hg=>rfl);(case hr=>first|(go_simp;done)|(go_simp;rfl));intro gb1 hg w5 hbox hb;have n0_:=am_ (below_step (zl0_ HB) hb);have n1_:=am_ (hbox);have n2_:=am_ ((zg0_ HB hg:w.heap.size≤gb1));have n3_:=am_ ((zg0_ HB hg:w.heap.size≤gb1));clear HB;have HB:=n0_;have BK1:=n1_;have GW1:=n2_;have GE1:=n3_;clear n0_ n1_ n2_ n3_;clear hb hbox hg))
 (try simp only [Act.put,List.setIfInBounds_toArray,List.set_cons_zero,List.set_cons_succ])
 go_cut [19] (fun v19 wc=> ∃(kq:Nat) (x19_3:Bool),v19= .bool x19_3∧Aside0 (law17_DriftAll.j0 kq l0 l1 x19_3 a2_0 a2_1=some r)∧Aside0 (kq≤k)∧Aside0 (wc.heap[gb1]?=some (.cells #[.string a2_0, .int .i64 a2_1] 37 (0,0)))∧Aside0 (Below w.heap.size w wc))
 case first=>
  have H:=HC4.out
  clear HC4
  replace H:=Option.bind_eq_some_iff.mp H
  obtain ⟨t2,A60,H⟩:=H
  replace H:(if t2=true then (law17_DriftAll.j0 k l0 l1 true a2_0 a2_1) else ((law16_Great.f k l0 ([]:List (S58)) 0).bind fun t3=>(if t3=true then (law17_DriftAll.j0 k l0 l1 true a2_0 a2_1) else (law17_DriftAll.j0 k l0 l1 (decide ((a2_0.size:Int)>100)) a2_0 a2_1))))=some r:=H
  have A6:=Aside0.mk A60
  clear A60
  by_cases c7:t2=true
  ·subst c7
   have H1:(law17_DriftAll.j0 k l0 l1 true a2_0 a2_1)=some r:=by rw [if_pos rfl] at H;exact H
   clear H
   have H:=H1
   clear H1
   have H':=Aside0.mk H
   clear H
   go_wp2_with (first|((with_reducible refine gate_callee (f:=36) rfl ?_);refine goesL_ (some 8) rfl rfl Try.func36 (by kernel_rfl) rfl #[.slice A1 l1.length c1] rfl zs_ ?_;(with_reducible refine (law12_Great.calls k _ _ l1 true _ ?side1 ?side2 A6.out).mono ?_);(case side1=>exact zc_ (Kd.C_below HR1.out HB.out));(case side2=>exact HC1.out);rintro e w' ⟨rfl,⟨nd,rfl⟩⟩;refine ⟨_,rfl, ?_⟩))
   go_meet
   case rel=>exact ⟨_,(true),(by first|rfl|(simp;done)|(simp [*];done)),H',⟨by first|omega|exact Nat.le_refl _⟩,⟨by refine zk_ ?_;exact BK1.out⟩,⟨zl1_ HB GE1⟩⟩
  replace c7:=Bool.eq_false_iff.mpr c7
  subst c7
  have H1:((law16_Great.f k l0 ([]:List (S58)) 0).bind fun t3=>(if t3=true then (law17_DriftAll.j0 k l0 l1 true a2_0 a2_1) else (law17_DriftAll.j0 k l0 l1 (decide ((a2_0.size:Int)>100)) a2_0 a2_1)))=some r:=by rw [if_neg (show¬(false=true) by decide)] at H;exact H
  clear H
  have H:=H1
  clear H1
  replace H:=Option.bind_eq_some_iff.mp H
  obtain ⟨t3,A80,H⟩:=H
  replace H:(if t3=true then (law17_DriftAll.j0 k l0 l1 true a2_0 a2_1) else (law17_DriftAll.j0 k l0 l1 (decide ((a2_0.size:Int)>100)) a2_0 a2_1))=some r:=H
  have A8:=Aside0.mk A80
  clear A80
  by_cases c9:t3=true
  ·subst c9
   have H1:(law17_DriftAll.j0 k l0 l1 true a2_0 a2_1)=some r:=by rw [if_pos rfl] at H;exact H
   clear H
   have H:=H1
   clear H1
   have H':=Aside0.mk H
   clear H
   go_wp2_with (first|((with_reducible refine gate_callee (f:=36) rfl ?_);refine goesL_ (some 8) rfl rfl Try.func36 (by kernel_rfl) rfl #[.slice A1 l1.length c1] rfl zs_ ?_;(with_reducible refine (law12_Great.calls k _ _ l1 false _ ?side1 ?side2 A6.out).mono ?_);(case side1=>exact zc_ (Kd.C_below HR1.out HB.out));(case side2=>exact HC1.out);rintro e w' ⟨rfl,⟨nd,rfl⟩⟩;refine ⟨_,rfl, ?_⟩)|(go_at_call 37;(refine (law16_Great.calls k _ _ l0 _ _ ([]:List (S58)) 0 true _ ?side1 ?side2 ?side3 ?side4 A8.out).mono ?_);(case side1=>repeat (first|exact (Kd.C_below HR0.out (zl1_ HB GE1))|(with_reducible refine Kd.C_alloc ?_ _)|(with_reducible refine Kd.C_drewN ?_ _)|(with_reducible refine Kd.C_drew ?_)));(case side2=>exact HC0.out);(case side3=>exact Kd.C_nil _ _);(case side4=>exact Nat.le_refl _);rintro e w10 ⟨rfl,hb⟩;have n0_:=am_ (blk_below (zb_ BK1) hb);have n1_:=am_ (below_step (zl1_ HB GE1) hb);clear BK1;clear HB;have BK1:=n0_;have HB:=n1_;clear n0_ n1_;(try clear hb);(try clear hb2);(try clear hk);(try clear hi)))
   go_meet
   case rel=>exact ⟨_,(true),(by first|rfl|(simp;done)|(simp [*];done)),H',⟨by first|omega|exact Nat.le_refl _⟩,⟨by refine zk_ ?_;exact BK1.out⟩,⟨zl1_ HB GE1⟩⟩
  replace c9:=Bool.eq_false_iff.mpr c9
  subst c9
  have H1:(law17_DriftAll.j0 k l0 l1 (decide ((a2_0.size:Int)>100)) a2_0 a2_1)=some r:=by rw [if_neg (show¬(false=true) by decide)] at H;exact H
  clear H
  have H:=H1
  clear H1
  have H':=Aside0.mk H
  clear H
  go_wp2_with (first|((with_reducible refine gate_callee (f:=36) rfl ?_);refine goesL_ (some 8) rfl rfl Try.func36 (by kernel_rfl) rfl #[.slice A1 l1.length c1] rfl zs_ ?_;(with_reducible refine (law12_Great.calls k _ _ l1 false _ ?side1 ?side2 A6.out).mono ?_);(case side1=>exact zc_ (Kd.C_below HR1.out HB.out));(case side2=>exact HC1.out);rintro e w' ⟨rfl,⟨nd,rfl⟩⟩;refine ⟨_,rfl, ?_⟩)|(go_at_call 37;(refine (law16_Great.calls k _ _ l0 _ _ ([]:List (S58)) 0 false _ ?side1 ?side2 ?side3 ?side4 A8.out).mono ?_);(case side1=>repeat (first|exact (Kd.C_below HR0.out (zl1_ HB GE1))|(with_reducible refine Kd.C_alloc ?_ _)|(with_reducible refine Kd.C_drewN ?_ _)|(with_reducible refine Kd.C_drew ?_)));(case side2=>exact HC0.out);(case side3=>exact Kd.C_nil _ _);(case side4=>exact Nat.le_refl _);rintro e w11 ⟨rfl,hb⟩;have n0_:=am_ (blk_below (zb_ BK1) hb);have n1_:=am_ (below_step (zl1_ HB GE1) hb);clear BK1;clear HB;have BK1:=n0_;have HB:=n1_;clear n0_ n1_;(try clear hb);(try clear hb2);(try clear hk);(try clear hi);obtain ⟨hcz12_0,hcz12_1⟩:=x2_ BK1;have hfz12_0:=blk_frozen BK1.out 0;have hfz12_1:=blk_frozen BK1.out 1))
  go_meet
  case rel=>exact ⟨_,(decide ((a2_0.size:Int)>100)),(by first|rfl|(simp;done)|(simp [*];done)),H',⟨by first|omega|exact Nat.le_refl _⟩,⟨by refine zk_ ?_;exact BK1.out⟩,⟨zl1_ HB GE1⟩⟩
 case rest=>
  clear HC4
  try clear c1
  try clear p2
  try clear c3
  try clear c4
  try clear c7
  try clear c9
  try clear hcz12_0
  try clear hcz12_1
  try clear hfz12_0
  try clear hfz12_1
  obtain ⟨kq,x19_3,rfl,HA,HJ3,BK1,HB⟩:=hcut
  cases kq with
  |zero=>exact absurd HA.out (by simp [law17_DriftAll.j0])
  |succ kj3=>
   have H:=HA.out
   clear HA
   simp only [law17_DriftAll.j0] at H
   by_cases c13:x19_3=true
   ·subst c13
    have H1:((law17_awake.f).bind fun t4=>(some t4))=some r:=by rw [if_pos rfl] at H;exact H
    clear H
    have H:=H1
    clear H1
    replace H:=Option.bind_eq_some_iff.mp H
    obtain ⟨t4,A140,H⟩:=H
    replace H:(some t4)=some r:=H
    have A14:=Aside0.mk A140
    clear A140
    obtain rfl:=Option.some.inj H
    go_wp2_with (first|((with_reducible refine gate_callee (f:=38) rfl ?_);refine goesL_ (some 20) rfl rfl Try.func38 (by kernel_rfl) rfl #[] rfl zs_ ?_;(with_reducible refine (law17_awake.calls t4 _ A14.out).mono ?_);rintro e w15 ⟨rfl,hb⟩;refine ⟨_,rfl, ?_⟩;have n0_:=am_ (blk_below (zb_ BK1) hb);have n1_:=am_ (below_step (zl1_ HB GE1) hb);clear BK1;clear HB;have BK1:=n0_;have HB:=n1_;clear n0_ n1_;(try clear hb);(try clear hb2);(try clear hk);(try clear hi)))
    go_ret
    exact ⟨by first|rfl|(simp [errW_none,errW_some]<;>rfl)|(simp [*,errW_none,errW_some]<;>rfl),zl1_ HB GE1⟩
   replace c13:=Bool.eq_false_iff.mpr c13
   subst c13
   have H1:((drift_Text.f a2_0 a2_1).bind fun t5=>((r16_DriftText.f a2_0 a2_1).bind fun t6=>(if t5.toList=t6.toList then ((r10_Right.f kj3 l1).bind fun t7=>(if t7=true then ((drift_Of.f l0 l1).bind fun t9=>((r16_Drifts.f kj3 l0 l1).bind fun t12=>((r16_SameDrifts.f kj3 t9 t12).bind fun t15=>(if t15=true then ((drift_Fresh.f kj3 l0 l1).bind fun t16=>((r16_Fresh.f kj3 l0 l1).bind fun t19=>((r16_SameMarks.f kj3 t16 t19).bind fun t22=>(if t22=true then ((law17_awake.f).bind fun t23=>(some t23)) else (none))))) else (none))))) else ((law17_awake.f).bind fun t8=>(some t8)))) else (none))))=some r:=by rw [if_neg (show¬(false=true) by decide)] at H;exact H
   clear H
   have H:=H1
   clear H1
   replace H:=Option.bind_eq_some_iff.mp H
   obtain ⟨t5,A160,H⟩:=H
   replace H:((r16_DriftText.f a2_0 a2_1).bind fun t6=>(if t5.toList=t6.toList then ((r10_Right.f kj3 l1).bind fun t7=>(if t7=true then ((drift_Of.f l0 l1).bind fun t9=>((r16_Drifts.f kj3 l0 l1).bind fun t12=>((r16_SameDrifts.f kj3 t9 t12).bind fun t15=>(if t15=true then ((drift_Fresh.f kj3 l0 l1).bind fun t16=>((r16_Fresh.f kj3 l0 l1).bind fun t19=>((r16_SameMarks.f kj3 t16 t19).bind fun t22=>(if t22=true then ((law17_awake.f).bind fun t23=>(some t23)) else (none))))) else (none))))) else ((law17_awake.f).bind fun t8=>(some t8)))) else (none)))=some r:=H
   have A16:=Aside0.mk A160
   clear A160
   replace H:=Option.bind_eq_some_iff.mp H
   obtain ⟨t6,A170,H⟩:=H
   replace H:(if t5.toList=t6.toList then ((r10_Right.f kj3 l1).bind fun t7=>(if t7=true then ((drift_Of.f l0 l1).bind fun t9=>((r16_Drifts.f kj3 l0 l1).bind fun t12=>((r16_SameDrifts.f kj3 t9 t12).bind fun t15=>(if t15=true then ((drift_Fresh.f kj3 l0 l1).bind fun t16=>((r16_Fresh.f kj3 l0 l1).bind fun t19=>((r16_SameMarks.f kj3 t16 t19).bind fun t22=>(if t22=true then ((law17_awake.f).bind fun t23=>(some t23)) else (none))))) else (none))))) else ((law17_awake.f).bind fun t8=>(some t8)))) else (none))=some r:=H
   have A17:=Aside0.mk A170
   clear A170
   by_cases c18:t5.toList=t6.toList
   ·rw [if_pos c18] at H
    have c18b0:(t5.toList==t6.toList)=true:=beq_iff_eq.mpr c18
    have c18b1:(t5.toList !=t6.toList)=false:=bne_eq_false_iff_eq.mpr c18
    clear c18
    replace H:=Option.bind_eq_some_iff.mp H
    obtain ⟨t7,A190,H⟩:=H
    replace H:(if t7=true then ((drift_Of.f l0 l1).bind fun t9=>((r16_Drifts.f kj3 l0 l1).bind fun t12=>((r16_SameDrifts.f kj3 t9 t12).bind fun t15=>(if t15=true then ((drift_Fresh.f kj3 l0 l1).bind fun t16=>((r16_Fresh.f kj3 l0 l1).bind fun t19=>((r16_SameMarks.f kj3 t16 t19).bind fun t22=>(if t22=true then ((law17_awake.f).bind fun t23=>(some t23)) else (none))))) else (none))))) else ((law17_awake.f).bind fun t8=>(some t8)))=some r:=H
    have A19:=Aside0.mk A190
    clear A190
    by_cases c20:t7=true
    ·subst c20
     have H1:((drift_Of.f l0 l1).bind fun t9=>((r16_Drifts.f kj3 l0 l1).bind fun t12=>((r16_SameDrifts.f kj3 t9 t12).bind fun t15=>(if t15=true then ((drift_Fresh.f kj3 l0 l1).bind fun t16=>((r16_Fresh.f kj3 l0 l1).bind fun t19=>((r16_SameMarks.f kj3 t16 t19).bind fun t22=>(if t22=true then ((law17_awake.f).bind fun t23=>(some t23)) else (none))))) else (none)))))=some r:=by rw [if_pos rfl] at H;exact H
     clear H
     have H:=H1
     clear H1
     replace H:=Option.bind_eq_some_iff.mp H
     obtain ⟨t9,A210,H⟩:=H
     replace H:((r16_Drifts.f kj3 l0 l1).bind fun t12=>((r16_SameDrifts.f kj3 t9 t12).bind fun t15=>(if t15=true then ((drift_Fresh.f kj3 l0 l1).bind fun t16=>((r16_Fresh.f kj3 l0 l1).bind fun t19=>((r16_SameMarks.f kj3 t16 t19).bind fun t22=>(if t22=true then ((law17_awake.f).bind fun t23=>(some t23)) else (none))))) else (none))))=some r:=H
     have A21:=Aside0.mk A210
     clear A210
     replace H:=Option.bind_eq_some_iff.mp H
     obtain ⟨t12,A220,H⟩:=H
     replace H:((r16_SameDrifts.f kj3 t9 t12).bind fun t15=>(if t15=true then ((drift_Fresh.f kj3 l0 l1).bind fun t16=>((r16_Fresh.f kj3 l0 l1).bind fun t19=>((r16_SameMarks.f kj3 t16 t19).bind fun t22=>(if t22=true then ((law17_awake.f).bind fun t23=>(some t23)) else (none))))) else (none)))=some r:=H
     have A22:=Aside0.mk A220
     clear A220
     replace H:=Option.bind_eq_some_iff.mp H
     obtain ⟨t15,A230,H⟩:=H
     replace H:(if t15=true then ((drift_Fresh.f kj3 l0 l1).bind fun t16=>((r16_Fresh.f kj3 l0 l1).bind fun t19=>((r16_SameMarks.f kj3 t16 t19).bind fun t22=>(if t22=true then ((law17_awake.f).bind fun t23=>(some t23)) else (none))))) else (none))=some r:=H
     have A23:=Aside0.mk A230
     clear A230
     by_cases c24:t15=true
     ·subst c24
      have H1:((drift_Fresh.f kj3 l0 l1).bind fun t16=>((r16_Fresh.f kj3 l0 l1).bind fun t19=>((r16_SameMarks.f kj3 t16 t19).bind fun t22=>(if t22=true then ((law17_awake.f).bind fun t23=>(some t23)) else (none)))))=some r:=by rw [if_pos rfl] at H;exact H
      clear H
      have H:=H1
      clear H1
      replace H:=Option.bind_eq_some_iff.mp H
      obtain ⟨t16,A250,H⟩:=H
      replace H:((r16_Fresh.f kj3 l0 l1).bind fun t19=>((r16_SameMarks.f kj3 t16 t19).bind fun t22=>(if t22=true then ((law17_awake.f).bind fun t23=>(some t23)) else (none))))=some r:=H
      have A25:=Aside0.mk A250
      clear A250
      replace H:=Option.bind_eq_some_iff.mp H
      obtain ⟨t19,A260,H⟩:=H
      replace H:((r16_SameMarks.f kj3 t16 t19).bind fun t22=>(if t22=true then ((law17_awake.f).bind fun t23=>(some t23)) else (none)))=some r:=H
      have A26:=Aside0.mk A260
      clear A260
      replace H:=Option.bind_eq_some_iff.mp H
      obtain ⟨t22,A270,H⟩:=H
      replace H:(if t22=true then ((law17_awake.f).bind fun t23=>(some t23)) else (none))=some r:=H
      have A27:=Aside0.mk A270
      clear A270
      by_cases c28:t22=true
      ·subst c28
       have H1:((law17_awake.f).bind fun t23=>(some t23))=some r:=by rw [if_pos rfl] at H;exact H
       clear H
       have H:=H1
       clear H1
       replace H:=Option.bind_eq_some_iff.mp H
       obtain ⟨t23,A290,H⟩:=H
       replace H:(some t23)=some r:=H
       have A29:=Aside0.mk A290
       clear A290
       obtain rfl:=Option.some.inj H
       try go_wp2
       have n0_:=am_ (blk_drew BK1.out)
       have n1_:=am_ (below_drew1 HB.out)
       clear BK1
       clear HB
       have BK1:=n0_
       have HB:=n1_
       clear n0_ n1_
       refine start_ (n:=5) (S:=fun w'=>w'.cell? ⟨gb1,0,none⟩=some (.string a2_0)∧w'.cell? ⟨gb1,1,none⟩=some (.int .i64 a2_1)) (ds:=[]) (bt_ 5 0) (by kernel_rfl) rfl rfl ⟨(blk_cell BK1.out 0).trans rfl,(blk_cell BK1.out 1).trans rfl⟩ (fun hHeld=> ?_)
       generalize wc.drew=w30 at BK1 HB hHeld ⊢
       refine take_ (i:=0) (N:=some 21) (v:= ?_) (a':= ?_) (bt_ 5 1) rfl rfl (by kernel_rfl) (fun _ _ _ h=>h) (Or.inl ⟨by rfl, ?_⟩) hHeld ?_ ?_
       rotate_left
       ·rintro w' ⟨s0,s1⟩
        go_simp
        with_reducible rfl
       rotate_left
       ·simp only [Act.put,List.setIfInBounds_toArray,List.set_cons_zero,List.set_cons_succ,i64_w,i32_w]
        rfl
       refine take_ (i:=2) (N:=some 23) (v:= ?_) (a':= ?_) (bt_ 5 5) rfl rfl (by kernel_rfl) (fun _ _ _ h=>h) (Or.inl ⟨by rfl, ?_⟩) hHeld ?_ ?_
       rotate_left
       ·rintro w' ⟨s0,s1⟩
        go_simp
        with_reducible rfl
       rotate_left
       ·simp only [Act.put,List.setIfInBounds_toArray,List.set_cons_zero,List.set_cons_succ,i64_w,i32_w]
        rfl
       refine one_ (i:=1) (N:=some 22) (bt_ 5 7) rfl rfl (by kernel_rfl) (by decide) (fun K hK=> ?_)
       refine goes_ Try.func39 (by kernel_rfl) rfl #[.agg #[.string a2_0, .int .i64 a2_1]] (by rfl) rfl rfl zs_ ?_
       with_reducible refine (drift_Text.calls a2_0 a2_1 t5 _ A16.out).mono ?_
       rintro e w31 ⟨rfl,hb⟩
       refine ⟨_,rfl, ?_⟩
       have n0_:=am_ (blk_below (zb_ BK1) hb)
       have n1_:=am_ (below_step (zl1_ HB GE1) hb)
       clear BK1
       clear HB
       have BK1:=n0_
       have HB:=n1_
       clear n0_ n1_
       (try clear hb)
       (try clear hb2)
       (try clear hk)
       (try clear hi)
       refine hK.out _ _ ⟨(blk_cell BK1.out 0).trans rfl,(blk_cell BK1.out 1).trans rfl⟩ (fun hHeld=> ?_)
       clear hK K
       refine no_ (N:=some 22) ?_
       refine one_ (i:=3) (N:=some 24) (bt_ 5 15) rfl rfl (by kernel_rfl) (by decide) (fun K hK=> ?_)
       refine goes_ Try.func40 (by kernel_rfl) rfl #[.agg #[.string a2_0, .int .i64 a2_1]] (by rfl) rfl rfl zs_ ?_
       with_reducible refine (r16_DriftText.calls a2_0 a2_1 t6 _ A17.out).mono ?_
       rintro e w32 ⟨rfl,hb⟩
       refine ⟨_,rfl, ?_⟩
       have n0_:=am_ (blk_below (zb_ BK1) hb)
       have n1_:=am_ (below_step (zl1_ HB GE1) hb)
       clear BK1
       clear HB
       have BK1:=n0_
       have HB:=n1_
       clear n0_ n1_
       (try clear hb)
       (try clear hb2)
       (try clear hk)
       (try clear hi)
       refine hK.out _ _ ⟨(blk_cell BK1.out 0).trans rfl,(blk_cell BK1.out 1).trans rfl⟩ (fun hHeld=> ?_)
       clear hK K
       refine no_ (N:=some 24) ?_
       refine pure_ (i:=4) (N:=some 25) (v:= ?_) (a':= ?_) (bt_ 5 31) rfl rfl (by kernel_rfl) (fun _ _ _ h=>h) (Or.inl ⟨by rfl, ?_⟩) ?_ ?_
       rotate_left
       ·intro w'
        go_simp
        with_reducible rfl
       rotate_left
       ·simp only [Act.put,List.setIfInBounds_toArray,List.set_cons_zero,List.set_cons_succ,i64_w,i32_w]
        rfl
       refine done_ (by kernel_rfl) ?_
       try go_wp2_with (first|((with_reducible refine gate_callee (f:=41) rfl ?_);refine goesL_ (some 27) rfl rfl Try.func41 (by kernel_rfl) rfl #[.slice A1 l1.length c1] rfl zs_ ?_;(with_reducible refine (r10_Right.calls kj3 _ _ l1 true _ ?side1 ?side2 A19.out).mono ?_);(case side1=>exact zc_ (Kd.C_below HR1.out HB.out));(case side2=>exact HC1.out);rintro e w33 ⟨rfl,hb⟩;refine ⟨_,rfl, ?_⟩;have n0_:=am_ (blk_below (zb_ BK1) hb);have n1_:=am_ (below_step (zl1_ HB GE1) hb);clear BK1;clear HB;have BK1:=n0_;have HB:=n1_;clear n0_ n1_;(try clear hb);(try clear hb2);(try clear hk);(try clear hi))|((with_reducible refine gate_callee (f:=43) rfl ?_);refine goesL_ (some 32) rfl rfl Try.func43 (by kernel_rfl) rfl #[.slice A0 l0.length c0, .slice A1 l1.length c1] rfl zs_ ?_;(with_reducible refine (drift_Of.calls _ _ l0 _ _ l1 t9 _ ?side1 ?side2 ?side3 ?side4 A21.out).mono ?_);(case side1=>exact zc_ (Kd.C_below HR0.out HB.out));(case side2=>exact HC0.out);(case side3=>exact zc_ (Kd.C_below HR1.out HB.out));(case side4=>exact HC1.out);rintro e w34 ⟨v10,rfl,ho0,hb⟩;refine ⟨_,rfl, ?_⟩;have n0_:=am_ (Kd.R_lower (Kd.R_newB ho0 (g:=gb1) (o:= .cells #[.string a2_0, .int .i64 a2_1] 37 (0,0)) (zb_ BK1)) (below_size (zl1_ HB GE1)));have n1_:=am_ (blk_below (zb_ BK1) hb);have n2_:=am_ (below_step (zl1_ HB GE1) hb);clear BK1;clear HB;have HO11:=n0_;have BK1:=n1_;have HB:=n2_;clear n0_ n1_ n2_;(try clear hb);(try clear hb2);(try clear hk);(try clear hi);(try clear ho0))|((with_reducible refine gate_callee (f:=44) rfl ?_);refine goesL_ (some 35) rfl rfl Try.func44 (by kernel_rfl) rfl #[.slice A0 l0.length c0, .slice A1 l1.length c1] rfl zs_ ?_;(with_reducible refine (r16_Drifts.calls kj3 _ _ l0 _ _ l1 t12 _ ?side1 ?side2 ?side3 ?side4 A22.out).mono ?_);(case side1=>exact zc_ (Kd.C_below HR0.out HB.out));(case side2=>exact HC0.out);(case side3=>exact zc_ (Kd.C_below HR1.out HB.out));(case side4=>exact HC1.out);rintro e w35 ⟨v13,rfl,ho0,hb⟩;refine ⟨_,rfl, ?_⟩;have n0_:=am_ (Kd.R_elder' (zr_ HO11) (Kd.R_base ho0) hb);have n1_:=am_ (Kd.R_lower (Kd.R_newB (Kd.R_new' ho0 (Kd.R_lt (zr_ HO11))) (g:=gb1) (o:= .cells #[.string a2_0, .int .i64 a2_1] 37 (0,0)) (zb_ BK1)) (below_size (zl1_ HB GE1)));have n2_:=am_ (blk_below (zb_ BK1) hb);have n3_:=am_ (below_step (zl1_ HB GE1) hb);clear HO11;clear BK1;clear HB;have HO11:=n0_;have HO14:=n1_;have BK1:=n2_;have HB:=n3_;clear n0_ n1_ n2_ n3_;(try clear hb);(try clear hb2);(try clear hk);(try clear hi);(try clear ho0);obtain ⟨Ao36,co36,eo36⟩:=Kd.R_slice HO11.out;subst eo36;obtain ⟨Ao37,co37,eo37⟩:=Kd.R_slice HO14.out;subst eo37)|((with_reducible refine gate_callee (f:=42) rfl ?_);refine goesL_ (some 36) rfl rfl Try.func42 (by kernel_rfl) rfl #[.slice Ao36 t9.length co36, .slice Ao37 t12.length co37] rfl zs_ ?_;(with_reducible refine (r16_SameDrifts.calls kj3 _ _ t9 _ _ t12 true _ ?side1 ?side2 ?side3 ?side4 A23.out).mono ?_);(case side1=>exact zc_ (Kd.R_reads' HO11.out).2.2);(case side2=>exact (Kd.R_reads' HO11.out).2.1);(case side3=>exact zc_ (Kd.R_reads' HO14.out).2.2);(case side4=>exact (Kd.R_reads' HO14.out).2.1);rintro e w' ⟨rfl,⟨nd,rfl⟩⟩;refine ⟨_,rfl, ?_⟩)|(go_at_call 46;(with_reducible refine (drift_Fresh.calls kj3 _ _ l0 _ _ l1 t16 _ ?side1 ?side2 ?side3 ?side4 A25.out).mono ?_);(case side1=>repeat (first|exact (Kd.C_below HR0.out (zl1_ HB GE1))|(with_reducible refine Kd.C_alloc ?_ _)|(with_reducible refine Kd.C_drewN ?_ _)|(with_reducible refine Kd.C_drew ?_)));(case side2=>exact HC0.out);(case side3=>repeat (first|exact (Kd.C_below HR1.out (zl1_ HB GE1))|(with_reducible refine Kd.C_alloc ?_ _)|(with_reducible refine Kd.C_drewN ?_ _)|(with_reducible refine Kd.C_drew ?_)));(case side4=>exact HC1.out);rintro e w38 ⟨v17,rfl,ho0,hb⟩;have n0_:=am_ (Kd.R_below (zr_ HO11) hb);have n1_:=am_ (Kd.R_below (zr_ HO14) hb);have n2_:=am_ (Kd.R_lower ho0 (below_size (zl1_ HB GE1)));have n3_:=am_ (blk_below (zb_ BK1) hb);have n4_:=am_ (below_step (zl1_ HB GE1) hb);clear HO11;clear HO14;clear BK1;clear HB;have HO11:=n0_;have HO14:=n1_;have HO18:=n2_;have BK1:=n3_;have HB:=n4_;clear n0_ n1_ n2_ n3_ n4_;(try clear hb);(try clear hb2);(try clear hk);(try clear hi);(try clear ho0))|(go_at_call 47;(with_reducible refine (r16_Fresh.calls kj3 _ _ l0 _ _ l1 t19 _ ?side1 ?side2 ?side3 ?side4 A26.out).mono ?_);(case side1=>exact zc_ (Kd.C_below HR0.out HB.out));(case side2=>exact HC0.out);(case side3=>exact zc_ (Kd.C_below HR1.out HB.out));(case side4=>exact HC1.out);rintro e w39 ⟨v20,rfl,ho0,hb⟩;have n0_:=am_ (Kd.R_below (zr_ HO11) hb);have n1_:=am_ (Kd.R_below (zr_ HO14) hb);have n2_:=am_ (Kd.R_elder' (zr_ HO18) (Kd.R_base ho0) hb);have n3_:=am_ (Kd.R_lower (Kd.R_new' ho0 (Kd.R_lt (zr_ HO18))) (below_size (zl1_ HB GE1)));have n4_:=am_ (blk_below (zb_ BK1) hb);have n5_:=am_ (below_step (zl1_ HB GE1) hb);clear HO11;clear HO14;clear HO18;clear BK1;clear HB;have HO11:=n0_;have HO14:=n1_;have HO18:=n2_;have HO21:=n3_;have BK1:=n4_;have HB:=n5_;clear n0_ n1_ n2_ n3_ n4_ n5_;(try clear hb);(try clear hb2);(try clear hk);(try clear hi);(try clear ho0);obtain ⟨Ao40,co40,eo40⟩:=Kd.R_slice HO18.out;subst eo40;obtain ⟨Ao41,co41,eo41⟩:=Kd.R_slice HO21.out;subst eo41)|(go_at_call 45;(with_reducible refine (r16_SameMarks.calls kj3 _ _ t16 _ _ t19 true _ ?side1 ?side2 ?side3 ?side4 A27.out).mono ?_);(case side1=>exact zc_ (Kd.R_reads' HO18.out).2.2);(case side2=>exact (Kd.R_reads' HO18.out).2.1);(case side3=>exact zc_ (Kd.R_reads' HO21.out).2.2);(case side4=>exact (Kd.R_reads' HO21.out).2.1);rintro e w' ⟨rfl,⟨nd,rfl⟩⟩)|(go_at_call 38;(with_reducible refine (law17_awake.calls t23 _ A29.out).mono ?_);rintro e w42 ⟨rfl,hb⟩;have n0_:=am_ (Kd.R_below (zr_ HO11) hb);have n1_:=am_ (Kd.R_below (zr_ HO14) hb);have n2_:=am_ (Kd.R_below (zr_ HO18) hb);have n3_:=am_ (Kd.R_below (zr_ HO21) hb);have n4_:=am_ (blk_below (zb_ BK1) hb);have n5_:=am_ (below_step (zl1_ HB GE1) hb);clear HO11;clear HO14;clear HO18;clear HO21;clear BK1;clear HB;have HO11:=n0_;have HO14:=n1_;have HO18:=n2_;have HO21:=n3_;have BK1:=n4_;have HB:=n5_;clear n0_ n1_ n2_ n3_ n4_ n5_;(try clear hb);(try clear hb2);(try clear hk);(try clear hi)))
       go_ret
       exact ⟨by first|rfl|(simp [errW_none,errW_some]<;>rfl)|(simp [*,errW_none,errW_some]<;>rfl),zl1_ HB GE1⟩
      replace c28:=Bool.eq_false_iff.mpr c28
      subst c28
      have H1:(none)=some r:=by rw [if_neg (show¬(false=true) by decide)] at H;exact H
      cases H1
     replace c24:=Bool.eq_false_iff.mpr c24
     subst c24
     have H1:(none)=some r:=by rw [if_neg (show¬(false=true) by decide)] at H;exact H
     cases H1
    replace c20:=Bool.eq_false_iff.mpr c20
    subst c20
    have H1:((law17_awake.f).bind fun t8=>(some t8))=some r:=by rw [if_neg (show¬(false=true) by decide)] at H;exact H
    clear H
    have H:=H1
    clear H1
    replace H:=Option.bind_eq_some_iff.mp H
    obtain ⟨t8,A630,H⟩:=H
    replace H:(some t8)=some r:=H
    have A63:=Aside0.mk A630
    clear A630
    obtain rfl:=Option.some.inj H
    try go_wp2
    have n0_:=am_ (blk_drew BK1.out)
    have n1_:=am_ (below_drew1 HB.out)
    clear BK1
    clear HB
    have BK1:=n0_
    have HB:=n1_
    clear n0_ n1_
    refine start_ (n:=5) (S:=fun w'=>w'.cell? ⟨gb1,0,none⟩=some (.string a2_0)∧w'.cell? ⟨gb1,1,none⟩=some (.int .i64 a2_1)) (ds:=[]) (bt_ 5 0) (by kernel_rfl) rfl rfl ⟨(blk_cell BK1.out 0).trans rfl,(blk_cell BK1.out 1).trans rfl⟩ (fun hHeld=> ?_)
    generalize wc.drew=w64 at BK1 HB hHeld ⊢
    refine take_ (i:=0) (N:=some 21) (v:= ?_) (a':= ?_) (bt_ 5 1) rfl rfl (by kernel_rfl) (fun _ _ _ h=>h) (Or.inl ⟨by rfl, ?_⟩) hHeld ?_ ?_
    rotate_left
    ·rintro w' ⟨s0,s1⟩
     go_simp
     with_reducible rfl
    rotate_left
    ·simp only [Act.put,List.setIfInBounds_toArray,List.set_cons_zero,List.set_cons_succ,i64_w,i32_w]
     rfl
    refine take_ (i:=2) (N:=some 23) (v:= ?_) (a':= ?_) (bt_ 5 5) rfl rfl (by kernel_rfl) (fun _ _ _ h=>h) (Or.inl ⟨by rfl, ?_⟩) hHeld ?_ ?_
    rotate_left
    ·rintro w' ⟨s0,s1⟩
     go_simp
     with_reducible rfl
    rotate_left
    ·simp only [Act.put,List.setIfInBounds_toArray,List.set_cons_zero,List.set_cons_succ,i64_w,i32_w]
     rfl
    refine one_ (i:=1) (N:=some 22) (bt_ 5 7) rfl rfl (by kernel_rfl) (by decide) (fun K hK=> ?_)
    refine goes_ Try.func39 (by kernel_rfl) rfl #[.agg #[.string a2_0, .int .i64 a2_1]] (by rfl) rfl rfl zs_ ?_
    with_reducible refine (drift_Text.calls a2_0 a2_1 t5 _ A16.out).mono ?_
    rintro e w65 ⟨rfl,hb⟩
    refine ⟨_,rfl, ?_⟩
    have n0_:=am_ (blk_below (zb_ BK1) hb)
    have n1_:=am_ (below_step (zl1_ HB GE1) hb)
    clear BK1
    clear HB
    have BK1:=n0_
    have HB:=n1_
    clear n0_ n1_
    (try clear hb)
    (try clear hb2)
    (try clear hk)
    (try clear hi)
    refine hK.out _ _ ⟨(blk_cell BK1.out 0).trans rfl,(blk_cell BK1.out 1).trans rfl⟩ (fun hHeld=> ?_)
    clear hK K
    refine no_ (N:=some 22) ?_
    refine one_ (i:=3) (N:=some 24) (bt_ 5 15) rfl rfl (by kernel_rfl) (by decide) (fun K hK=> ?_)
    refine goes_ Try.func40 (by kernel_rfl) rfl #[.agg #[.string a2_0, .int .i64 a2_1]] (by rfl) rfl rfl zs_ ?_
    with_reducible refine (r16_DriftText.calls a2_0 a2_1 t6 _ A17.out).mono ?_
    rintro e w66 ⟨rfl,hb⟩
    refine ⟨_,rfl, ?_⟩
    have n0_:=am_ (blk_below (zb_ BK1) hb)
    have n1_:=am_ (below_step (zl1_ HB GE1) hb)
    clear BK1
    clear HB
    have BK1:=n0_
    have HB:=n1_
    clear n0_ n1_
    (try clear hb)
    (try clear hb2)
    (try clear hk)
    (try clear hi)
    refine hK.out _ _ ⟨(blk_cell BK1.out 0).trans rfl,(blk_cell BK1.out 1).trans rfl⟩ (fun hHeld=> ?_)
    clear hK K
    refine no_ (N:=some 24) ?_
    refine pure_ (i:=4) (N:=some 25) (v:= ?_) (a':= ?_) (bt_ 5 31) rfl rfl (by kernel_rfl) (fun _ _ _ h=>h) (Or.inl ⟨by rfl, ?_⟩) ?_ ?_
    rotate_left
    ·intro w'
     go_simp
     with_reducible rfl
    rotate_left
    ·simp only [Act.put,List.setIfInBounds_toArray,List.set_cons_zero,List.set_cons_succ,i64_w,i32_w]
     rfl
    refine done_ (by kernel_rfl) ?_
    try go_wp2_with (first|((with_reducible refine gate_callee (f:=41) rfl ?_);refine goesL_ (some 27) rfl rfl Try.func41 (by kernel_rfl) rfl #[.slice A1 l1.length c1] rfl zs_ ?_;(with_reducible refine (r10_Right.calls kj3 _ _ l1 false _ ?side1 ?side2 A19.out).mono ?_);(case side1=>exact zc_ (Kd.C_below HR1.out HB.out));(case side2=>exact HC1.out);rintro e w67 ⟨rfl,hb⟩;refine ⟨_,rfl, ?_⟩;have n0_:=am_ (blk_below (zb_ BK1) hb);have n1_:=am_ (below_step (zl1_ HB GE1) hb);clear BK1;clear HB;have BK1:=n0_;have HB:=n1_;clear n0_ n1_;(try clear hb);(try clear hb2);(try clear hk);(try clear hi))|((with_reducible refine gate_callee (f:=38) rfl ?_);refine goesL_ (some 29) rfl rfl Try.func38 (by kernel_rfl) rfl #[] rfl zs_ ?_;(with_reducible refine (law17_awake.calls t8 _ A63.out).mono ?_);rintro e w68 ⟨rfl,hb⟩;refine ⟨_,rfl, ?_⟩;have n0_:=am_ (blk_below (zb_ BK1) hb);have n1_:=am_ (below_step (zl1_ HB GE1) hb);clear BK1;clear HB;have BK1:=n0_;have HB:=n1_;clear n0_ n1_;(try clear hb);(try clear hb2);(try clear hk);(try clear hi)))
    go_ret
    exact ⟨by first|rfl|(simp [errW_none,errW_some]<;>rfl)|(simp [*,errW_none,errW_some]<;>rfl),zl1_ HB GE1⟩
   rw [if_neg c18] at H
   cases H
end Go.Proofs.Ytcgefpklljclgaa.Print

namespace Go.Proofs.Ytcgefpklljclgaa.Print
open Go.RowKit Go.Proofs.YtcgefpklljclgaaW.PrintWords Go.Proofs.YtcgefpklljclgaaW.PrintLast
set_option linter.unusedVariables false
set_option linter.unusedSimpArgs false
abbrev Item:=S31
abbrev Vec:=S27
abbrev zItem:Item:=z31
theorem rd_item (l:List Item) (i:Int):rd_T31 l i=l.getD i.toNat zItem:=rfl
instance baLawful:LawfulBEq ByteArray where
 eq_of_beq {a b} h:=by
  obtain ⟨a⟩:=a
  obtain ⟨b⟩:=b
  have:(a==b)=true:=h
  rw [eq_of_beq this]
 rfl {a}:=by
  obtain ⟨a⟩:=a
  show (a==a)=true
  exact beq_self_eq_true a
theorem nm_inj {a b:ByteArray}:a.toList=b.toList↔a=b:=by
  constructor
  · intro h
    rw [ByteArray.toList_eq,ByteArray.toList_eq] at h
    exact ByteArray.ext (Array.toList_inj.1 h)
  rintro rfl;rfl
theorem nm_beq (a b:ByteArray):(a.toList==b.toList)=decide (a=b):=by
 rw [Bool.eq_iff_iff,beq_iff_eq,nm_inj,decide_eq_true_iff]
theorem nm_empty {a:ByteArray}:a.toList=([]:List UInt8)↔a=⟨#[]⟩:=by
 rw [←nm_inj];rw [show (ByteArray.mk #[]).toList=[] from by rw [ByteArray.toList_eq]]
theorem Ev.const {α:Type} {g:Option α} {r:α} (h:g=some r):Ev (fun _=>g) r:=⟨0,fun _ _=>h⟩
theorem w64 {n:Int} (h0: -9223372036854775808≤n) (h1:n≤9223372036854775807):wrap64 n=n:=by unfold wrap64;omega
def look (l:List Item) (n:ByteArray):Option Item:=l.find? (fun x=>x.f0=n)
def fnd (l:List Item) (n:ByteArray):Int:=fidx (fun x:Item=>x.f0.toList==n.toList) l 0
theorem fidx_none {α:Type} {p:α→Bool}: ∀{l:List α} {i:Int},(∀x∈l,p x=false)→fidx p l i= -1
  |[],_,_=>rfl
  | x :: l, i, h => by
    unfold fidx
    rw [if_neg (by rw [h x (by simp)];simp)]
    exact fidx_none (fun y hy=>h y (by simp [hy]))
theorem fidx_some {α:Type} {p:α→Bool} (z:α): ∀{l:List α} {i:Int} {x:α},l.find? p=some x→ ∃j:Nat,j<l.length∧fidx p l i=i+j∧l.getD j z=x∧p x=true∧ ∀m,m<j→p (l.getD m z)=false
  |[],_,_,h=>by simp at h
  | y :: l, i, x, h => by
    unfold fidx
    by_cases hy:p y=true
    · rw [if_pos hy]
      simp only [List.find?_cons,hy] at h
      obtain rfl:=Option.some.inj h
      exact ⟨0,by simp,by simp,by simp,hy,fun m hm=>by omega⟩
    rw [if_neg hy]
    have hy':p y=false:=by simpa using hy
    simp only [List.find?_cons,hy'] at h
    obtain ⟨j,hj,h1,h2,h3,h4⟩:=fidx_some z (i:=i+1) h
    refine ⟨j+1,by simp;omega,by rw [h1];omega,by simpa using h2,h3,fun m hm=> ?_⟩
    cases m with
    |zero=>simpa using hy'
    |succ m=>simpa using h4 m (by omega)
theorem look_pred (n:ByteArray):(fun x:Item=>x.f0.toList==n.toList)=(fun x:Item=>decide (x.f0=n)):=by
 funext x;exact nm_beq _ _
theorem look_mem {l:List Item} {n:ByteArray} {x:Item} (h:look l n=some x):x∈l∧x.f0=n:=by
 unfold look at h
 exact ⟨List.mem_of_find?_eq_some h,by simpa using List.find?_some h⟩
theorem look_none {l:List Item} {n:ByteArray}:look l n=none↔ ∀x∈l,x.f0≠n:=by
 unfold look
 simp
theorem fnd_none {l:List Item} {n:ByteArray} (h:look l n=none):fnd l n= -1:=by
 unfold fnd
 refine fidx_none fun x hx=> ?_
 rw [nm_beq]
 simpa using look_none.1 h x hx
theorem fnd_some {l:List Item} {n:ByteArray} {x:Item} (h:look l n=some x): ∃j:Nat,j<l.length∧fnd l n=j∧l.getD j zItem=x∧x.f0=n∧ ∀m,m<j→(l.getD m zItem).f0≠n:=by
 have h':l.find? (fun x:Item=>x.f0.toList==n.toList)=some x:=by rw [look_pred];exact h
 obtain ⟨j,h1,h2,h3,h4,h5⟩:=fidx_some zItem (i:=0) h'
 refine ⟨j,h1,by unfold fnd;rw [h2];omega,h3,by simpa [nm_beq] using h4,fun m hm=> ?_⟩
 simpa [nm_beq] using h5 m hm
theorem fnd_lt (l:List Item) (n:ByteArray):fnd l n<l.length:=by
 cases h:look l n with
 |none=>rw [fnd_none h];omega
 |some x=>obtain ⟨j,h1,h2,_⟩:=fnd_some h;omega
theorem fnd_neg {l:List Item} {n:ByteArray}:fnd l n<0↔look l n=none:=by
 cases h:look l n with
 |none=>rw [fnd_none h];simp
 |some x=>obtain ⟨j,h1,h2,_⟩:=fnd_some h;simp;omega
theorem fnd_ge {l:List Item} {n:ByteArray}:0≤fnd l n↔ ∃x,look l n=some x:=by
 cases h:look l n with
 |none=>rw [fnd_none h];simp
 |some x=>obtain ⟨j,h1,h2,_⟩:=fnd_some h;simp;omega
theorem fnd_rd {l:List Item} {n:ByteArray} {x:Item} (h:look l n=some x):rd_T31 l (fnd l n)=x:=by
 obtain ⟨j,h1,h2,h3,_⟩:=fnd_some h
 rw [rd_item,h2,Int.toNat_natCast];exact h3
theorem tree_Find_eq (l:List Item) (n:ByteArray):tree_Find.f l n=some (fnd l n):=rfl
inductive Chain (l:List Item):ByteArray→List ByteArray→Prop where
 |nil {n:ByteArray}:look l n=none→Chain l n []
 |cons {n:ByteArray} {x:Item} {us:List ByteArray}:look l n=some x→Chain l x.f1 us→Chain l n (n::us)
def upGo (l:List Item):Nat→ByteArray→List ByteArray
  |0,_=> []
  | m + 1, n => match look l n with
    |none=> []
    |some x=>n::upGo l m x.f1
def up (l:List Item) (n:ByteArray):List ByteArray:=upGo l (l.length+1) n
theorem upGo_none {l:List Item} {n:ByteArray} (h:look l n=none) (m:Nat):upGo l m n=[]:=by
 cases m with
 |zero=>rfl
 |succ m=>unfold upGo;rw [h]
theorem upGo_some {l:List Item} {n:ByteArray} {x:Item} (h:look l n=some x) (m:Nat):upGo l (m+1) n=n::upGo l m x.f1:=by
 rw [upGo.eq_2,h]
theorem Chain.det {l:List Item} {n:ByteArray} {us:List ByteArray} (h:Chain l n us): ∀{vs:List ByteArray},Chain l n vs→us=vs:=by
  induction h with
  | nil h =>
    intro vs k
    cases k with
    |nil _=>rfl
    |cons k _=>rw [h] at k;cases k
  | cons h _ ih =>
    intro vs k
    cases k with
    |nil k=>rw [h] at k;cases k
    | cons k k2 =>
      rw [h] at k
      cases k
      rw [ih k2]
theorem Chain.upGo {l:List Item} {n:ByteArray} {us:List ByteArray} (h:Chain l n us): ∀m,us.length≤m→upGo l m n=us:=by
  induction h with
  |nil h=>intro m _;exact upGo_none h m
  | cons h _ ih =>
    intro m hm
    cases m with
    |zero=>simp at hm
    | succ m =>
      rw [upGo_some h,ih m (by simpa using hm)]
theorem upGo_chain (l:List Item): ∀(m:Nat) (n:ByteArray),(upGo l m n).length<m→Chain l n (upGo l m n)
  |0,_,h=>by simp [upGo] at h
  | m + 1, n, h => by
    cases hl:look l n with
    |none=>rw [upGo_none hl];exact .nil hl
    | some x =>
      rw [upGo_some hl] at h ⊢
      exact .cons hl (upGo_chain l m x.f1 (by simpa using h))
theorem up_chain {l:List Item} {n:ByteArray} (h:(up l n).length≤l.length):Chain l n (up l n):=upGo_chain l _ n (by unfold up at h;omega)
theorem Chain.suffix {l:List Item} {n:ByteArray} {us:List ByteArray} (h:Chain l n us): ∀{m:ByteArray},m∈us→ ∃vs ws,us=ws++vs∧Chain l m vs∧ ∃vt,vs=m::vt:=by
  induction h with
  |nil _=>intro m hm;cases hm
  | @cons n x us h k ih =>
    intro m hm
    rcases List.mem_cons.1 hm with rfl|hm
    · exact ⟨_,[],rfl, .cons h k,_,rfl⟩
    obtain ⟨vs,ws,e,hc,he⟩:=ih hm
    exact ⟨vs,n::ws,by rw [e];rfl,hc,he⟩
theorem Chain.mem_look {l:List Item} {n:ByteArray} {us:List ByteArray} (h:Chain l n us) {m:ByteArray} (hm:m∈us): ∃x,look l m=some x:=by
 obtain ⟨vs,ws,_,hc,vt,rfl⟩:=h.suffix hm
 cases hc with
 |cons h _=>exact ⟨_,h⟩
theorem Chain.nodup {l:List Item} {n:ByteArray} {us:List ByteArray} (h:Chain l n us):us.Nodup:=by
  induction h with
  |nil _=>simp
  | @cons n x us h k ih =>
    rw [List.nodup_cons]
    refine ⟨fun hm=> ?_,ih⟩
    obtain ⟨vs,ws,e,hc,_⟩:=k.suffix hm
    have:=hc.det (.cons h k)
    rw [this] at e
    have:=congrArg List.length e
    simp at this
    omega
theorem Chain.len {l:List Item} {n:ByteArray} {us:List ByteArray} (h:Chain l n us):us.length≤l.length:=by
 have:=h.nodup.length_le_of_subset (l₂:=l.map (·.f0)) (fun m hm=>by
  obtain ⟨x,hx⟩:=h.mem_look hm
  obtain ⟨h1,rfl⟩:=look_mem hx
  exact List.mem_map_of_mem h1)
 simpa using this
theorem Chain.up {l:List Item} {n:ByteArray} {us:List ByteArray} (h:Chain l n us):up l n=us:=h.upGo _ (by have:=h.len;omega)
theorem up_len_iff {l:List Item} {n:ByteArray}:(up l n).length≤l.length↔ ∃us,Chain l n us:=
 ⟨fun h=>⟨_,up_chain h⟩,fun ⟨us,h⟩=>by rw [h.up];exact h.len⟩
end Go.Proofs.Ytcgefpklljclgaa.Print

namespace Go.Proofs.Ytcgefpklljclgaa.Print
open Go.RowKit Go.Proofs.YtcgefpklljclgaaW.PrintWords Go.Proofs.YtcgefpklljclgaaW.PrintLast
open Go.ChangeShapes Go.WideShapes Go.Deep
set_option linter.unusedVariables false
set_option linter.unusedSimpArgs false
section
variable {H:Type} {enc:TypeId×Value→H} {w:World} {base:Nat} {spare:Nat→Bool} {held:Bool}
theorem cells_i:Try.prog.cellsOf 3=1:=by kernel_rfl
theorem cells_s:Try.prog.cellsOf 9=1:=by kernel_rfl
theorem cells_v:Try.prog.cellsOf 27=3:=by kernel_rfl
theorem cells_it:Try.prog.cellsOf 31=12:=by kernel_rfl
theorem open_i {fuel:Nat} {c:Value} {x:DataW H×List MemPlace} (h:DataW.trod enc Try.prog w base spare held fuel 3 [c]=some x): ∃n:Int,c= .int .i64 n:=by
 obtain ⟨n,e,_,_⟩:=DataW.trod_int Try.underlying3 h
 exact ⟨n,(List.cons.inj e).1⟩
theorem open_s {fuel:Nat} {c:Value} {x:DataW H×List MemPlace} (h:DataW.trod enc Try.prog w base spare held fuel 9 [c]=some x): ∃s:ByteArray,c= .string s:=by
 obtain ⟨n,e,_,_⟩:=DataW.trod_string Try.underlying9 h
 exact ⟨n,(List.cons.inj e).1⟩
theorem open_vec {fuel:Nat} {cs:List Value} {x:DataW H×List MemPlace} (h:DataW.trod enc Try.prog w base spare held fuel 27 cs=some x): ∃v:Vec,cs=[.int .i64 v.f0, .int .i64 v.f1, .int .i64 v.f2]:=by
 obtain ⟨xs,n,_,hx,hl,hlen,hf⟩:=DataW.trod_struct Try.underlying27 h
 replace hl:cs.length=3:=hl.trans cells_v
 replace hlen:xs.length=3:=hlen
 clear h hx
 obtain ⟨c0,c1,c2,rfl⟩: ∃c0 c1 c2,cs=[c0,c1,c2]:=by
  clear hf
  match cs,hl with
  |[c0,c1,c2],_=>exact ⟨_,_,_,rfl⟩
 obtain ⟨y0,y1,y2,rfl⟩: ∃y0 y1 y2,xs=[y0,y1,y2]:=by
  clear hf
  match xs,hlen with
  |[y0,y1,y2],_=>exact ⟨_,_,_,rfl⟩
 have g0:DataW.trod enc Try.prog w base spare held n 3 (List.take (Try.prog.cellsOf 3) (List.drop 0 [c0,c1,c2]))=some y0:=hf 0 _ rfl
 have g1:DataW.trod enc Try.prog w base spare held n 3 (List.take (Try.prog.cellsOf 3) (List.drop 1 [c0,c1,c2]))=some y1:=hf 1 _ rfl
 have g2:DataW.trod enc Try.prog w base spare held n 3 (List.take (Try.prog.cellsOf 3) (List.drop 2 [c0,c1,c2]))=some y2:=hf 2 _ rfl
 rw [cells_i] at g0 g1 g2
 obtain ⟨n0,rfl⟩:=open_i (c:=c0) g0
 obtain ⟨n1,rfl⟩:=open_i (c:=c1) g1
 obtain ⟨n2,rfl⟩:=open_i (c:=c2) g2
 exact ⟨⟨n0,n1,n2⟩,rfl⟩
theorem open_item {fuel:Nat} {cs:List Value} {x:DataW H×List MemPlace} (h:DataW.trod enc Try.prog w base spare held fuel 31 cs=some x): ∃it:Item,cs=[.string it.f0, .string it.f1, .int .i64 it.f2.f0, .int .i64 it.f2.f1, .int .i64 it.f2.f2, .int .i64 it.f3.f0, .int .i64 it.f3.f1, .int .i64 it.f3.f2, .int .i64 it.f4.f0, .int .i64 it.f4.f1, .int .i64 it.f4.f2, .int .i64 it.f5]:=by
 obtain ⟨xs,n,_,hx,hl,hlen,hf⟩:=DataW.trod_struct Try.underlying31 h
 replace hl:cs.length=12:=hl.trans cells_it
 replace hlen:xs.length=6:=hlen
 clear h hx
 obtain ⟨c0,c1,c2,c3,c4,c5,c6,c7,c8,c9,c10,c11,rfl⟩: ∃c0 c1 c2 c3 c4 c5 c6 c7 c8 c9 c10 c11,cs=[c0,c1,c2,c3,c4,c5,c6,c7,c8,c9,c10,c11]:=by
  clear hf
  match cs,hl with
  |[c0,c1,c2,c3,c4,c5,c6,c7,c8,c9,c10,c11],_=>exact ⟨_,_,_,_,_,_,_,_,_,_,_,_,rfl⟩
 obtain ⟨y0,y1,y2,y3,y4,y5,rfl⟩: ∃y0 y1 y2 y3 y4 y5,xs=[y0,y1,y2,y3,y4,y5]:=by
  clear hf
  match xs,hlen with
  |[y0,y1,y2,y3,y4,y5],_=>exact ⟨_,_,_,_,_,_,rfl⟩
 have g0:DataW.trod enc Try.prog w base spare held n 9 (List.take (Try.prog.cellsOf 9) (List.drop 0 [c0,c1,c2,c3,c4,c5,c6,c7,c8,c9,c10,c11]))=some y0:=hf 0 _ rfl
 have g1:DataW.trod enc Try.prog w base spare held n 9 (List.take (Try.prog.cellsOf 9) (List.drop 1 [c0,c1,c2,c3,c4,c5,c6,c7,c8,c9,c10,c11]))=some y1:=hf 1 _ rfl
 have g2:DataW.trod enc Try.prog w base spare held n 27 (List.take (Try.prog.cellsOf 27) (List.drop 2 [c0,c1,c2,c3,c4,c5,c6,c7,c8,c9,c10,c11]))=some y2:=hf 2 _ rfl
 have g3:DataW.trod enc Try.prog w base spare held n 27 (List.take (Try.prog.cellsOf 27) (List.drop 5 [c0,c1,c2,c3,c4,c5,c6,c7,c8,c9,c10,c11]))=some y3:=hf 3 _ rfl
 have g4:DataW.trod enc Try.prog w base spare held n 27 (List.take (Try.prog.cellsOf 27) (List.drop 8 [c0,c1,c2,c3,c4,c5,c6,c7,c8,c9,c10,c11]))=some y4:=hf 4 _ rfl
 have g5:DataW.trod enc Try.prog w base spare held n 3 (List.take (Try.prog.cellsOf 3) (List.drop 11 [c0,c1,c2,c3,c4,c5,c6,c7,c8,c9,c10,c11]))=some y5:=hf 5 _ rfl
 rw [cells_s] at g0 g1
 rw [cells_v] at g2 g3 g4
 rw [cells_i] at g5
 obtain ⟨n0,rfl⟩:=open_s (c:=c0) g0
 obtain ⟨n1,rfl⟩:=open_s (c:=c1) g1
 obtain ⟨v2,e2⟩:=open_vec (cs:=[c2,c3,c4]) g2
 obtain ⟨v3,e3⟩:=open_vec (cs:=[c5,c6,c7]) g3
 obtain ⟨v4,e4⟩:=open_vec (cs:=[c8,c9,c10]) g4
 obtain ⟨n5,rfl⟩:=open_i (c:=c11) g5
 simp only [List.cons.injEq,and_true] at e2 e3 e4
 obtain ⟨rfl,rfl,rfl⟩:=e2
 obtain ⟨rfl,rfl,rfl⟩:=e3
 obtain ⟨rfl,rfl,rfl⟩:=e4
 exact ⟨⟨n0,n1,v2,v3,v4,n5⟩,rfl⟩
theorem open_items {t:TypeId} (ht:Try.prog.underlying t=some (.slice 31)) {v:Value} {d:DataW H} {p:List MemPlace} {A:Option Addr} {len cap:Nat} (hv:v= .slice A len cap) (h:DataW.Trod enc Try.prog w base spare held t v d p):
    ∃zs:List Item,len=zs.length∧len≤cap∧Kd.C k31 w A zs.length zs:=by
  subst hv
  obtain ⟨fuel,hf⟩:=h
  rcases open_slice ht hf with ⟨e,_⟩|⟨a,len',cap',m,n,D,Pl,e,_,hl,hm,hmm,_,hi⟩
  · simp only [Value.cells, List.cons.injEq, Value.slice.injEq, and_true] at e
    obtain ⟨rfl,rfl,rfl⟩:=e
    exact ⟨[],rfl,Nat.le_refl _,Kd.C_nil _ _⟩
  simp only [Value.cells,List.cons.injEq,Value.slice.injEq,and_true] at e
  obtain ⟨rfl,rfl,rfl⟩:=e
  have hlm:len≤m:=by rw [hmm];split<;>omega
  have key: ∀i,i<len→ ∃it:Item,∀j u,[Value.string it.f0, .string it.f1, .int .i64 it.f2.f0, .int .i64 it.f2.f1, .int .i64 it.f2.f2, .int .i64 it.f3.f0, .int .i64 it.f3.f1, .int .i64 it.f3.f2, .int .i64 it.f4.f0, .int .i64 it.f4.f1, .int .i64 it.f4.f2, .int .i64 it.f5][j]?=some u→w.cell? (a.add (i*12+j))=some u:=by
    intro i hil
    obtain ⟨cs',h1,h2⟩:=hi i (by omega)
    rw [cells_it] at h1
    obtain ⟨_,hcl,hat⟩:=World.cells?_some h1
    obtain ⟨it,rfl⟩:=open_item h2
    refine ⟨it,fun j u hj=> ?_⟩
    have hj12:j<12:=by
      have:=(List.getElem?_eq_some_iff.1 hj).1
      simpa using this
    have:=hat j hj12
    rw [Go.Deep.add_add,hj] at this
    exact this
  have hg: ∃g:Nat→Item,∀i,i<len→ ∀j u,[Value.string (g i).f0, .string (g i).f1, .int .i64 (g i).f2.f0, .int .i64 (g i).f2.f1, .int .i64 (g i).f2.f2, .int .i64 (g i).f3.f0, .int .i64 (g i).f3.f1, .int .i64 (g i).f3.f2, .int .i64 (g i).f4.f0, .int .i64 (g i).f4.f1, .int .i64 (g i).f4.f2, .int .i64 (g i).f5][j]?=some u→w.cell? (a.add (i*12+j))=some u:=by
    refine ⟨fun i=>if q:i<len then Classical.choose (key i q) else zItem,fun i q=> ?_⟩
    have:=Classical.choose_spec (key i q)
    simp only [q,dif_pos]
    exact this
  obtain ⟨g,hg⟩:=hg
  refine ⟨(List.range len).map g,by simp,hl, ?_⟩
  have hml:maxLen=9223372036854775807:=rfl
  refine ⟨rfl,by simp;omega,fun _=>⟨a,rfl,fun j p hj=> ?_⟩⟩
  rw [List.getElem?_map] at hj
  obtain ⟨i,hi1,rfl⟩:=Option.map_eq_some_iff.1 hj
  obtain ⟨hjl,e⟩:=List.getElem?_eq_some_iff.1 hi1
  rw [List.getElem_range] at e
  subst e
  rw [List.length_range] at hjl
  exact ⟨_,rfl,k31_mk w (g j),fun i u hu=>hg j hjl i u hu⟩
end
section
variable {H:Type} {enc:TypeId×Value→H} {w:World} {base:Nat} {spare:Nat→Bool} {held:Bool}
theorem cells_mark:Try.prog.cellsOf 54=6:=by kernel_rfl
theorem open_mark {fuel:Nat} {cs:List Value} {x:DataW H×List MemPlace} (h:DataW.trod enc Try.prog w base spare held fuel 54 cs=some x): ∃it:S54,cs=[Value.string it.f0, .string it.f1, .int .i64 it.f2.f0, .int .i64 it.f2.f1, .int .i64 it.f2.f2, .int .i64 it.f3]:=by
 obtain ⟨xs,n,_,hx,hl,hlen,hf⟩:=DataW.trod_struct Try.underlying54 h
 replace hl:cs.length=6:=hl.trans cells_mark
 replace hlen:xs.length=4:=hlen
 clear h hx
 obtain ⟨c0,c1,c2,c3,c4,c5,rfl⟩: ∃c0 c1 c2 c3 c4 c5,cs=[c0,c1,c2,c3,c4,c5]:=by
  clear hf
  match cs,hl with
  |[c0,c1,c2,c3,c4,c5],_=>exact ⟨_,_,_,_,_,_,rfl⟩
 obtain ⟨y0,y1,y2,y3,rfl⟩: ∃y0 y1 y2 y3,xs=[y0,y1,y2,y3]:=by
  clear hf
  match xs,hlen with
  |[y0,y1,y2,y3],_=>exact ⟨_,_,_,_,rfl⟩
 have g0:DataW.trod enc Try.prog w base spare held n 9 (List.take (Try.prog.cellsOf 9) (List.drop 0 [c0,c1,c2,c3,c4,c5]))=some y0:=hf 0 _ rfl
 have g1:DataW.trod enc Try.prog w base spare held n 9 (List.take (Try.prog.cellsOf 9) (List.drop 1 [c0,c1,c2,c3,c4,c5]))=some y1:=hf 1 _ rfl
 have g2:DataW.trod enc Try.prog w base spare held n 27 (List.take (Try.prog.cellsOf 27) (List.drop 2 [c0,c1,c2,c3,c4,c5]))=some y2:=hf 2 _ rfl
 have g3:DataW.trod enc Try.prog w base spare held n 3 (List.take (Try.prog.cellsOf 3) (List.drop 5 [c0,c1,c2,c3,c4,c5]))=some y3:=hf 3 _ rfl
 rw [cells_s] at g0 g1
 rw [cells_i] at g3
 rw [cells_v] at g2
 obtain ⟨n0,rfl⟩:=open_s (c:=c0) g0
 obtain ⟨n1,rfl⟩:=open_s (c:=c1) g1
 obtain ⟨v2,e2⟩:=open_vec (cs:=[c2,c3,c4]) g2
 simp only [List.cons.injEq,and_true] at e2
 obtain ⟨rfl,rfl,rfl⟩:=e2
 obtain ⟨n3,rfl⟩:=open_i (c:=c5) g3
 exact ⟨⟨n0,n1,v2,n3⟩,rfl⟩
theorem open_marks {t:TypeId} (ht:Try.prog.underlying t=some (.slice 54)) {v:Value} {d:DataW H} {p:List MemPlace} {A:Option Addr} {len cap:Nat} (hv:v= .slice A len cap) (h:DataW.Trod enc Try.prog w base spare held t v d p):
    ∃zs:List S54,len=zs.length∧len≤cap∧Kd.C k54 w A zs.length zs:=by
  subst hv
  obtain ⟨fuel,hf⟩:=h
  rcases open_slice ht hf with ⟨e,_⟩|⟨a,len',cap',m,n,D,Pl,e,_,hl,hm,hmm,_,hi⟩
  · simp only [Value.cells, List.cons.injEq, Value.slice.injEq, and_true] at e
    obtain ⟨rfl,rfl,rfl⟩:=e
    exact ⟨[],rfl,Nat.le_refl _,Kd.C_nil _ _⟩
  simp only [Value.cells,List.cons.injEq,Value.slice.injEq,and_true] at e
  obtain ⟨rfl,rfl,rfl⟩:=e
  have hlm:len≤m:=by rw [hmm];split<;>omega
  have key: ∀i,i<len→ ∃it:S54,∀j u,[Value.string it.f0, .string it.f1, .int .i64 it.f2.f0, .int .i64 it.f2.f1, .int .i64 it.f2.f2, .int .i64 it.f3][j]?=some u→w.cell? (a.add (i*6+j))=some u:=by
    intro i hil
    obtain ⟨cs',h1,h2⟩:=hi i (by omega)
    rw [cells_mark] at h1
    obtain ⟨_,hcl,hat⟩:=World.cells?_some h1
    obtain ⟨it,rfl⟩:=open_mark h2
    refine ⟨it,fun j u hj=> ?_⟩
    have hj12:j<6:=by
      have:=(List.getElem?_eq_some_iff.1 hj).1
      simpa using this
    have:=hat j hj12
    rw [Go.Deep.add_add,hj] at this
    exact this
  have hg: ∃g:Nat→S54,∀i,i<len→ ∀j u,[Value.string (g i).f0, .string (g i).f1, .int .i64 (g i).f2.f0, .int .i64 (g i).f2.f1, .int .i64 (g i).f2.f2, .int .i64 (g i).f3][j]?=some u→w.cell? (a.add (i*6+j))=some u:=by
    refine ⟨fun i=>if q:i<len then Classical.choose (key i q) else z54,fun i q=> ?_⟩
    have:=Classical.choose_spec (key i q)
    simp only [q,dif_pos]
    exact this
  obtain ⟨g,hg⟩:=hg
  refine ⟨(List.range len).map g,by simp,hl, ?_⟩
  have hml:maxLen=9223372036854775807:=rfl
  refine ⟨rfl,by simp;omega,fun _=>⟨a,rfl,fun j p hj=> ?_⟩⟩
  rw [List.getElem?_map] at hj
  obtain ⟨i,hi1,rfl⟩:=Option.map_eq_some_iff.1 hj
  obtain ⟨hjl,e⟩:=List.getElem?_eq_some_iff.1 hi1
  rw [List.getElem_range] at e
  subst e
  rw [List.length_range] at hjl
  exact ⟨_,rfl,k54_mk w (g j),fun i u hu=>hg j hjl i u hu⟩
theorem cells_drift:Try.prog.cellsOf 37=2:=by kernel_rfl
theorem open_drift {fuel:Nat} {cs:List Value} {x:DataW H×List MemPlace} (h:DataW.trod enc Try.prog w base spare held fuel 37 cs=some x): ∃it:S37,cs=[Value.string it.f0, .int .i64 it.f1]:=by
 obtain ⟨xs,n,_,hx,hl,hlen,hf⟩:=DataW.trod_struct Try.underlying37 h
 replace hl:cs.length=2:=hl.trans cells_drift
 replace hlen:xs.length=2:=hlen
 clear h hx
 obtain ⟨c0,c1,rfl⟩: ∃c0 c1,cs=[c0,c1]:=by
  clear hf
  match cs,hl with
  |[c0,c1],_=>exact ⟨_,_,rfl⟩
 obtain ⟨y0,y1,rfl⟩: ∃y0 y1,xs=[y0,y1]:=by
  clear hf
  match xs,hlen with
  |[y0,y1],_=>exact ⟨_,_,rfl⟩
 have g0:DataW.trod enc Try.prog w base spare held n 9 (List.take (Try.prog.cellsOf 9) (List.drop 0 [c0,c1]))=some y0:=hf 0 _ rfl
 have g1:DataW.trod enc Try.prog w base spare held n 3 (List.take (Try.prog.cellsOf 3) (List.drop 1 [c0,c1]))=some y1:=hf 1 _ rfl
 rw [cells_s] at g0
 rw [cells_i] at g1
 obtain ⟨n0,rfl⟩:=open_s (c:=c0) g0
 obtain ⟨n1,rfl⟩:=open_i (c:=c1) g1
 exact ⟨⟨n0,n1⟩,rfl⟩
theorem open_drift_arg {cs:Array Value} {d:DataW H} {p:List MemPlace} (h:DataW.Trod enc Try.prog w base spare held 37 (.agg cs) d p): ∃it:S37,cs=#[.string it.f0, .int .i64 it.f1]:=by
 obtain ⟨fuel,hf⟩:=h
 obtain ⟨v,e⟩:=open_drift hf
 exact ⟨v,Array.toList_inj.1 e⟩
end
end Go.Proofs.Ytcgefpklljclgaa.Print

namespace Go.Proofs.Ytcgefpklljclgaa.Print
open Go.RowKit Go.Proofs.YtcgefpklljclgaaW.PrintWords Go.Proofs.YtcgefpklljclgaaW.PrintLast
set_option linter.unusedVariables false
set_option linter.unusedSimpArgs false
def lt (a b:ByteArray):Bool:=Op.bytesLess a.toList b.toList
theorem bl_irrefl: ∀a:List UInt8,Op.bytesLess a a=false
 |[]=>rfl
 |x::a=>by unfold Op.bytesLess;simp [bl_irrefl a]
theorem bl_trans: ∀{a b c:List UInt8},Op.bytesLess a b=true→Op.bytesLess b c=true→Op.bytesLess a c=true
  |[],[],_,h,_=>by simp [Op.bytesLess] at h
  |[],_::_,[],_,k=>by simp [Op.bytesLess] at k
  |[],_::_,_::_,_,_=>by simp [Op.bytesLess]
  |_::_,[],_,h,_=>by simp [Op.bytesLess] at h
  |_::_,_::_,[],_,k=>by simp [Op.bytesLess] at k
  | x :: a, y :: b, z :: c, h, k => by
    simp only [Op.bytesLess,Bool.or_eq_true,Bool.and_eq_true,decide_eq_true_eq,beq_iff_eq] at h k ⊢
    rcases h with h|⟨rfl,h⟩
    · rcases k with k | ⟨rfl, k⟩
      · exact .inl (UInt8.lt_trans h k)
      exact .inl h
    rcases k with k|⟨rfl,k⟩
    · exact .inl k
    exact .inr ⟨rfl,bl_trans h k⟩
theorem lt_irrefl (a:ByteArray):lt a a=false:=bl_irrefl _
theorem lt_trans {a b c:ByteArray} (h:lt a b=true) (k:lt b c=true):lt a c=true:=bl_trans h k
theorem lt_ne {a b:ByteArray} (h:lt a b=true):a≠b:=by rintro rfl;rw [lt_irrefl] at h;cases h
inductive Comp where|cpu|mem|pods
def Comp.of:Comp→Vec→Int| .cpu,v=>v.f0| .mem,v=>v.f1| .pods,v=>v.f2
theorem vec_ext {a b:Vec} (h: ∀c:Comp,c.of a=c.of b):a=b:=by
 cases a;cases b
 have h0:=h .cpu;have h1:=h .mem;have h2:=h .pods
 simp [Comp.of] at h0 h1 h2
 simp [h0,h1,h2]
def vadd (a b:Vec):Vec:=⟨a.f0+b.f0,a.f1+b.f1,a.f2+b.f2⟩
theorem of_vadd (c:Comp) (a b:Vec):c.of (vadd a b)=c.of a+c.of b:=by cases c<;>rfl
def MayP (v:Vec):Prop:= ∀c:Comp,0≤c.of v∧c.of v≤1099511627776
def LeP (a b:Vec):Prop:= ∀c:Comp,c.of a≤c.of b
theorem comp_all {p:Comp→Prop}:(∀c,p c)↔p .cpu∧p .mem∧p .pods:=
 ⟨fun h=>⟨h _,h _,h _⟩,fun ⟨a,b,d⟩ c=>by cases c<;>assumption⟩
instance (v:Vec):Decidable (MayP v):=decidable_of_iff _ comp_all.symm
instance (a b:Vec):Decidable (LeP a b):=decidable_of_iff _ comp_all.symm
theorem mayP_iff {a b d:Int}:MayP ⟨a,b,d⟩↔(0≤a∧a≤1099511627776)∧(0≤b∧b≤1099511627776)∧(0≤d∧d≤1099511627776):=comp_all
theorem leP_iff {a b d a' b' d':Int}:LeP ⟨a,b,d⟩ ⟨a',b',d'⟩↔a≤a'∧b≤b'∧d≤d':=comp_all
def sumBy (g:Item→Int) (l:List Item):Int:=(l.map g).sum
theorem sumBy_nil (g:Item→Int):sumBy g []=0:=rfl
theorem sumBy_cons (g:Item→Int) (x:Item) (l:List Item):sumBy g (x::l)=g x+sumBy g l:=by simp [sumBy]
theorem sumBy_append (g:Item→Int) (l m:List Item):sumBy g (l++m)=sumBy g l+sumBy g m:=by simp [sumBy]
theorem sumBy_nonneg {g:Item→Int}: ∀{l:List Item},(∀x∈l,0≤g x)→0≤sumBy g l
 |[],_=>by simp [sumBy_nil]
 |x::l,e=>by rw [sumBy_cons];have:=e x (by simp);have:=sumBy_nonneg (l:=l) (fun y hy=>e y (by simp [hy]));omega
theorem sumBy_le {g:Item→Int} {B:Int}: ∀{l:List Item},(∀x∈l,g x≤B)→sumBy g l≤B*l.length
  |[],_=>by simp [sumBy_nil]
  | x :: l, e => by
    rw [sumBy_cons];have:=e x (by simp);have:=sumBy_le (l:=l) (fun y hy=>e y (by simp [hy]))
    simp only [List.length_cons,Int.natCast_succ,Int.mul_add,Int.mul_one];omega
def csum (c:Comp) (l:List Item) (n:ByteArray):Int:=sumBy (fun y=>if y.f1=n then c.of y.f4 else 0) l
structure ItemOK (x:Item):Prop where
 name:x.f0≠⟨#[]⟩
 size:x.f0.size≤24
 lim:MayP x.f2
 own:MayP x.f3
 sub:MayP x.f4
 fit:LeP x.f4 x.f2
 ver:1≤x.f5∧x.f5≤9007199254740992
structure RightP (l:List Item):Prop where
 len:l.length≤120
 ok: ∀x∈l,ItemOK x
 sorted:l.Pairwise (fun x y=>lt x.f0 y.f0=true)
 par: ∀x∈l,x.f1=⟨#[]⟩∨ ∃y,look l x.f1=some y
 sum: ∀c:Comp,∀x∈l,c.of x.f4=c.of x.f3+csum c l x.f0
 chain: ∀x∈l,∃us,Chain l x.f0 us
theorem sorted_nodup {l:List Item} (h:l.Pairwise (fun x y=>lt x.f0 y.f0=true)):(l.map (·.f0)).Nodup:=by
 rw [List.Nodup,List.pairwise_map]
 exact h.imp (fun hxy=>lt_ne hxy)
theorem RightP.nodup {l:List Item} (h:RightP l):(l.map (·.f0)).Nodup:=sorted_nodup h.sorted
theorem look_of_mem {l:List Item} (hn:(l.map (·.f0)).Nodup) {x:Item} (hx:x∈l):look l x.f0=some x:=by
  induction l with
  |nil=>cases hx
  | cons y l ih =>
    rw [List.map_cons,List.nodup_cons] at hn
    unfold look
    rw [List.find?_cons]
    rcases List.mem_cons.1 hx with rfl|hx
    · simp
    have:y.f0≠x.f0:=fun e=>hn.1 (by rw [e];exact List.mem_map_of_mem hx)
    simp only [this,decide_false]
    exact ih hn.2 hx
theorem RightP.look {l:List Item} (h:RightP l) {x:Item} (hx:x∈l):look l x.f0=some x:=look_of_mem h.nodup hx
theorem look_map {f:Item→Item} (hf: ∀x,(f x).f0=x.f0) (l:List Item) (n:ByteArray):look (l.map f) n=(look l n).map f:=by
 unfold look
 rw [List.find?_map]
 congr 2
 funext x
 simp [hf]
theorem Chain.map {f:Item→Item} (hf: ∀x,(f x).f0=x.f0) (hp: ∀x,(f x).f1=x.f1) {l:List Item} {n:ByteArray} {us:List ByteArray} (h:Chain l n us):Chain (l.map f) n us:=by
 induction h with
 |nil h=>exact .nil (by rw [look_map hf,h];rfl)
 |@cons n x us h k ih=>exact .cons (x:=f x) (by rw [look_map hf,h];rfl) (by rw [hp];exact ih)
end Go.Proofs.Ytcgefpklljclgaa.Print

namespace Go.Proofs.Ytcgefpklljclgaa.Print
open Go.RowKit Go.Proofs.YtcgefpklljclgaaW.PrintWords Go.Proofs.YtcgefpklljclgaaW.PrintLast Go.Proofs.YtcgefpklljclgaaW.PrintMore
attribute [local go_sem] max2_int min2_int max_two min_two max_three min_three max_four min_four
set_option linter.unusedVariables false
set_option linter.unusedSimpArgs false

end Go.Proofs.Ytcgefpklljclgaa.Print

namespace Go.Proofs.Ytcgefpklljclgaa.Print
open Go.RowKit Go.Proofs.YtcgefpklljclgaaW.PrintWords Go.Proofs.YtcgefpklljclgaaW.PrintLast
set_option linter.unusedVariables false
set_option linter.unusedSimpArgs false
theorem r10_Le_eq (a b d a' b' d':Int):r10_Le.f a b d a' b' d'=some (decide (LeP ⟨a,b,d⟩ ⟨a',b',d'⟩)):=by
 unfold r10_Le.f
 by_cases h0:a≤a'<;>by_cases h1:b≤b'<;>simp [h0,h1,leP_iff]
theorem r10_unit_eq (a:Int):r10_unit.f a=some (decide (0≤a∧a≤1099511627776)):=by
  unfold r10_unit.f
  by_cases h0:0≤a
  · rw [if_pos (by omega)];simp [h0]
  rw [if_neg (by omega)];simp [h0]
theorem r10_MayVec_eq (a b d:Int):r10_MayVec.f a b d=some (decide (MayP ⟨a,b,d⟩)):=by
 unfold r10_MayVec.f
 simp only [r10_unit_eq,Option.bind_some]
 by_cases h0:0≤a∧a≤1099511627776<;>by_cases h1:0≤b∧b≤1099511627776<;>simp [h0,h1,mayP_iff]
theorem r10_MayName_eq (n:ByteArray):r10_MayName.f n=some (decide (n≠⟨#[]⟩∧n.size≤24)):=by
  unfold r10_MayName.f
  by_cases h:n=⟨#[]⟩
  · rw [if_pos (nm_empty.2 h)];simp [h]
  rw [if_neg (fun q=>h (nm_empty.1 q))];simp [h];omega
theorem r10_Find_l0 (l:List Item) (n:ByteArray) (hl:l.length<1000000): ∀(d i:Nat),l.length - i=d→i≤l.length→
    Ev (fun k=>r10_Find.l0 k l n i) (fidx (fun x:Item=>x.f0.toList==n.toList) (l.drop i) i)
  | 0, i, hd, hi => by
    obtain rfl:i=l.length:=by omega
    refine Ev.step (f:=fun _=>some (-1)) (fun k=> ?_) (by rw [List.drop_length];exact Ev.now _)
    simp only [r10_Find.l0]
    rw [if_neg (by omega)]
  | d + 1, i, hd, hi => by
    have hlt:i<l.length:=by omega
    rw [fidx_drop _ zItem l i hlt]
    have hrd:rd_T31 l (i:Int)=l.getD i zItem:=by rw [rd_item,Int.toNat_natCast]
    by_cases e:(l.getD i zItem).f0.toList=n.toList
    · rw [if_pos (beq_iff_eq.2 e)]
      refine Ev.step (f:=fun _=>some (i:Int)) (fun k=> ?_) (Ev.now _)
      simp only [r10_Find.l0]
      rw [if_pos (by omega),if_pos (by omega),hrd,if_pos e]
    rw [if_neg (fun q=>e (beq_iff_eq.1 q))]
    refine Ev.step (f:=fun k=>r10_Find.l0 k l n ((i+1:Nat):Int)) (fun k=> ?_) (r10_Find_l0 l n hl d (i+1) (by omega) (by omega))
    simp only [r10_Find.l0]
    rw [if_pos (by omega),if_pos (by omega),hrd,if_neg e,w64 (by omega) (by omega)]
    rfl
theorem r10_Find_ev (l:List Item) (n:ByteArray) (hl:l.length<1000000):Ev (fun k=>r10_Find.f k l n) (fnd l n):=r10_Find_l0 l n hl _ 0 rfl (by omega)
theorem r10_Up_l0 (l:List Item) (hl:l.length<1000000): ∀(m:Nat) (n:ByteArray) (out:List ByteArray),out.length+m=l.length+1→
    Ev (fun k=>r10_Up.l0 k l out (fnd l n)) (out++upGo l m n)
  | 0, n, out, hm => by
    rw [upGo.eq_1,List.append_nil]
    refine Ev.step (f:=fun _=>some out) (fun k=> ?_) (Ev.now _)
    simp only [r10_Up.l0]
    by_cases h:0≤fnd l n
    · rw [if_pos h,if_neg (by omega)]
    rw [if_neg h]
  | m + 1, n, out, hm => by
    cases h:look l n with
    | none =>
      rw [upGo_none h,List.append_nil]
      refine Ev.step (f:=fun _=>some out) (fun k=> ?_) (Ev.now _)
      simp only [r10_Up.l0]
      rw [fnd_none h,if_neg (by omega)]
    | some x =>
      rw [upGo_some h]
      have h0:=fnd_ge.2 ⟨x,h⟩
      have h1:=fnd_lt l n
      obtain ⟨hx,hn⟩:=look_mem h
      refine Ev.step (f:=fun k=>(r10_Find.f k l x.f1).bind fun t=>r10_Up.l0 k l (out++ [n]) t) (fun k=> ?_) (Ev.bind (r10_Find_ev l x.f1 hl) ?_)
      · simp only [r10_Up.l0]
        rw [if_pos h0,if_pos (by omega),if_pos h0,if_pos h1,if_pos (by omega),fnd_rd h,hn]
      have:=r10_Up_l0 l hl m x.f1 (out++ [n]) (by simp;omega)
      simpa using this
theorem r10_Up_ev (l:List Item) (n:ByteArray) (hl:l.length<1000000):Ev (fun k=>r10_Up.f k l n) (up l n):=
 Ev.bind (r10_Find_ev l n hl) (by have:=r10_Up_l0 l hl (l.length+1) n [] (by simp);rw [List.nil_append] at this;exact this)
def one (c:Int):ByteArray:=strOfNums [c]
structure MadeP (l:List Item):Prop where
 right:RightP l
 len:l.length≤24
 name: ∀x∈l,∃c:Int,97≤c∧c≤120∧x.f0=one c
 ver: ∀x∈l,x.f5=1
 lim: ∀x∈l,∀c:Comp,20≤c.of x.f2∧c.of x.f2≤275
end Go.Proofs.Ytcgefpklljclgaa.Print

namespace Go.Proofs.Ytcgefpklljclgaa.Print
open Go.RowKit Go.Proofs.YtcgefpklljclgaaW.PrintWords Go.Proofs.YtcgefpklljclgaaW.PrintLast Go.Proofs.YtcgefpklljclgaaW.PrintMore
attribute [local go_sem] max2_int min2_int max_two min_two max_three min_three max_four min_four
set_option linter.unusedVariables false
set_option linter.unusedSimpArgs false

end Go.Proofs.Ytcgefpklljclgaa.Print

namespace Go.Proofs.Ytcgefpklljclgaa.Print
open Go.RowKit Go.Proofs.YtcgefpklljclgaaW.PrintWords Go.Proofs.YtcgefpklljclgaaW.PrintLast Go.Proofs.YtcgefpklljclgaaW.PrintMore
set_option linter.unusedVariables false
set_option linter.unusedSimpArgs false
def Ok1 (l:List Item) (i:Nat):Prop:=ItemOK (rd_T31 l i)∧(0<i→lt (rd_T31 l ((i:Int) - 1)).f0 (rd_T31 l i).f0=true)∧((rd_T31 l i).f1=⟨#[]⟩∨ ∃y,look l (rd_T31 l i).f1=some y)
def Ok2 (l:List Item) (i:Nat):Prop:=(∀c:Comp,c.of (rd_T31 l i).f4=c.of (rd_T31 l i).f3+csum c l (rd_T31 l i).f0)
def Ok3 (l:List Item) (i:Nat):Prop:=(up l (rd_T31 l i).f0).length≤l.length
theorem rd_get {l:List Item} {i:Nat} (h:i<l.length):rd_T31 l (i:Int)=l[i]:=by rw [rd_item,Int.toNat_natCast];simp [h]
theorem rd_mem {l:List Item} {i:Nat} (h:i<l.length):rd_T31 l (i:Int)∈l:=by rw [rd_get h];exact List.getElem_mem h
theorem rightP_iff (l:List Item):RightP l↔l.length≤120∧(∀i,i<l.length→Ok1 l i)∧(∀i,i<l.length→Ok2 l i)∧(∀i,i<l.length→Ok3 l i):=by
  constructor
  · intro h
    refine ⟨h.len,fun i hi=>⟨h.ok _ (rd_mem hi),fun h0=> ?_,h.par _ (rd_mem hi)⟩,fun i hi c=>h.sum c _ (rd_mem hi),fun i hi=>up_len_iff.2 (h.chain _ (rd_mem hi))⟩
    have:=List.pairwise_iff_getElem.1 h.sorted (i - 1) i (by omega) hi (by omega)
    rw [show ((i:Int) - 1)=((i - 1:Nat):Int) from by omega,rd_get (show i - 1<l.length by omega),rd_get hi]
    exact this
  rintro ⟨h1,h2,h3,h4⟩
  have hx: ∀x∈l,∃i,i<l.length∧rd_T31 l (i:Int)=x:=fun x hx=>by
    obtain ⟨i,hi,e⟩:=List.getElem_of_mem hx
    exact ⟨i,hi,by rw [rd_get hi];exact e⟩
  refine ⟨h1,fun x hx'=> ?_, ?_,fun x hx'=> ?_,fun c x hx'=> ?_,fun x hx'=> ?_⟩
  · obtain ⟨i, hi, rfl⟩ := hx x hx'
    exact (h2 i hi).1
  · rw [List.pairwise_iff_getElem]
    intro i j hi hj hij
    have step: ∀d:Nat,∀hd:i+1+d<l.length,lt l[i].f0 (l[i+1+d]).f0=true:=by
      intro d
      induction d with
      | zero =>
        intro hd
        have:=(h2 (i+1) (by omega)).2.1 (by omega)
        rw [show (((i+1:Nat):Int) - 1)=(i:Int) from by omega,rd_get hi,rd_get (show i+1<l.length by omega)] at this
        exact this
      | succ d ih =>
        intro hd
        have:=(h2 (i+1+(d+1)) hd).2.1 (by omega)
        rw [show (((i+1+(d+1):Nat):Int) - 1)=((i+1+d:Nat):Int) from by omega,rd_get (show i+1+d<l.length by omega),rd_get hd] at this
        exact lt_trans (ih (by omega)) this
    have:=step (j - (i+1)) (by omega)
    simpa [show i+1+(j - (i+1))=j by omega] using this
  · obtain ⟨i, hi, rfl⟩ := hx x hx'
    exact (h2 i hi).2.2
  · obtain ⟨i, hi, rfl⟩ := hx x hx'
    exact h3 i hi c
  obtain ⟨i,hi,rfl⟩:=hx x hx'
  exact up_len_iff.1 (h4 i hi)
end Go.Proofs.Ytcgefpklljclgaa.Print

namespace Go.Proofs.Ytcgefpklljclgaa.Print
open Go.RowKit Go.Proofs.YtcgefpklljclgaaW.PrintWords Go.Proofs.YtcgefpklljclgaaW.PrintLast Go.Proofs.YtcgefpklljclgaaW.PrintMore
attribute [local go_sem] max2_int min2_int max_two min_two max_three min_three max_four min_four
set_option linter.unusedVariables false
set_option linter.unusedSimpArgs false

-- uses fidx
end Go.Proofs.Ytcgefpklljclgaa.Print

namespace Go.Proofs.Ytcgefpklljclgaa.Print
open Go.RowKit Go.Proofs.YtcgefpklljclgaaW.PrintWords Go.Proofs.YtcgefpklljclgaaW.PrintLast Go.Proofs.YtcgefpklljclgaaW.PrintMore
set_option linter.unusedVariables false
set_option linter.unusedSimpArgs false
def addV (a:Vec) (ws:List Item):Vec:=⟨a.f0+sumBy (fun x=>x.f4.f0) ws,a.f1+sumBy (fun x=>x.f4.f1) ws,a.f2+sumBy (fun x=>x.f4.f2) ws⟩
theorem addV_nil (a:Vec):addV a []=a:=by unfold addV;simp [sumBy_nil]
def SmallV (a:Vec) (n:Nat):Prop:= ∀c:Comp,0≤c.of a∧c.of a≤1099511627776*n
theorem small_wrap {a b:Vec} {n:Nat} (ha:SmallV a n) (hb:MayP b) (hn:n≤1000):wrap64 (a.f0+b.f0)=(vadd a b).f0∧wrap64 (a.f1+b.f1)=(vadd a b).f1∧wrap64 (a.f2+b.f2)=(vadd a b).f2:=by
 have a0:=ha .cpu;have a1:=ha .mem;have a2:=ha .pods
 have b0:=hb .cpu;have b1:=hb .mem;have b2:=hb .pods
 simp only [Comp.of] at a0 a1 a2 b0 b1 b2
 exact ⟨w64 (by omega) (by omega),w64 (by omega) (by omega),w64 (by omega) (by omega)⟩
end Go.Proofs.Ytcgefpklljclgaa.Print

namespace Go.Proofs.Ytcgefpklljclgaa.Print
open Go.RowKit Go.Proofs.YtcgefpklljclgaaW.PrintWords Go.Proofs.YtcgefpklljclgaaW.PrintLast Go.Proofs.YtcgefpklljclgaaW.PrintMore
attribute [local go_sem] max2_int min2_int max_two min_two max_three min_three max_four min_four
set_option linter.unusedVariables false
set_option linter.unusedSimpArgs false

end Go.Proofs.Ytcgefpklljclgaa.Print

namespace Go.Proofs.Ytcgefpklljclgaa.Print
open Go.RowKit Go.Proofs.YtcgefpklljclgaaW.PrintWords Go.Proofs.YtcgefpklljclgaaW.PrintLast Go.Proofs.YtcgefpklljclgaaW.PrintMore
set_option linter.unusedVariables false
set_option linter.unusedSimpArgs false
theorem sumBy_filter (g:Item→Int) (p:Item→Bool): ∀l:List Item,sumBy g (l.filter p)=sumBy (fun x=>if p x=true then g x else 0) l
  |[]=>rfl
  | x :: l => by
    rw [sumBy_cons]
    by_cases h:p x=true
    · rw [List.filter_cons_of_pos h,sumBy_cons,sumBy_filter g p l,if_pos h]
    rw [List.filter_cons_of_neg h,sumBy_filter g p l,if_neg h];omega
theorem of_addV_ (c:Comp) (a:Vec) (ws:List Item):c.of (addV a ws)=c.of a+sumBy (fun x=>c.of x.f4) ws:=by cases c<;>rfl
theorem addV_snoc_ (a:Vec) (ws:List Item) (y:Item):addV a (ws++ [y])=vadd (addV a ws) y.f4:=vec_ext fun c=>by
 rw [of_vadd,of_addV_,of_addV_,sumBy_append,sumBy_cons,sumBy_nil];omega
theorem small_addV_ {a:Vec} {n:Nat} (ha:SmallV a n) {ws:List Item} (hw: ∀y∈ws,MayP y.f4):SmallV (addV a ws) (n+ws.length):=fun c=>by
 have h1:=ha c
 have h2:=sumBy_nonneg (g:=fun x=>c.of x.f4) (l:=ws) (fun y hy=>(hw y hy c).1)
 have h3:=sumBy_le (g:=fun x=>c.of x.f4) (B:=1099511627776) (l:=ws) (fun y hy=>(hw y hy c).2)
 rw [of_addV_]
 omega
theorem r10_add_small_ {a b:Vec} {n:Nat} (ha:SmallV a n) (hb:MayP b) (hn:n≤1000):r10_Add.f a.f0 a.f1 a.f2 b.f0 b.f1 b.f2=some ((vadd a b).f0,(vadd a b).f1,(vadd a b).f2):=by
 obtain ⟨e0,e1,e2⟩:=small_wrap ha hb hn
 unfold r10_Add.f
 rw [e0,e1,e2]
theorem ok2_iff {l:List Item} {i:Nat} {x:Item} (hx:rd_T31 l i=x):Ok2 l i↔addV x.f3 (l.filter (fun y=>decide (y.f1=x.f0)))=x.f4:=by
  have key: ∀c:Comp,c.of (addV x.f3 (l.filter (fun y=>decide (y.f1=x.f0))))=c.of x.f3+csum c l x.f0:=fun c=>by
    rw [of_addV_,sumBy_filter]
    simp only [decide_eq_true_eq]
    rfl
  unfold Ok2
  rw [hx]
  constructor
  · intro h
    exact vec_ext fun c=>by rw [key c,h c]
  intro h c
  rw [←key c,h]
theorem r10_full_l2 {l:List Item} (hlen:l.length≤120) (h1: ∀i,i<l.length→Ok1 l i) {i:Nat} (hi:i<l.length) {x:Item} (hx:rd_T31 l i=x) {b:Bool} (hno: ¬(Ok2 l i∧Ok3 l i)→b=false)
    (rest:Ok2 l i∧Ok3 l i→Ev (fun k=>r10_Right.l1 k l ((i+1:Nat):Int)) b): ∀(d j:Nat),l.length - j=d→j≤l.length→
    Ev (fun k=>r10_Right.l2 k l i j (addV x.f3 ((l.take j).filter (fun y=>decide (y.f1=x.f0)))).f0 (addV x.f3 ((l.take j).filter (fun y=>decide (y.f1=x.f0)))).f1 (addV x.f3 ((l.take j).filter (fun y=>decide (y.f1=x.f0)))).f2) b
  | 0, j, hd, hj => by
    obtain rfl:j=l.length:=by omega
    rw [List.take_length]
    have hok:=ok2_iff (l:=l) (i:=i) hx
    generalize addV x.f3 (l.filter (fun y=>decide (y.f1=x.f0)))=s at hok
    refine Ev.step (fun k=>r10_Right.l2.eq_2 (k:=k) ..) ?_
    have e1:((i:Int)<(l.length:Int))=True:=eq_true (by omega)
    have e2:((0:Int)≤(i:Int))=True:=eq_true (by omega)
    have e3:wrap64 ((i:Int)+1)=((i+1:Nat):Int):=by rw [w64 (by omega) (by omega)];rfl
    simp only [Int.lt_irrefl,if_false,e1,e2,if_true,hx,e3]
    by_cases hs:s=x.f4
    · subst hs
      refine Ev.congr (fun k=>if_neg (by simp)) ?_
      refine Ev.bind (r10_Up_ev l x.f0 (by omega)) ?_
      by_cases hu:(up l x.f0).length≤l.length
      · exact Ev.congr (fun k=>if_neg (by omega)) (rest ⟨hok.2 rfl,by unfold Ok3;rw [hx];exact hu⟩)
      refine Ev.congr (fun k=>if_pos (by omega)) ?_
      rw [hno (fun q=>hu (by have:=q.2;unfold Ok3 at this;rw [hx] at this;exact this))]
      exact Ev.now _
    refine Ev.congr (fun k=>if_pos ?_) ?_
    · have : ¬ (s.f0 = x.f4.f0 ∧ s.f1 = x.f4.f1 ∧ s.f2 = x.f4.f2) := fun ⟨a, b, c⟩ => hs (vec_ext fun d => by cases d <;> assumption)
      by_cases a:s.f0=x.f4.f0<;>by_cases b:s.f1=x.f4.f1<;>by_cases c:s.f2=x.f4.f2<;>simp_all
    rw [hno (fun q=>hs (hok.1 q.1))]
    exact Ev.now _
  | d + 1, j, hd, hj => by
    have hlt:j<l.length:=by omega
    have ih:=r10_full_l2 hlen h1 hi hx hno rest d (j+1) (by omega) (by omega)
    have hrd:=rd_get hlt
    have hall: ∀y∈l,ItemOK y:=fun y hy=>by
      obtain ⟨m,hm,e⟩:=List.getElem_of_mem hy
      have:=(h1 m hm).1
      rw [rd_get hm,e] at this
      exact this
    have hym:MayP (l[j]).f4:=(hall _ (List.getElem_mem hlt)).sub
    rw [List.take_succ_eq_append_getElem hlt,List.filter_append] at ih
    have hxm:ItemOK x:=by rw [←hx];exact (h1 i hi).1
    have hsm:=small_addV_ (a:=x.f3) (n:=1) (fun c=>by have:=hxm.own c;omega) (ws:=(l.take j).filter (fun y=>decide (y.f1=x.f0))) (fun y hy=>(hall y (List.mem_of_mem_take (List.mem_filter.1 hy).1)).sub)
    have hfl:=List.length_filter_le (fun y:Item=>decide (y.f1=x.f0)) (l.take j)
    rw [List.length_take] at hfl
    generalize l[j]=y at hrd ih hym
    refine Ev.step (fun k=>r10_Right.l2.eq_2 (k:=k) ..) ?_
    have e1:((i:Int)<(l.length:Int))=True:=eq_true (by omega)
    have e2:((0:Int)≤(i:Int))=True:=eq_true (by omega)
    have e4:((j:Int)<(l.length:Int))=True:=eq_true (by omega)
    have e5:((0:Int)≤(j:Int))=True:=eq_true (by omega)
    have e3:wrap64 ((j:Int)+1)=((j+1:Nat):Int):=by rw [w64 (by omega) (by omega)];rfl
    simp only [e1,e2,e4,e5,if_true,hx,hrd,e3]
    by_cases hy:y.f1=x.f0
    · have e6 : (y.f1.toList = x.f0.toList) = True := eq_true (nm_inj.2 hy)
      rw [List.filter_cons_of_pos (by simpa using hy),List.filter_nil,addV_snoc_] at ih
      simp only [e6,if_true,r10_add_small_ hsm hym (by omega),Option.bind_some]
      exact ih
    have e6:(y.f1.toList=x.f0.toList)=False:=eq_false (fun q=>hy (nm_inj.1 q))
    rw [List.filter_cons_of_neg (by simpa using hy),List.filter_nil,List.append_nil] at ih
    simp only [e6,if_false]
    exact ih
theorem r10_full_l1 {l:List Item} (hlen:l.length≤120) (h1: ∀i,i<l.length→Ok1 l i) {b:Bool} (hb:b=true↔RightP l): ∀(d i:Nat),l.length - i=d→i≤l.length→(∀j,j<i→Ok2 l j∧Ok3 l j)→Ev (fun k=>r10_Right.l1 k l i) b
  | 0, i, hd, hi, hp => by
    obtain rfl:i=l.length:=by omega
    refine Ev.step (fun k=>r10_Right.l1.eq_2 (k:=k) ..) ?_
    simp only [Int.lt_irrefl,if_false]
    rw [hb.2 ((rightP_iff l).2 ⟨hlen,h1,fun j hj=>(hp j hj).1,fun j hj=>(hp j hj).2⟩)]
    exact Ev.now _
  | d + 1, i, hd, hi, hp => by
    have hlt:i<l.length:=by omega
    refine Ev.step (fun k=>r10_Right.l1.eq_2 (k:=k) ..) ?_
    have e1:((i:Int)<(l.length:Int))=True:=eq_true (by omega)
    have e2:((0:Int)≤(i:Int))=True:=eq_true (by omega)
    simp only [e1,e2,if_true]
    have:=r10_full_l2 hlen h1 hlt (x:=rd_T31 l i) rfl (b:=b) (fun q=>by
      cases b with
      |false=>rfl
      | true =>
        obtain ⟨_,_,a,c⟩:=(rightP_iff l).1 (hb.1 rfl)
        exact absurd ⟨a i hlt,c i hlt⟩ q) (fun q=>r10_full_l1 hlen h1 hb d (i+1) (by omega) (by omega) (fun j hj=>by
        by_cases e:j=i
        · rw [e];exact q
        exact hp j (by omega))) _ 0 rfl (by omega)
    rw [List.take_zero,List.filter_nil,addV_nil] at this
    exact this
theorem r10_full_l0 {l:List Item} (hlen:l.length≤120) {b:Bool} (hb:b=true↔RightP l): ∀(d i:Nat),l.length - i=d→i≤l.length→(∀j,j<i→Ok1 l j)→Ev (fun k=>r10_Right.l0 k l i) b
  | 0, i, hd, hi, hp => by
    obtain rfl:i=l.length:=by omega
    refine Ev.step (fun k=>r10_Right.l0.eq_2 (k:=k) ..) ?_
    simp only [Int.lt_irrefl,if_false]
    exact r10_full_l1 hlen hp hb _ 0 rfl (by omega) (fun j hj=>absurd hj (by omega))
  | d + 1, i, hd, hi, hp => by
    have hlt:i<l.length:=by omega
    have hbad: ¬Ok1 l i→Ev (fun _=>some false) b:=fun q=>by
      cases b with
      |false=>exact Ev.now _
      |true=>exact absurd (((rightP_iff l).1 (hb.1 rfl)).2.1 i hlt) q
    have hnext:Ok1 l i→Ev (fun k=>r10_Right.l0 k l ((i+1:Nat):Int)) b:=fun q=>r10_full_l0 hlen hb d (i+1) (by omega) (by omega) (fun j hj=>by
      by_cases e:j=i
      · rw [e];exact q
      exact hp j (by omega))
    obtain ⟨x,hx⟩: ∃x,rd_T31 l (i:Int)=x:=⟨_,rfl⟩
    have hOk:Ok1 l i↔ItemOK x∧(0<i→lt (rd_T31 l ((i:Int) - 1)).f0 x.f0=true)∧(x.f1=⟨#[]⟩∨ ∃y,look l x.f1=some y):=by unfold Ok1;rw [hx]
    have e1:((i:Int)<(l.length:Int))=True:=eq_true (by omega)
    have e2:((0:Int)≤(i:Int))=True:=eq_true (by omega)
    have e3:wrap64 ((i:Int)+1)=((i+1:Nat):Int):=by rw [w64 (by omega) (by omega)];rfl
    have n0:r10_MayName.f x.f0=some (decide (x.f0≠⟨#[]⟩∧x.f0.size≤24)):=r10_MayName_eq _
    have n1:r10_MayVec.f x.f2.f0 x.f2.f1 x.f2.f2=some (decide (MayP x.f2)):=r10_MayVec_eq _ _ _
    have n2:r10_MayVec.f x.f3.f0 x.f3.f1 x.f3.f2=some (decide (MayP x.f3)):=r10_MayVec_eq _ _ _
    have n3:r10_Le.f x.f4.f0 x.f4.f1 x.f4.f2 x.f2.f0 x.f2.f1 x.f2.f2=some (decide (LeP x.f4 x.f2)):=r10_Le_eq _ _ _ _ _ _
    have n4:r10_MayVec.f x.f4.f0 x.f4.f1 x.f4.f2=some (decide (MayP x.f4)):=r10_MayVec_eq _ _ _
    refine Ev.step (fun k=>r10_Right.l0.eq_2 (k:=k) ..) ?_
    simp only [e1,e2,if_true,hx,n0,n1,n2,n3,n4,Option.bind_some,e3,decide_eq_true_eq]
    by_cases m0:x.f0≠⟨#[]⟩∧x.f0.size≤24
    case neg=>exact Ev.congr (fun k=>if_neg m0) (hbad fun q=>m0 ⟨(hOk.1 q).1.name,(hOk.1 q).1.size⟩)
    refine Ev.congr (fun k=>if_pos m0) ?_
    have hver:(0<i→lt (rd_T31 l ((i:Int) - 1)).f0 x.f0=true)→MayP x.f2→MayP x.f3→(x.f1=⟨#[]⟩∨ ∃y,look l x.f1=some y)→
        Ev (fun k=>if x.f5<1 then some false else if x.f5>9007199254740992 then some false else if LeP x.f4 x.f2 then (if MayP x.f4 then r10_Right.l0 k l ((i+1:Nat):Int) else some false) else some false) b:=fun ho ml mo hpar=>by
      by_cases v1:x.f5<1
      · exact Ev.congr (fun k=>if_pos v1) (hbad fun q=>by have:=(hOk.1 q).1.ver;omega)
      refine Ev.congr (fun k=>if_neg v1) ?_
      by_cases v2:x.f5>9007199254740992
      · exact Ev.congr (fun k=>if_pos v2) (hbad fun q=>by have:=(hOk.1 q).1.ver;omega)
      refine Ev.congr (fun k=>if_neg v2) ?_
      by_cases v3:LeP x.f4 x.f2
      case neg=>exact Ev.congr (fun k=>if_neg v3) (hbad fun q=>v3 (hOk.1 q).1.fit)
      refine Ev.congr (fun k=>if_pos v3) ?_
      by_cases v4:MayP x.f4
      case neg=>exact Ev.congr (fun k=>if_neg v4) (hbad fun q=>v4 (hOk.1 q).1.sub)
      exact Ev.congr (fun k=>if_pos v4) (hnext (hOk.2 ⟨⟨m0.1,m0.2,ml,mo,v4,v3,by omega⟩,ho,hpar⟩))
    have hpar:(0<i→lt (rd_T31 l ((i:Int) - 1)).f0 x.f0=true)→Ev (fun k=>if MayP x.f2 then (if MayP x.f3 then (if x.f1.toList=([]:List UInt8) then (if x.f5<1 then some false else if x.f5>9007199254740992 then some false else if LeP x.f4 x.f2 then (if MayP x.f4 then r10_Right.l0 k l ((i+1:Nat):Int) else some false) else some false) else ((r10_Find.f k l x.f1).bind fun t9=>(if t9<0 then some false else (if x.f5<1 then some false else if x.f5>9007199254740992 then some false else if LeP x.f4 x.f2 then (if MayP x.f4 then r10_Right.l0 k l ((i+1:Nat):Int) else some false) else some false)))) else some false) else some false) b:=fun ho=>by
      by_cases ml:MayP x.f2
      case neg=>exact Ev.congr (fun k=>if_neg ml) (hbad fun q=>ml (hOk.1 q).1.lim)
      refine Ev.congr (fun k=>if_pos ml) ?_
      by_cases mo:MayP x.f3
      case neg=>exact Ev.congr (fun k=>if_neg mo) (hbad fun q=>mo (hOk.1 q).1.own)
      refine Ev.congr (fun k=>if_pos mo) ?_
      by_cases hp:x.f1=⟨#[]⟩
      · exact Ev.congr (fun k=>if_pos (nm_empty.2 hp)) (hver ho ml mo (.inl hp))
      refine Ev.congr (fun k=>if_neg (fun z=>hp (nm_empty.1 z))) (Ev.bind (r10_Find_ev l x.f1 (by omega)) ?_)
      by_cases hf:fnd l x.f1<0
      · refine Ev.congr (fun k => if_pos hf) (hbad fun q => ?_)
        rcases (hOk.1 q).2.2 with z|⟨y,hy⟩
        · exact hp z
        rw [fnd_neg.1 hf] at hy;cases hy
      exact Ev.congr (fun k=>if_neg hf) (hver ho ml mo (.inr (fnd_ge.1 (by omega))))
    by_cases hi0:(i:Int)>0
    · have e4 : wrap64 ((i : Int) - 1) = (i : Int) - 1 := w64 (by omega) (by omega)
      have e5:((i:Int)>0)=True:=eq_true hi0
      have e6:(0≤(i:Int) - 1)=True:=eq_true (by omega)
      have e7:((i:Int) - 1<(l.length:Int))=True:=eq_true (by omega)
      simp only [e4,e5,e6,e7,if_true]
      by_cases m2:lt (rd_T31 l ((i:Int) - 1)).f0 x.f0=true
      · exact Ev.congr (fun k=>if_pos m2) (hpar (fun _=>m2))
      exact Ev.congr (fun k=>if_neg m2) (hbad fun q=>m2 ((hOk.1 q).2.1 (by omega)))
    have e5:((i:Int)>0)=False:=eq_false hi0
    simp only [e5,if_false]
    exact hpar (fun q=>absurd q (by omega))
theorem r10_Right_ev (l:List Item) {b:Bool} (hb:b=true↔RightP l):Ev (fun k=>r10_Right.f k l) b:=by
  unfold r10_Right.f
  by_cases h:(l.length:Int)>120
  · refine Ev.congr (fun k => if_pos h) ?_
    cases b with
    |false=>exact Ev.now _
    |true=>exact absurd (hb.1 rfl).len (by omega)
  exact Ev.congr (fun k=>if_neg h) (r10_full_l0 (by omega) hb _ 0 rfl (by omega) (fun j hj=>absurd hj (by omega)))
end Go.Proofs.Ytcgefpklljclgaa.Print

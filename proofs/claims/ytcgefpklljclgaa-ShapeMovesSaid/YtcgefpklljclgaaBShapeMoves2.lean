/- ShapeMoves: a part -/
import Derived.Deep.RegionLaw
import Derived.Shelf.RegionOpenPlain
import Derived.Laws.Cover1
import Derived.Test.YtcgefpklljclgaaBShapeMoves0
import Derived.Test.YtcgefpklljclgaaBShapeMoves1
namespace Go.Proofs.Ytcgefpklljclgaa.Print
open Go.RowKit Go.Proofs.YtcgefpklljclgaaW.PrintWords Go.Proofs.YtcgefpklljclgaaW.PrintLast Go.Proofs.YtcgefpklljclgaaW.PrintMore
attribute [local go_sem] max2_int min2_int max_two min_two max_three min_three max_four min_four
set_option linter.unusedVariables false
set_option linter.unusedSimpArgs false

def r10_Admit.l0:Nat→ByteArray→List ByteArray→List (S31)→Int→Int→Int→Int→Option ((List (S31))×Int)
 |0,_,_,_,_,_,_,_=>none
 |k+1,x1,x7,x8,x9,x2000,x2001,x2002=>if x9<(x7.length:Int) then (if 0≤x9 then ((r10_Find.f k x8 (rdOf ByteArray.empty x7 x9)).bind fun t25=>(if 0≤t25 then (if t25<(x8.length:Int) then ((r10_Add.f ((rd_T31 x8 t25).f4.f0) ((rd_T31 x8 t25).f4.f1) ((rd_T31 x8 t25).f4.f2) x2000 x2001 x2002).bind fun bt27=>((some (x8.set (t25:Int).toNat (⟨(rd_T31 x8 t25).f0,(rd_T31 x8 t25).f1,(⟨(rd_T31 x8 t25).f2.f0,(rd_T31 x8 t25).f2.f1,(rd_T31 x8 t25).f2.f2⟩:S27),(⟨(rd_T31 x8 t25).f3.f0,(rd_T31 x8 t25).f3.f1,(rd_T31 x8 t25).f3.f2⟩:S27),(⟨bt27.1,bt27.2.1,bt27.2.2⟩:S27),(rd_T31 x8 t25).f5⟩:S31):List (S31))).bind fun y30=>((r10_Le.f ((rd_T31 y30 t25).f4.f0) ((rd_T31 y30 t25).f4.f1) ((rd_T31 y30 t25).f4.f2) ((rd_T31 y30 t25).f2.f0) ((rd_T31 y30 t25).f2.f1) ((rd_T31 y30 t25).f2.f2)).bind fun t33=>(if t33=true then (r10_Admit.l0 k x1 x7 y30 (wrap64 (x9+1)) x2000 x2001 x2002) else ((r10_no.f 12).bind fun bt34=>(some (bt34.1,bt34.2))))))) else (none)) else (none))) else (none)) else ((r10_Find.f k x8 x1).bind fun t18=>(if 0≤t18 then (if t18<(x8.length:Int) then ((r10_Add.f ((rd_T31 x8 t18).f3.f0) ((rd_T31 x8 t18).f3.f1) ((rd_T31 x8 t18).f3.f2) x2000 x2001 x2002).bind fun bt20=>(some ((x8.set (t18:Int).toNat (⟨(rd_T31 x8 t18).f0,(rd_T31 x8 t18).f1,(⟨(rd_T31 x8 t18).f2.f0,(rd_T31 x8 t18).f2.f1,(rd_T31 x8 t18).f2.f2⟩:S27),(⟨bt20.1,bt20.2.1,bt20.2.2⟩:S27),(⟨(rd_T31 x8 t18).f4.f0,(rd_T31 x8 t18).f4.f1,(rd_T31 x8 t18).f4.f2⟩:S27),(rd_T31 x8 t18).f5⟩:S31)),0))) else (none)) else (none)))
def r10_Admit.f (k:Nat) (l0:List (S31)) (a1:ByteArray) (a2_0:Int) (a2_1:Int) (a2_2:Int):Option ((List (S31))×Int):=(r10_Up.f k l0 a1).bind fun t3=>((r10_MayVec.f a2_0 a2_1 a2_2).bind fun t6=>(if t6=true then (if (t3.length:Int)=0 then ((r10_no.f 2).bind fun bt11=>(some (bt11.1,bt11.2))) else ((r10_copied.f l0).bind fun t15=>(r10_Admit.l0 k a1 t3 t15 0 a2_0 a2_1 a2_2))) else ((r10_no.f 1).bind fun bt7=>(some (bt7.1,bt7.2)))))
theorem r10_Admit.mono_l: ∀k,(∀y0 y1 y2 y3 y4 y5 y6,LeO (r10_Admit.l0 k y0 y1 y2 y3 y4 y5 y6) (r10_Admit.l0 (k+1) y0 y1 y2 y3 y4 y5 y6))
 |0=>fun _ _ _ _ _ _ _ r h=>by simp [r10_Admit.l0] at h
 |k+1=>by
  have ih0:=r10_Admit.mono_l k
  intro y0 y1 y2 y3 y4 y5 y6
  unfold r10_Admit.l0
  repeat' first
  |(with_reducible exact ih0 _ _ _ _ _ _ _)
  |(with_reducible exact r10_Find.mono _ _ _)
  |(with_reducible exact r10_Up.mono _ _ _)
  |(with_reducible exact LeO.refl _)
  |(with_reducible exact LeO.none _)
  |(with_reducible refine LeO.ite ?_ ?_)
  |(with_reducible refine LeO.bind ?_ (fun _=> ?_))
  |exact ih0 _ _ _ _ _ _ _
  |exact r10_Find.mono _ _ _
  |exact r10_Up.mono _ _ _
  |exact LeO.none _
  |refine LeO.ite ?_ ?_
  |refine LeO.bind ?_ (fun _=> ?_)
theorem r10_Admit.mono: ∀a0 a1 a2 a3 a4 k,LeO (r10_Admit.f k a0 a1 a2 a3 a4) (r10_Admit.f (k+1) a0 a1 a2 a3 a4):=by
 intro a0 a1 a2 a3 a4 k
 have ih0:=r10_Admit.mono_l k
 unfold r10_Admit.f
 repeat' first
  |(with_reducible exact ih0 _ _ _ _ _ _ _)
  |(with_reducible exact r10_Find.mono _ _ _)
  |(with_reducible exact r10_Up.mono _ _ _)
  |(with_reducible exact LeO.refl _)
  |(with_reducible exact LeO.none _)
  |(with_reducible refine LeO.ite ?_ ?_)
  |(with_reducible refine LeO.bind ?_ (fun _=> ?_))
  |exact ih0 _ _ _ _ _ _ _
  |exact r10_Find.mono _ _ _
  |exact r10_Up.mono _ _ _
  |exact LeO.none _
  |refine LeO.ite ?_ ?_
  |refine LeO.bind ?_ (fun _=> ?_)
def r10_Admit.T11:Bool×List (List Nat×List Nat):=(true,[([],[]),([],[]),([],[]),([],[]),([2,3],[2,3]),([4],[4]),([5],[5]),([],[]),([6,7],[6,7]),([0,1,0,1,2,3,4,5,6,7,8],[0,1]),([9,0,1,2,3,4,5,6,7,8],[9]),([10,8,8,0,1,2,3,4,5,6,7,8],[8,10])])
def r10_Admit.B11:List Nat:=[0,0,0,0,12,28,60,0,252,511,1023,2047]
theorem r10_Admit.tab11:rtab .any (opsOf Try.f66 11)=r10_Admit.T11:=by kernel_rfl
theorem r10_Admit.bits11:waitsOk r10_Admit.T11.2 r10_Admit.B11=true:=by kernel_rfl
def r10_Admit.T12:Bool×List (List Nat×List Nat):=(true,[([],[]),([],[]),([0,1],[0,1]),([2],[2]),([3],[3]),([],[]),([],[]),([5,6],[5,6]),([7],[7]),([8],[8]),([4,9],[4,9]),([10],[10])])
def r10_Admit.B12:List Nat:=[0,0,3,7,15,0,0,96,224,480,1023,2047]
theorem r10_Admit.tab12:rtab .any (opsOf Try.f66 12)=r10_Admit.T12:=by kernel_rfl
theorem r10_Admit.bits12:waitsOk r10_Admit.T12.2 r10_Admit.B12=true:=by kernel_rfl
def r10_Admit.T15:Bool×List (List Nat×List Nat):=(true,[([],[]),([],[]),([],[]),([],[]),([2,3],[2,3]),([4],[4]),([5],[5]),([],[]),([6,7],[6,7]),([0,1,0,1,2,3,4,5,6,7,8],[0,1]),([9,0,1,2,3,4,5,6,7,8],[9]),([10,8,8,0,1,2,3,4,5,6,7,8],[8,10])])
def r10_Admit.B15:List Nat:=[0,0,0,0,12,28,60,0,252,511,1023,2047]
theorem r10_Admit.tab15:rtab .any (opsOf Try.f66 15)=r10_Admit.T15:=by kernel_rfl
theorem r10_Admit.bits15:waitsOk r10_Admit.T15.2 r10_Admit.B15=true:=by kernel_rfl
set_option maxHeartbeats 8000000 in
set_option maxRecDepth 100000 in
theorem r10_Admit.calls (k:Nat) (A0:Option Addr) (c0:Nat) (l0:List (S31)) (a1:ByteArray) (a2_0:Int) (a2_1:Int) (a2_2:Int) (r1:List (S31)) (r2:Int) (w:World) (hr0:Kd.C k31 w A0 l0.length l0) (hc0:l0.length≤c0) (h:r10_Admit.f k l0 a1 a2_0 a2_1 a2_2=some (r1,r2)):
  Calls Try.prog 66 #[.slice A0 l0.length c0, .string a1, .agg #[.int .i64 a2_0, .int .i64 a2_1, .int .i64 a2_2]] w fun e w'=> ∃v0_:Value,e= .returned (.agg #[v0_, .int .i64 r2])∧Kd.R k31 31 w' w.heap.size (fun _=>True) v0_ r1∧Below w.heap.size w w':=by
 have HR0:=Aside0.mk hr0
 have HC0:=Aside0.mk hc0
 clear hr0 hc0
 have HB:=am_ (Below.refl w.heap.size w)
 have H:((r10_Up.f k l0 a1).bind fun t3=>((r10_MayVec.f a2_0 a2_1 a2_2).bind fun t6=>(if t6=true then (if (t3.length:Int)=0 then ((r10_no.f 2).bind fun bt11=>(some (bt11.1,bt11.2))) else ((r10_copied.f l0).bind fun t15=>(r10_Admit.l0 k a1 t3 t15 0 a2_0 a2_1 a2_2))) else ((r10_no.f 1).bind fun bt7=>(some (bt7.1,bt7.2))))))=some (r1,r2):=h
 clear h
 replace H:=Option.bind_eq_some_iff.mp H
 obtain ⟨t3,A40,H⟩:=H
 try dsimp only at H
 have A4:=Aside0.mk A40
 clear A40
 replace H:=Option.bind_eq_some_iff.mp H
 obtain ⟨t6,A50,H⟩:=H
 try dsimp only at H
 have A5:=Aside0.mk A50
 clear A50
 by_cases c6:t6=true
 rotate_left
 ·replace c6:=Bool.eq_false_iff.mpr c6
  subst c6
  have H1:((r10_no.f 1).bind fun bt7=>(some (bt7.1,bt7.2)))=some (r1,r2):=by rw [if_neg (show¬(false=true) by decide)] at H;exact H
  clear H
  have H:=H1
  clear H1
  replace H:=Option.bind_eq_some_iff.mp H
  obtain ⟨⟨t7,t10⟩,A680,H⟩:=H
  try dsimp only at H
  have A68:=Aside0.mk A680
  clear A680
  simp only [Option.some.injEq,Prod.mk.injEq] at H
  obtain ⟨rfl,rfl⟩:=H
  go_enter Try.func66,Try.ntmps66
  go_wp2_with (first|((with_reducible refine gate_dst (N:=5) rfl ?_);refine bx_ (N:=5) (cs:=#[.int .i64 a2_0, .int .i64 a2_1, .int .i64 a2_2]) (t:=27) ?_;intro gb1 hg w69 hbox hb;have n0_:=am_ (below_step (zl0_ HB) hb);have n1_:=am_ (hbox);have n2_:=am_ ((zg0_ HB hg:w.heap.size≤gb1));have n3_:=am_ ((zg0_ HB hg:w.heap.size≤gb1));clear HB;have HB:=n0_;have BK1:=n1_;have GE1:=n3_;clear n0_ n1_ n2_ n3_;clear hb hbox hg)|((with_reducible refine gate_dst (N:=6) rfl ?_);refine bx_ (N:=6) (cs:=#[.slice none 0 0, .int .i64 0]) (t:=67) ?_;intro gb2 hg w70 hbox hb;have n0_:=am_ (blk_below (zb_ BK1) hb);have n1_:=am_ (below_step (zl1_ HB GE1) hb);have n2_:=am_ (hbox);have n3_:=am_ ((zg1_ HB GE1 hg:w.heap.size≤gb2));have n4_:=am_ ((zg1_ HB GE1 hg:w.heap.size≤gb2));have n5_:=am_ ((zn_ BK1 hg:gb1≠gb2));have n6_:=am_ ((zm_ BK1 hg:gb2≠gb1));clear BK1;clear HB;have BK1:=n0_;have HB:=n1_;have BK2:=n2_;have GE2:=n4_;clear n0_ n1_ n2_ n3_ n4_ n5_ n6_;clear hb hbox hg)|((with_reducible refine gate_callee (f:=106) rfl ?_);refine gl_ (some 14) Try.func106 #[.slice A0 l0.length c0, .string a1] ?_;(with_reducible refine (r10_Up.calls k _ _ l0 a1 t3 _ ?side1 ?side2 A4.out).mono ?_);(case side1=>exact zc_ (Kd.C_below HR0.out HB.out));(case side2=>exact HC0.out);rintro e w71 ⟨v4,rfl,ho0,hb⟩;refine ⟨_,rfl, ?_⟩;have HO5:=am_ (Kd.R_lower ho0 (below_size (zl2_ HB GE1 GE2)));replace BK1:=am_ (blk_below (zb_ BK1) hb);replace BK2:=am_ (blk_below (zb_ BK2) hb);replace HB:=am_ (below_step (zl2_ HB GE1 GE2) hb);(try clear hb);(try clear hb2);(try clear hk);(try clear hi);(try clear ho0);obtain ⟨hcz73_0,hcz73_1,hcz73_2⟩:=x3_ BK1)|((with_reducible refine gate_callee (f:=65) rfl ?_);refine gl_ (some 16) Try.func65 #[.agg #[.int .i64 a2_0, .int .i64 a2_1, .int .i64 a2_2]] ?_;(with_reducible refine (r10_MayVec.calls a2_0 a2_1 a2_2 false _ A5.out).mono ?_);rintro e w74 ⟨rfl,hb⟩;refine ⟨_,rfl, ?_⟩;replace HO5:=am_ (Kd.R_below (zr_ HO5) hb);replace BK1:=am_ (blk_below (zb_ BK1) hb);replace BK2:=am_ (blk_below (zb_ BK2) hb);replace HB:=am_ (below_step (zl2_ HB GE1 GE2) hb);(try clear hb);(try clear hb2);(try clear hk);(try clear hi))|((with_reducible refine gate_callee (f:=113) rfl ?_);refine gl_ (some 18) Try.func113 #[.int .i64 1] ?_;(with_reducible refine (r10_no.calls 1 t7 t10 _ A68.out).mono ?_);rintro e w75 ⟨v8,rfl,ho0,hb⟩;refine ⟨_,rfl, ?_⟩;replace HO5:=am_ (Kd.R_below (zr_ HO5) hb);have HO9:=am_ (Kd.R_lower ho0 (below_size (zl2_ HB GE1 GE2)));replace BK1:=am_ (blk_below (zb_ BK1) hb);replace BK2:=am_ (blk_below (zb_ BK2) hb);replace HB:=am_ (below_step (zl2_ HB GE1 GE2) hb);(try clear hb);(try clear hb2);(try clear hk);(try clear hi);(try clear ho0);obtain ⟨Ao76,co76,eo76⟩:=Kd.R_slice HO9.out;subst eo76;obtain ⟨hcz77_0,hcz77_1⟩:=x2_ BK2;have hfz77_0:=blk_frozen BK2.out 0;have hfz77_1:=blk_frozen BK2.out 1))
  refine bodyPost_ret (results_cell_row rfl _ _ gb2 67 #[.slice Ao76 t7.length co76, .int .i64 t10] (0,0) _ rfl (zw_ BK2) Try.underlying67 rfl (by kernel_rfl)) rfl ?_
  exact ⟨_,by first|rfl|(simp [errW_none,errW_some]<;>rfl)|(simp [*,errW_none,errW_some]<;>rfl),zy_ HO9 BK2,zl2_ HB GE1 GE2⟩

 subst c6
 have H1:(if (t3.length:Int)=0 then ((r10_no.f 2).bind fun bt11=>(some (bt11.1,bt11.2))) else ((r10_copied.f l0).bind fun t15=>(r10_Admit.l0 k a1 t3 t15 0 a2_0 a2_1 a2_2)))=some (r1,r2):=by rw [if_pos rfl] at H;exact H
 clear H
 have H:=H1
 clear H1
 by_cases c7:(t3.length:Int)=0
 ·rw [if_pos c7] at H
  have c7b0:((t3.length:Int)==0)=true:=beq_iff_eq.mpr c7
  clear c7
  replace H:=Option.bind_eq_some_iff.mp H
  obtain ⟨⟨t11,t14⟩,A80,H⟩:=H
  try dsimp only at H
  have A8:=Aside0.mk A80
  clear A80
  simp only [Option.some.injEq,Prod.mk.injEq] at H
  obtain ⟨rfl,rfl⟩:=H
  go_enter Try.func66,Try.ntmps66
  go_wp2_with (first|((with_reducible refine gate_dst (N:=5) rfl ?_);refine bx_ (N:=5) (cs:=#[.int .i64 a2_0, .int .i64 a2_1, .int .i64 a2_2]) (t:=27) ?_;intro gb1 hg w9 hbox hb;have n0_:=am_ (below_step (zl0_ HB) hb);have n1_:=am_ (hbox);have n2_:=am_ ((zg0_ HB hg:w.heap.size≤gb1));have n3_:=am_ ((zg0_ HB hg:w.heap.size≤gb1));clear HB;have HB:=n0_;have BK1:=n1_;have GE1:=n3_;clear n0_ n1_ n2_ n3_;clear hb hbox hg)|((with_reducible refine gate_dst (N:=6) rfl ?_);refine bx_ (N:=6) (cs:=#[.slice none 0 0, .int .i64 0]) (t:=67) ?_;intro gb2 hg w10 hbox hb;have n0_:=am_ (blk_below (zb_ BK1) hb);have n1_:=am_ (below_step (zl1_ HB GE1) hb);have n2_:=am_ (hbox);have n3_:=am_ ((zg1_ HB GE1 hg:w.heap.size≤gb2));have n4_:=am_ ((zg1_ HB GE1 hg:w.heap.size≤gb2));have n5_:=am_ ((zn_ BK1 hg:gb1≠gb2));have n6_:=am_ ((zm_ BK1 hg:gb2≠gb1));clear BK1;clear HB;have BK1:=n0_;have HB:=n1_;have BK2:=n2_;have GE2:=n4_;clear n0_ n1_ n2_ n3_ n4_ n5_ n6_;clear hb hbox hg)|((with_reducible refine gate_callee (f:=106) rfl ?_);refine gl_ (some 14) Try.func106 #[.slice A0 l0.length c0, .string a1] ?_;(with_reducible refine (r10_Up.calls k _ _ l0 a1 t3 _ ?side1 ?side2 A4.out).mono ?_);(case side1=>exact zc_ (Kd.C_below HR0.out HB.out));(case side2=>exact HC0.out);rintro e w11 ⟨v4,rfl,ho0,hb⟩;refine ⟨_,rfl, ?_⟩;have HO5:=am_ (Kd.R_lower ho0 (below_size (zl2_ HB GE1 GE2)));replace BK1:=am_ (blk_below (zb_ BK1) hb);replace BK2:=am_ (blk_below (zb_ BK2) hb);replace HB:=am_ (below_step (zl2_ HB GE1 GE2) hb);(try clear hb);(try clear hb2);(try clear hk);(try clear hi);(try clear ho0);obtain ⟨hcz13_0,hcz13_1,hcz13_2⟩:=x3_ BK1)|((with_reducible refine gate_callee (f:=65) rfl ?_);refine gl_ (some 16) Try.func65 #[.agg #[.int .i64 a2_0, .int .i64 a2_1, .int .i64 a2_2]] ?_;(with_reducible refine (r10_MayVec.calls a2_0 a2_1 a2_2 true _ A5.out).mono ?_);rintro e w14 ⟨rfl,hb⟩;refine ⟨_,rfl, ?_⟩;replace HO5:=am_ (Kd.R_below (zr_ HO5) hb);replace BK1:=am_ (blk_below (zb_ BK1) hb);replace BK2:=am_ (blk_below (zb_ BK2) hb);replace HB:=am_ (below_step (zl2_ HB GE1 GE2) hb);(try clear hb);(try clear hb2);(try clear hk);(try clear hi);obtain ⟨Ao15,co15,eo15⟩:=Kd.R_slice HO5.out;subst eo15)|((with_reducible refine gate_callee (f:=113) rfl ?_);refine gl_ (some 22) Try.func113 #[.int .i64 2] ?_;(with_reducible refine (r10_no.calls 2 t11 t14 _ A8.out).mono ?_);rintro e w16 ⟨v12,rfl,ho0,hb⟩;refine ⟨_,rfl, ?_⟩;replace HO5:=am_ (Kd.R_below (zr_ HO5) hb);have HO13:=am_ (Kd.R_lower ho0 (below_size (zl2_ HB GE1 GE2)));replace BK1:=am_ (blk_below (zb_ BK1) hb);replace BK2:=am_ (blk_below (zb_ BK2) hb);replace HB:=am_ (below_step (zl2_ HB GE1 GE2) hb);(try clear hb);(try clear hb2);(try clear hk);(try clear hi);(try clear ho0);obtain ⟨Ao17,co17,eo17⟩:=Kd.R_slice HO13.out;subst eo17;obtain ⟨hcz18_0,hcz18_1⟩:=x2_ BK2;have hfz18_0:=blk_frozen BK2.out 0;have hfz18_1:=blk_frozen BK2.out 1))
  refine bodyPost_ret (results_cell_row rfl _ _ gb2 67 #[.slice Ao17 t11.length co17, .int .i64 t14] (0,0) _ rfl (zw_ BK2) Try.underlying67 rfl (by kernel_rfl)) rfl ?_
  exact ⟨_,by first|rfl|(simp [errW_none,errW_some]<;>rfl)|(simp [*,errW_none,errW_some]<;>rfl),zy_ HO13 BK2,zl2_ HB GE1 GE2⟩
 rw [if_neg c7] at H
 have c7b0:((t3.length:Int)==0)=false:=beq_eq_false_iff_ne.mpr c7
 replace H:=Option.bind_eq_some_iff.mp H
 obtain ⟨t15,A190,H⟩:=H
 try dsimp only at H
 have A19:=Aside0.mk A190
 clear A190
 have H':=Aside0.mk H
 clear H
 go_enter Try.func66,Try.ntmps66
 go_wp2_with (first|((with_reducible refine gate_dst (N:=5) rfl ?_);refine bx_ (N:=5) (cs:=#[.int .i64 a2_0, .int .i64 a2_1, .int .i64 a2_2]) (t:=27) ?_;intro gb1 hg w20 hbox hb;have n0_:=am_ (below_step (zl0_ HB) hb);have n1_:=am_ (hbox);have n2_:=am_ ((zg0_ HB hg:w.heap.size≤gb1));have n3_:=am_ ((zg0_ HB hg:w.heap.size≤gb1));clear HB;have HB:=n0_;have BK1:=n1_;have GE1:=n3_;clear n0_ n1_ n2_ n3_;clear hb hbox hg)|((with_reducible refine gate_dst (N:=6) rfl ?_);refine bx_ (N:=6) (cs:=#[.slice none 0 0, .int .i64 0]) (t:=67) ?_;intro gb2 hg w21 hbox hb;have n0_:=am_ (blk_below (zb_ BK1) hb);have n1_:=am_ (below_step (zl1_ HB GE1) hb);have n2_:=am_ (hbox);have n3_:=am_ ((zg1_ HB GE1 hg:w.heap.size≤gb2));have n4_:=am_ ((zg1_ HB GE1 hg:w.heap.size≤gb2));have n5_:=am_ ((zn_ BK1 hg:gb1≠gb2));have n6_:=am_ ((zm_ BK1 hg:gb2≠gb1));clear BK1;clear HB;have BK1:=n0_;have HB:=n1_;have BK2:=n2_;have GE2:=n4_;clear n0_ n1_ n2_ n3_ n4_ n5_ n6_;clear hb hbox hg)|((with_reducible refine gate_callee (f:=106) rfl ?_);refine gl_ (some 14) Try.func106 #[.slice A0 l0.length c0, .string a1] ?_;(with_reducible refine (r10_Up.calls k _ _ l0 a1 t3 _ ?side1 ?side2 A4.out).mono ?_);(case side1=>exact zc_ (Kd.C_below HR0.out HB.out));(case side2=>exact HC0.out);rintro e w22 ⟨v4,rfl,ho0,hb⟩;refine ⟨_,rfl, ?_⟩;have HO5:=am_ (Kd.R_lower ho0 (below_size (zl2_ HB GE1 GE2)));replace BK1:=am_ (blk_below (zb_ BK1) hb);replace BK2:=am_ (blk_below (zb_ BK2) hb);replace HB:=am_ (below_step (zl2_ HB GE1 GE2) hb);(try clear hb);(try clear hb2);(try clear hk);(try clear hi);(try clear ho0);obtain ⟨hcz24_0,hcz24_1,hcz24_2⟩:=x3_ BK1)|((with_reducible refine gate_callee (f:=65) rfl ?_);refine gl_ (some 16) Try.func65 #[.agg #[.int .i64 a2_0, .int .i64 a2_1, .int .i64 a2_2]] ?_;(with_reducible refine (r10_MayVec.calls a2_0 a2_1 a2_2 true _ A5.out).mono ?_);rintro e w25 ⟨rfl,hb⟩;refine ⟨_,rfl, ?_⟩;replace HO5:=am_ (Kd.R_below (zr_ HO5) hb);replace BK1:=am_ (blk_below (zb_ BK1) hb);replace BK2:=am_ (blk_below (zb_ BK2) hb);replace HB:=am_ (below_step (zl2_ HB GE1 GE2) hb);(try clear hb);(try clear hb2);(try clear hk);(try clear hi);obtain ⟨Ao26,co26,eo26⟩:=Kd.R_slice HO5.out;subst eo26)|((with_reducible refine gate_callee (f:=124) rfl ?_);refine gl_ (some 24) Try.func124 #[.slice A0 l0.length c0] ?_;(with_reducible refine (r10_copied.calls _ _ l0 t15 _ ?side1 ?side2 A19.out).mono ?_);(case side1=>exact zc_ (Kd.C_below HR0.out HB.out));(case side2=>exact HC0.out);rintro e w27 ⟨v16,rfl,ho0,hb⟩;refine ⟨_,rfl, ?_⟩;replace HO5:=am_ (Kd.R_below (zr_ HO5) hb);have HO17:=am_ (Kd.R_lower ho0 (below_size (zl2_ HB GE1 GE2)));replace BK1:=am_ (blk_below (zb_ BK1) hb);replace BK2:=am_ (blk_below (zb_ BK2) hb);replace HB:=am_ (below_step (zl2_ HB GE1 GE2) hb);(try clear hb);(try clear hb2);(try clear hk);(try clear hi);(try clear ho0)))
 go_loopg [9] k (fun kq v9 w'=> ∃(x8_1:List (S31)) (x9_1:Int) (x3001_1:Int),v9= .int .i64 x9_1∧Aside0 (r10_Admit.l0 kq a1 t3 x8_1 x9_1 a2_0 a2_1 a2_2=some (r1,r2))∧Aside0 (kq≤k)∧Aside0 (Kd.R Kd.string 9 w' w.heap.size (fun _=>True) (.slice Ao26 t3.length co26) t3)∧Aside0 (Kd.R k31 31 w' w.heap.size (fun _=>True) v16 x8_1)∧Aside0 (w'.heap[gb1]?=some (.cells #[.int .i64 a2_0, .int .i64 a2_1, .int .i64 a2_2] 27 (0,0)))∧Aside0 (w'.heap[gb2]?=some (.cells #[(.slice none 0 0), .int .i64 x3001_1] 67 (0,0)))∧Aside0 (Below w.heap.size w w'))
 case atStart=>exact ⟨(t15),(0),(0),(by first|rfl|(simp;done)|(simp [*];done)),H',⟨Nat.le_refl _⟩,⟨by (with_reducible repeat (first|apply Kd.R_alloc|apply Kd.R_drewN|apply Kd.R_drew));exact HO5.out⟩,⟨by (with_reducible repeat (first|apply Kd.R_alloc|apply Kd.R_drewN|apply Kd.R_drew));exact HO17.out⟩,⟨by refine zk_ ?_;exact BK1.out⟩,⟨by refine zk_ ?_;exact BK2.out⟩,⟨zl2_ HB GE1 GE2⟩⟩
 case round=>
  clear H'
  try clear c1
  try clear c2
  try clear p2
  try clear c6
  try clear c7
  try clear c7b0
  try clear c10
  try clear c11
  try clear c12
  try clear c23
  try clear hcz13_0
  try clear hcz13_1
  try clear hcz13_2
  try clear hcz18_0
  try clear hcz18_1
  try clear hcz24_0
  try clear hcz24_1
  try clear hcz24_2
  try clear hfz18_0
  try clear hfz18_1
  obtain ⟨x8_1,x9_1,x3001_1,rfl,HA,HK1,HO_7,HO_8,BK1,BK2,HB⟩:=hrel
  cases gk with
  |zero=>exact absurd HA.out (by simp [r10_Admit.l0])
  |succ k1=>
   have H:=HA.out
   clear HA
   simp only [r10_Admit.l0] at H
   by_cases c28:x9_1<(t3.length:Int)
   rotate_left
   ·rw [if_neg c28] at H
    have c28b0:decide (x9_1<(t3.length:Int))=false:=decide_eq_false c28
    clear c28
    replace H:=Option.bind_eq_some_iff.mp H
    obtain ⟨t18,A560,H⟩:=H
    try dsimp only at H
    have A56:=Aside0.mk A560
    clear A560
    by_cases c57:0≤t18
    rotate_left
    ·rw [if_neg c57] at H
     exact absurd H (by simp)
    rw [if_pos c57] at H
    have c57b0:decide (0≤t18)=true:=decide_eq_true c57
    clear c57
    by_cases c58:t18<(x8_1.length:Int)
    rotate_left
    ·rw [if_neg c58] at H
     exact absurd H (by simp)
    rw [if_pos c58] at H
    have c58b0:decide (t18<(x8_1.length:Int))=true:=decide_eq_true c58
    clear c58
    replace H:=Option.bind_eq_some_iff.mp H
    obtain ⟨⟨t20,t21,t22⟩,A590,H⟩:=H
    try dsimp only at H
    have A59:=Aside0.mk A590
    clear A590
    obtain ⟨y23,hy23⟩: ∃y_:List (S31),y_=(x8_1.set (t18:Int).toNat (⟨(rd_T31 x8_1 t18).f0,(rd_T31 x8_1 t18).f1,(⟨(rd_T31 x8_1 t18).f2.f0,(rd_T31 x8_1 t18).f2.f1,(rd_T31 x8_1 t18).f2.f2⟩:S27),(⟨t20,t21,t22⟩:S27),(⟨(rd_T31 x8_1 t18).f4.f0,(rd_T31 x8_1 t18).f4.f1,(rd_T31 x8_1 t18).f4.f2⟩:S27),(rd_T31 x8_1 t18).f5⟩:S31)):=⟨_,rfl⟩
    replace H:(some (y23,0))=some (r1,r2):=by first|(rw [hy23];with_reducible exact H)|(have H2_:=(Option.bind_some _ _).symm.trans H;rw [hy23];with_reducible exact H2_)|(have H2_:=(Option.bind_some _ _).symm.trans H;with_reducible exact H2_)|with_reducible exact H|(rw [hy23];exact H)|exact H
    have Ny23:=Aside0.mk hy23
    clear hy23
    simp only [Option.some.injEq,Prod.mk.injEq] at H
    obtain ⟨rfl,rfl⟩:=H
    obtain ⟨Ao61,co61,eo61⟩:=Kd.R_slice HO_8.out
    subst eo61
    try go_wp2_with (first|((with_reducible refine gate_callee (f:=50) rfl ?_);refine gl_ (some 63) Try.func50 #[.slice Ao61 x8_1.length co61, .string a1] ?_;(with_reducible refine (r10_Find.calls k1 _ _ x8_1 a1 t18 _ ?side1 ?side2 A56.out).mono ?_);(case side1=>exact zc_ (Kd.R_reads' HO_8.out).2.2);(case side2=>exact (Kd.R_reads' HO_8.out).2.1);rintro e w' ⟨rfl,⟨nd,rfl⟩⟩;refine ⟨_,rfl, ?_⟩;(try (rw [drewN_self wr];generalize hq_:World.drewN wr _=wr;have n0_:Aside0 (Kd.R Kd.string 9 wr w.heap.size (fun _=>True) (.slice Ao26 t3.length co26) t3):=⟨by rw [←hq_];exact (zr_ HO_7)⟩;have n1_:Aside0 (Kd.R k31 31 wr w.heap.size (fun _=>True) (.slice Ao61 x8_1.length co61) x8_1):=⟨by rw [←hq_];exact (zr_ HO_8)⟩;have n2_:Aside0 (wr.heap[gb1]?=some (.cells #[.int .i64 a2_0, .int .i64 a2_1, .int .i64 a2_2] 27 (0,0))):=⟨by rw [←hq_];exact (zb_ BK1)⟩;have n3_:Aside0 (wr.heap[gb2]?=some (.cells #[.slice none 0 0, .int .i64 x3001_1] 67 (0,0))):=⟨by rw [←hq_];exact (zb_ BK2)⟩;have n4_:Aside0 (Below w.heap.size w wr):=⟨by rw [←hq_];exact (zl2_ HB GE1 GE2)⟩;clear HO_7 HO_8 BK1 BK2 HB hq_;have HO_7:=n0_;have HO_8:=n1_;have BK1:=n2_;have BK2:=n3_;have HB:=n4_;clear n0_ n1_ n2_ n3_ n4_))))
    replace HO_7:=am_ (Kd.R_drew HO_7.out)
    replace HO_8:=am_ (Kd.R_drew HO_8.out)
    replace BK1:=am_ (blk_drew BK1.out)
    replace BK2:=am_ (blk_drew BK2.out)
    replace HB:=am_ (below_drew1 HB.out)
    have p19:0≤(t18:Int):=of_decide_eq_true zq_
    have q19:t18<(x8_1.length:Int):=of_decide_eq_true zq_
    obtain ⟨ad19,e19,hx19_0,hx19_1,hx19_2,hx19_3,hx19_4,hx19_5,hx19_6,hx19_7,hx19_8,hx19_9,hx19_10,hx19_11⟩:=at_T31 (Kd.R_reads' HO_8.out).2.2 t18 p19 q19
    cases e19
    replace p19:=eq_true p19
    replace q19:=eq_true q19
    refine start_ (n:=12) (S:=fun w'=>w'.cell? ⟨gb1,0,none⟩=some (.int .i64 a2_0)∧w'.cell? ⟨gb1,1,none⟩=some (.int .i64 a2_1)∧w'.cell? ⟨gb1,2,none⟩=some (.int .i64 a2_2)∧w'.cell? (ad19.add ((t18).toNat*12))=some (.string ((rd_T31 x8_1 t18).f0))∧w'.cell? ⟨(ad19.add ((t18).toNat*12)).block,(ad19.add ((t18).toNat*12)).off+1,none⟩=some (.string ((rd_T31 x8_1 t18).f1))∧w'.cell? ⟨(ad19.add ((t18).toNat*12)).block,(ad19.add ((t18).toNat*12)).off+2,none⟩=some (.int .i64 ((rd_T31 x8_1 t18).f2.f0))∧w'.cell? ⟨(ad19.add ((t18).toNat*12)).block,(ad19.add ((t18).toNat*12)).off+3,none⟩=some (.int .i64 ((rd_T31 x8_1 t18).f2.f1))∧w'.cell? ⟨(ad19.add ((t18).toNat*12)).block,(ad19.add ((t18).toNat*12)).off+4,none⟩=some (.int .i64 ((rd_T31 x8_1 t18).f2.f2))∧w'.cell? ⟨(ad19.add ((t18).toNat*12)).block,(ad19.add ((t18).toNat*12)).off+5,none⟩=some (.int .i64 ((rd_T31 x8_1 t18).f3.f0))∧w'.cell? ⟨(ad19.add ((t18).toNat*12)).block,(ad19.add ((t18).toNat*12)).off+6,none⟩=some (.int .i64 ((rd_T31 x8_1 t18).f3.f1))∧w'.cell? ⟨(ad19.add ((t18).toNat*12)).block,(ad19.add ((t18).toNat*12)).off+7,none⟩=some (.int .i64 ((rd_T31 x8_1 t18).f3.f2))∧w'.cell? ⟨(ad19.add ((t18).toNat*12)).block,(ad19.add ((t18).toNat*12)).off+8,none⟩=some (.int .i64 ((rd_T31 x8_1 t18).f4.f0))∧w'.cell? ⟨(ad19.add ((t18).toNat*12)).block,(ad19.add ((t18).toNat*12)).off+9,none⟩=some (.int .i64 ((rd_T31 x8_1 t18).f4.f1))∧w'.cell? ⟨(ad19.add ((t18).toNat*12)).block,(ad19.add ((t18).toNat*12)).off+10,none⟩=some (.int .i64 ((rd_T31 x8_1 t18).f4.f2))∧w'.cell? ⟨(ad19.add ((t18).toNat*12)).block,(ad19.add ((t18).toNat*12)).off+11,none⟩=some (.int .i64 ((rd_T31 x8_1 t18).f5))) (ds:=[11]) (bt_ 12 0) (by kernel_rfl) rfl rfl ⟨(blk_cell BK1.out 0).trans rfl,(blk_cell BK1.out 1).trans rfl,(blk_cell BK1.out 2).trans rfl,hx19_0,hx19_1,hx19_2,hx19_3,hx19_4,hx19_5,hx19_6,hx19_7,hx19_8,hx19_9,hx19_10,hx19_11⟩ (fun hHeld=> ?_);refine with_tabW r10_Admit.tab15 r10_Admit.bits15 (fun HT_ HW_=> ?_)
    generalize wr.drew=w62 at HO_7 HO_8 BK1 BK2 HB hx19_0 hx19_1 hx19_10 hx19_11 hx19_2 hx19_3 hx19_4 hx19_5 hx19_6 hx19_7 hx19_8 hx19_9 hHeld ⊢
    refine pu_ (i:=0) (N:=some 64) (bt_ 12 1) HT_ ?_
    refine pu_ (i:=1) (N:=some 65) (bt_ 12 3) HT_ ?_
    refine pu_ (i:=2) (N:=some 66) (bt_ 12 7) HT_ ?_
    refine pu_ (i:=3) (N:=some 67) (bt_ 12 15) HT_ ?_
    refine pu_ (i:=4) (N:=some 68) (bt_ 12 31) HT_ ?_
    refine pu_ (i:=5) (N:=some 69) (bt_ 12 63) HT_ ?_
    refine tk_ (i:=6) (N:=some 70) (bt_ 12 127) HT_ HW_ hHeld ?_
    refine tk_ (i:=7) (N:=some 71) (bt_ 12 255) HT_ HW_ hHeld ?_
    refine on_ (i:=8) (N:=some 72) (bt_ 12 511) HT_ (fun K hK=> ?_)
    refine gs_ Try.func63 #[.agg #[.int .i64 ((rd_T31 x8_1 t18).f3.f0), .int .i64 ((rd_T31 x8_1 t18).f3.f1), .int .i64 ((rd_T31 x8_1 t18).f3.f2)], .agg #[.int .i64 a2_0, .int .i64 a2_1, .int .i64 a2_2]] ?_
    with_reducible refine (r10_Add.calls ((rd_T31 x8_1 t18).f3.f0) ((rd_T31 x8_1 t18).f3.f1) ((rd_T31 x8_1 t18).f3.f2) a2_0 a2_1 a2_2 t20 t21 t22 _ A59.out).mono ?_
    rintro e w63 ⟨rfl,hb⟩
    have HS3_:=zh_ hb (hHeld.2.2.2.1)
    have HS4_:=zh_ hb (hHeld.2.2.2.2.1)
    have HS5_:=zh_ hb (hHeld.2.2.2.2.2.1)
    have HS6_:=zh_ hb (hHeld.2.2.2.2.2.2.1)
    have HS7_:=zh_ hb (hHeld.2.2.2.2.2.2.2.1)
    have HS8_:=zh_ hb (hHeld.2.2.2.2.2.2.2.2.1)
    have HS9_:=zh_ hb (hHeld.2.2.2.2.2.2.2.2.2.1)
    have HS10_:=zh_ hb (hHeld.2.2.2.2.2.2.2.2.2.2.1)
    have HS11_:=zh_ hb (hHeld.2.2.2.2.2.2.2.2.2.2.2.1)
    have HS12_:=zh_ hb (hHeld.2.2.2.2.2.2.2.2.2.2.2.2.1)
    have HS13_:=zh_ hb (hHeld.2.2.2.2.2.2.2.2.2.2.2.2.2.1)
    have HS14_:=zh_ hb (hHeld.2.2.2.2.2.2.2.2.2.2.2.2.2.2)
    refine ⟨_,rfl, ?_⟩
    replace HO_7:=am_ (Kd.R_below (zr_ HO_7) hb)
    replace HO_8:=am_ (Kd.R_below (zr_ HO_8) hb)
    replace BK1:=am_ (blk_below (zb_ BK1) hb)
    replace BK2:=am_ (blk_below (zb_ BK2) hb)
    replace HB:=am_ (below_step (zl2_ HB GE1 GE2) hb)
    (try clear hb)
    (try clear hb2)
    (try clear hk)
    (try clear hi)
    have p60:0≤(t18:Int):=of_decide_eq_true zq_
    have q60:(t18:Int)<((x8_1.length:Int):Int):=of_decide_eq_true zq_
    obtain ⟨go60,co60,eo60,gb60,gl60,cl60,HG60⟩:=Kd.R_form HO_8.out (by omega)
    (first|cases eo60|(injection eo60 with ea_ en_ ec_;(first|subst ea_|(injection ea_ with ea_;subst ea_));subst ec_;clear en_))
    have GB60:=Aside0.mk gb60
    have GG60:=Aside0.mk HG60
    clear gb60 gl60 HG60
    replace hx19_0:=zv_ hx19_0
    replace hx19_1:=zv_ hx19_1
    replace hx19_2:=zv_ hx19_2
    replace hx19_3:=zv_ hx19_3
    replace hx19_4:=zv_ hx19_4
    replace hx19_5:=zv_ hx19_5
    replace hx19_6:=zv_ hx19_6
    replace hx19_7:=zv_ hx19_7
    replace hx19_8:=zv_ hx19_8
    replace hx19_9:=zv_ hx19_9
    replace hx19_10:=zv_ hx19_10
    replace hx19_11:=zv_ hx19_11
    obtain ⟨ce60,hcl60,hM60,hcc60,hfr60⟩:=Kd.R_elem HO_8.out z31 (t18:Int) p60 q60
    obtain rfl:=k31_openM hM60
    have hx60_5:World.cell? _ ⟨go60,(t18:Int).toNat*12+5,none⟩=some (.int .i64 ((rd_T31 x8_1 t18).f3.f0)):=hcc60 5 _ rfl
    have hx60_6:World.cell? _ ⟨go60,(t18:Int).toNat*12+6,none⟩=some (.int .i64 ((rd_T31 x8_1 t18).f3.f1)):=hcc60 6 _ rfl
    have hx60_7:World.cell? _ ⟨go60,(t18:Int).toNat*12+7,none⟩=some (.int .i64 ((rd_T31 x8_1 t18).f3.f2)):=hcc60 7 _ rfl
    have hf60_5:World.frozen? _ ⟨go60,(t18:Int).toNat*12+5,none⟩=false:=hfr60 5
    have hf60_6:World.frozen? _ ⟨go60,(t18:Int).toNat*12+6,none⟩=false:=hfr60 6
    have hf60_7:World.frozen? _ ⟨go60,(t18:Int).toNat*12+7,none⟩=false:=hfr60 7
    clear hcl60 hcc60 hfr60 hM60
    replace p60:=eq_true p60
    replace q60:=eq_true q60
    obtain ⟨ce64,hcl64,hM64,hcc64,hfr64⟩:=Kd.R_elem HO_8.out z31 (t18:Int) (of_decide_eq_true zq_) (by have h_:(t18:Int)<((x8_1.length:Int):Int):=of_decide_eq_true zq_;first|exact h_|(have e_:=(Kd.R_reads' HO_8.out).1;omega)|simpa using h_)
    obtain rfl:=k31_openM hM64
    have HP64:=(Kd.R_seg HO_8.out (t18:Int) (of_decide_eq_true zq_) (by have h_:(t18:Int)<((x8_1.length:Int):Int):=of_decide_eq_true zq_;first|exact h_|(have e_:=(Kd.R_reads' HO_8.out).1;omega)|simpa using h_) (seg:=[.int .i64 t20, .int .i64 t21, .int .i64 t22]) (j:=5) hcl64 hcc64 (show 8≤12 from by decide) (x':=(⟨(rd_T31 x8_1 t18).f0,(rd_T31 x8_1 t18).f1,(⟨(rd_T31 x8_1 t18).f2.f0,(rd_T31 x8_1 t18).f2.f1,(rd_T31 x8_1 t18).f2.f2⟩:S27),(⟨t20,t21,t22⟩:S27),(⟨(rd_T31 x8_1 t18).f4.f0,(rd_T31 x8_1 t18).f4.f1,(rd_T31 x8_1 t18).f4.f2⟩:S27),(rd_T31 x8_1 t18).f5⟩:S31)) (k31_mkM _ _ _ (⟨(rd_T31 x8_1 t18).f0,(rd_T31 x8_1 t18).f1,(⟨(rd_T31 x8_1 t18).f2.f0,(rd_T31 x8_1 t18).f2.f1,(rd_T31 x8_1 t18).f2.f2⟩:S27),(⟨t20,t21,t22⟩:S27),(⟨(rd_T31 x8_1 t18).f4.f0,(rd_T31 x8_1 t18).f4.f1,(rd_T31 x8_1 t18).f4.f2⟩:S27),(rd_T31 x8_1 t18).f5⟩:S31)) (fun _ hk=>hk)).1
    rw [←Ny23.out] at HP64
    have HQ64:=Aside0.mk HP64
    clear hcl64 hcc64 hfr64 hM64 HP64
    refine hK.out _ _ ⟨(blk_cell BK1.out 0).trans rfl,(blk_cell BK1.out 1).trans rfl,(blk_cell BK1.out 2).trans rfl,HS3_,HS4_,HS5_,HS6_,HS7_,HS8_,HS9_,HS10_,HS11_,HS12_,HS13_,HS14_⟩ (fun hHeld=> ?_)
    clear hK K
    refine no_ (N:=some 72) ?_
    refine pu_ (i:=9) (N:=some 73) (bt_ 12 1023) HT_ ?_
    refine pu_ (i:=10) (N:=some 74) (bt_ 12 2047) HT_ ?_
    refine last_ (i:=11) (N:=none) (bt_ 12 4095) rfl rfl (one_of HT_.out (by kernel_rfl)) (by decide) (fun K hK=> ?_)
    refine skip_ (w1:= ?_) (by rfl) rfl ?_ ?_
    rotate_left
    ·go_simp
     rfl
    refine hK.out _ _ ?_
    clear hK K
    refine done_ (done_of HT_.out (by kernel_rfl)) ?_
    have n0_:Aside0 (Kd.R Kd.string 9 (((w63.setCell ⟨go60,(t18:Int).toNat*12+5,none⟩ (.int .i64 t20)).setCell ⟨go60,(t18:Int).toNat*12+6,none⟩ (.int .i64 t21)).setCell ⟨go60,(t18:Int).toNat*12+7,none⟩ (.int .i64 t22)) w.heap.size (fun _=>True) (.slice Ao26 t3.length co26) t3):=⟨by (with_reducible repeat (first|apply Kd.R_alloc|apply Kd.R_drewN|apply Kd.R_drew));exact Kd.R_mono (Kd.R_far (p:=⟨go60,(t18:Int).toNat*12+7,none⟩) (Kd.R_far (p:=⟨go60,(t18:Int).toNat*12+6,none⟩) (Kd.R_far (p:=⟨go60,(t18:Int).toNat*12+5,none⟩) (Kd.R_types HO_7.out GG60.out (by decide)) (fun _ hk=>hk.2) (.int .i64 t20)) (fun _ hk=>hk.2) (.int .i64 t21)) (fun _ hk=>hk.2) (.int .i64 t22)) (fun _ hk=>trivial)⟩
    have n1_:Aside0 (Kd.R k31 31 (((w63.setCell ⟨go60,(t18:Int).toNat*12+5,none⟩ (.int .i64 t20)).setCell ⟨go60,(t18:Int).toNat*12+6,none⟩ (.int .i64 t21)).setCell ⟨go60,(t18:Int).toNat*12+7,none⟩ (.int .i64 t22)) w.heap.size (fun _=>True) (.slice (some ⟨go60,0,none⟩) x8_1.length co61) y23):=⟨by (with_reducible repeat (first|apply Kd.R_alloc|apply Kd.R_drewN|apply Kd.R_drew));exact HQ64.out⟩
    have n2_:Aside0 ((((w63.setCell ⟨go60,(t18:Int).toNat*12+5,none⟩ (.int .i64 t20)).setCell ⟨go60,(t18:Int).toNat*12+6,none⟩ (.int .i64 t21)).setCell ⟨go60,(t18:Int).toNat*12+7,none⟩ (.int .i64 t22)).heap[gb1]?=some (.cells #[.int .i64 a2_0, .int .i64 a2_1, .int .i64 a2_2] 27 (0,0))):=⟨by refine zk_ ?_;refine blk_far ?_ (by have h_:=Kd.R_ne HO_8.out BK1.out (by decide);intro e_;exact h_ (by rw [e_];rfl)) _;refine zk_ ?_;refine blk_far ?_ (by have h_:=Kd.R_ne HO_8.out BK1.out (by decide);intro e_;exact h_ (by rw [e_];rfl)) _;refine zk_ ?_;refine blk_far ?_ (by have h_:=Kd.R_ne HO_8.out BK1.out (by decide);intro e_;exact h_ (by rw [e_];rfl)) _;refine zk_ ?_;exact BK1.out⟩
    have n3_:Aside0 ((((w63.setCell ⟨go60,(t18:Int).toNat*12+5,none⟩ (.int .i64 t20)).setCell ⟨go60,(t18:Int).toNat*12+6,none⟩ (.int .i64 t21)).setCell ⟨go60,(t18:Int).toNat*12+7,none⟩ (.int .i64 t22)).heap[gb2]?=some (.cells #[.slice none 0 0, .int .i64 x3001_1] 67 (0,0))):=⟨by refine zk_ ?_;refine blk_far ?_ (by have h_:=Kd.R_ne HO_8.out BK2.out (by decide);intro e_;exact h_ (by rw [e_];rfl)) _;refine zk_ ?_;refine blk_far ?_ (by have h_:=Kd.R_ne HO_8.out BK2.out (by decide);intro e_;exact h_ (by rw [e_];rfl)) _;refine zk_ ?_;refine blk_far ?_ (by have h_:=Kd.R_ne HO_8.out BK2.out (by decide);intro e_;exact h_ (by rw [e_];rfl)) _;refine zk_ ?_;exact BK2.out⟩
    have n4_:Aside0 (Below w.heap.size w (((w63.setCell ⟨go60,(t18:Int).toNat*12+5,none⟩ (.int .i64 t20)).setCell ⟨go60,(t18:Int).toNat*12+6,none⟩ (.int .i64 t21)).setCell ⟨go60,(t18:Int).toNat*12+7,none⟩ (.int .i64 t22))):=⟨by repeat (first|(with_reducible first|exact HB.out|apply below_alloc|apply pw_below_drewN|apply below_drew1|refine below_set ?_ GB60.out|refine below_set ?_ GB60.out|refine below_set ?_ GB60.out|refine below_set ?_ GE1.out|refine below_set ?_ GE2.out)|exact HB.out)⟩
    (try clear HO_7)
    (try clear HO_8)
    (try clear BK1)
    (try clear BK2)
    (try clear HB)
    generalize (((w63.setCell ⟨go60,(t18:Int).toNat*12+5,none⟩ (.int .i64 t20)).setCell ⟨go60,(t18:Int).toNat*12+6,none⟩ (.int .i64 t21)).setCell ⟨go60,(t18:Int).toNat*12+7,none⟩ (.int .i64 t22))=w65 at n0_ n1_ n2_ n3_ n4_ ⊢
    have HO_7:=n0_
    have HO_8:=n1_
    have BK1:=n2_
    have BK2:=n3_
    have HB:=n4_
    clear n0_ n1_ n2_ n3_ n4_
    obtain ⟨hcz67_0,hcz67_1,hfz67_0,hfz67_1⟩:=y2_ BK2
    try go_wp2
    refine bodyPost_ret (results_cell_row rfl _ _ gb2 67 #[.slice (some ⟨go60,0,none⟩) x8_1.length co61, .int .i64 0] (0,0) _ rfl (zw_ BK2) Try.underlying67 rfl (by kernel_rfl)) rfl ?_
    exact ⟨_,by first|rfl|(simp [errW_none,errW_some]<;>rfl)|(simp [*,errW_none,errW_some]<;>rfl),zy_ HO_8 BK2,zl2_ HB GE1 GE2⟩
   rw [if_pos c28] at H
   have c28b0:decide (x9_1<(t3.length:Int))=true:=decide_eq_true c28
   clear c28
   by_cases c29:0≤x9_1
   rotate_left
   ·rw [if_neg c29] at H
    exact absurd H (by simp)
   rw [if_pos c29] at H
   have c29b0:decide (0≤x9_1)=true:=decide_eq_true c29
   clear c29
   replace H:=Option.bind_eq_some_iff.mp H
   obtain ⟨t25,A300,H⟩:=H
   try dsimp only at H
   have A30:=Aside0.mk A300
   clear A300
   by_cases c31:0≤t25
   rotate_left
   ·rw [if_neg c31] at H
    exact absurd H (by simp)
   rw [if_pos c31] at H
   have c31b0:decide (0≤t25)=true:=decide_eq_true c31
   clear c31
   by_cases c32:t25<(x8_1.length:Int)
   rotate_left
   ·rw [if_neg c32] at H
    exact absurd H (by simp)
   rw [if_pos c32] at H
   have c32b0:decide (t25<(x8_1.length:Int))=true:=decide_eq_true c32
   clear c32
   replace H:=Option.bind_eq_some_iff.mp H
   obtain ⟨⟨t27,t28,t29⟩,A330,H⟩:=H
   try dsimp only at H
   have A33:=Aside0.mk A330
   clear A330
   obtain ⟨y30,hy30⟩: ∃y_:List (S31),y_=(x8_1.set (t25:Int).toNat (⟨(rd_T31 x8_1 t25).f0,(rd_T31 x8_1 t25).f1,(⟨(rd_T31 x8_1 t25).f2.f0,(rd_T31 x8_1 t25).f2.f1,(rd_T31 x8_1 t25).f2.f2⟩:S27),(⟨(rd_T31 x8_1 t25).f3.f0,(rd_T31 x8_1 t25).f3.f1,(rd_T31 x8_1 t25).f3.f2⟩:S27),(⟨t27,t28,t29⟩:S27),(rd_T31 x8_1 t25).f5⟩:S31)):=⟨_,rfl⟩
   replace H:((r10_Le.f ((rd_T31 y30 t25).f4.f0) ((rd_T31 y30 t25).f4.f1) ((rd_T31 y30 t25).f4.f2) ((rd_T31 y30 t25).f2.f0) ((rd_T31 y30 t25).f2.f1) ((rd_T31 y30 t25).f2.f2)).bind fun t33=>(if t33=true then (r10_Admit.l0 k1 a1 t3 y30 (wrap64 (x9_1+1)) a2_0 a2_1 a2_2) else ((r10_no.f 12).bind fun bt34=>(some (bt34.1,bt34.2)))))=some (r1,r2):=by first|(rw [hy30];with_reducible exact H)|(have H2_:=(Option.bind_some _ _).symm.trans H;rw [hy30];with_reducible exact H2_)|(have H2_:=(Option.bind_some _ _).symm.trans H;with_reducible exact H2_)|with_reducible exact H|(rw [hy30];exact H)|exact H
   have Ny30:=Aside0.mk hy30
   clear hy30
   replace H:=Option.bind_eq_some_iff.mp H
   obtain ⟨t33,A350,H⟩:=H
   try dsimp only at H
   have A35:=Aside0.mk A350
   clear A350
   by_cases c36:t33=true
   ·subst c36
    have H1:(r10_Admit.l0 k1 a1 t3 y30 (wrap64 (x9_1+1)) a2_0 a2_1 a2_2)=some (r1,r2):=by rw [if_pos rfl] at H;exact H
    clear H
    have H:=H1
    clear H1
    have H':=Aside0.mk H
    clear H
    have p24:0≤(x9_1:Int):=of_decide_eq_true zq_
    have q24:x9_1<(t3.length:Int):=of_decide_eq_true zq_
    obtain ⟨ad24,e24,hx24_0⟩:=Kd.at_string (Kd.R_reads' HO_7.out).2.2 x9_1 p24 q24
    cases e24
    replace p24:=eq_true p24
    replace q24:=eq_true q24
    obtain ⟨Ao37,co37,eo37⟩:=Kd.R_slice HO_8.out
    subst eo37
    try go_wp2_with (first|((with_reducible refine gate_callee (f:=50) rfl ?_);refine gl_ (some 36) Try.func50 #[.slice Ao37 x8_1.length co37, .string (rdOf ByteArray.empty t3 x9_1)] ?_;(with_reducible refine (r10_Find.calls k1 _ _ x8_1 (rdOf ByteArray.empty t3 x9_1) t25 _ ?side1 ?side2 A30.out).mono ?_);(case side1=>exact zc_ (Kd.R_reads' HO_8.out).2.2);(case side2=>exact (Kd.R_reads' HO_8.out).2.1);rintro e w' ⟨rfl,⟨nd,rfl⟩⟩;refine ⟨_,rfl, ?_⟩;(try (rw [drewN_self wr];generalize hq_:World.drewN wr _=wr;have n0_:Aside0 (Kd.R Kd.string 9 wr w.heap.size (fun _=>True) (.slice (some ad24) t3.length co26) t3):=⟨by rw [←hq_];exact (zr_ HO_7)⟩;have n1_:Aside0 (Kd.R k31 31 wr w.heap.size (fun _=>True) (.slice Ao37 x8_1.length co37) x8_1):=⟨by rw [←hq_];exact (zr_ HO_8)⟩;have n2_:Aside0 (wr.heap[gb1]?=some (.cells #[.int .i64 a2_0, .int .i64 a2_1, .int .i64 a2_2] 27 (0,0))):=⟨by rw [←hq_];exact (zb_ BK1)⟩;have n3_:Aside0 (wr.heap[gb2]?=some (.cells #[.slice none 0 0, .int .i64 x3001_1] 67 (0,0))):=⟨by rw [←hq_];exact (zb_ BK2)⟩;have n4_:Aside0 (Below w.heap.size w wr):=⟨by rw [←hq_];exact (zl2_ HB GE1 GE2)⟩;clear HO_7 HO_8 BK1 BK2 HB hq_;have HO_7:=n0_;have HO_8:=n1_;have BK1:=n2_;have BK2:=n3_;have HB:=n4_;clear n0_ n1_ n2_ n3_ n4_))))
    replace HO_7:=am_ (Kd.R_drew HO_7.out)
    replace HO_8:=am_ (Kd.R_drew HO_8.out)
    replace BK1:=am_ (blk_drew BK1.out)
    replace BK2:=am_ (blk_drew BK2.out)
    replace HB:=am_ (below_drew1 HB.out)
    have p26:0≤(t25:Int):=of_decide_eq_true zq_
    have q26:t25<(x8_1.length:Int):=of_decide_eq_true zq_
    obtain ⟨ad26,e26,hx26_0,hx26_1,hx26_2,hx26_3,hx26_4,hx26_5,hx26_6,hx26_7,hx26_8,hx26_9,hx26_10,hx26_11⟩:=at_T31 (Kd.R_reads' HO_8.out).2.2 t25 p26 q26
    cases e26
    replace p26:=eq_true p26
    replace q26:=eq_true q26
    refine start_ (n:=12) (S:=fun w'=>w'.cell? ⟨gb1,0,none⟩=some (.int .i64 a2_0)∧w'.cell? ⟨gb1,1,none⟩=some (.int .i64 a2_1)∧w'.cell? ⟨gb1,2,none⟩=some (.int .i64 a2_2)∧w'.cell? (ad26.add ((t25).toNat*12))=some (.string ((rd_T31 x8_1 t25).f0))∧w'.cell? ⟨(ad26.add ((t25).toNat*12)).block,(ad26.add ((t25).toNat*12)).off+1,none⟩=some (.string ((rd_T31 x8_1 t25).f1))∧w'.cell? ⟨(ad26.add ((t25).toNat*12)).block,(ad26.add ((t25).toNat*12)).off+2,none⟩=some (.int .i64 ((rd_T31 x8_1 t25).f2.f0))∧w'.cell? ⟨(ad26.add ((t25).toNat*12)).block,(ad26.add ((t25).toNat*12)).off+3,none⟩=some (.int .i64 ((rd_T31 x8_1 t25).f2.f1))∧w'.cell? ⟨(ad26.add ((t25).toNat*12)).block,(ad26.add ((t25).toNat*12)).off+4,none⟩=some (.int .i64 ((rd_T31 x8_1 t25).f2.f2))∧w'.cell? ⟨(ad26.add ((t25).toNat*12)).block,(ad26.add ((t25).toNat*12)).off+5,none⟩=some (.int .i64 ((rd_T31 x8_1 t25).f3.f0))∧w'.cell? ⟨(ad26.add ((t25).toNat*12)).block,(ad26.add ((t25).toNat*12)).off+6,none⟩=some (.int .i64 ((rd_T31 x8_1 t25).f3.f1))∧w'.cell? ⟨(ad26.add ((t25).toNat*12)).block,(ad26.add ((t25).toNat*12)).off+7,none⟩=some (.int .i64 ((rd_T31 x8_1 t25).f3.f2))∧w'.cell? ⟨(ad26.add ((t25).toNat*12)).block,(ad26.add ((t25).toNat*12)).off+8,none⟩=some (.int .i64 ((rd_T31 x8_1 t25).f4.f0))∧w'.cell? ⟨(ad26.add ((t25).toNat*12)).block,(ad26.add ((t25).toNat*12)).off+9,none⟩=some (.int .i64 ((rd_T31 x8_1 t25).f4.f1))∧w'.cell? ⟨(ad26.add ((t25).toNat*12)).block,(ad26.add ((t25).toNat*12)).off+10,none⟩=some (.int .i64 ((rd_T31 x8_1 t25).f4.f2))∧w'.cell? ⟨(ad26.add ((t25).toNat*12)).block,(ad26.add ((t25).toNat*12)).off+11,none⟩=some (.int .i64 ((rd_T31 x8_1 t25).f5))) (ds:=[11]) (bt_ 12 0) (by kernel_rfl) rfl rfl ⟨(blk_cell BK1.out 0).trans rfl,(blk_cell BK1.out 1).trans rfl,(blk_cell BK1.out 2).trans rfl,hx26_0,hx26_1,hx26_2,hx26_3,hx26_4,hx26_5,hx26_6,hx26_7,hx26_8,hx26_9,hx26_10,hx26_11⟩ (fun hHeld=> ?_);refine with_tabW r10_Admit.tab11 r10_Admit.bits11 (fun HT_ HW_=> ?_)
    generalize wr.drew=w38 at HO_7 HO_8 BK1 BK2 HB hx26_0 hx26_1 hx26_10 hx26_11 hx26_2 hx26_3 hx26_4 hx26_5 hx26_6 hx26_7 hx26_8 hx26_9 hHeld ⊢
    refine pu_ (i:=0) (N:=some 37) (bt_ 12 1) HT_ ?_
    refine pu_ (i:=1) (N:=some 38) (bt_ 12 3) HT_ ?_
    refine pu_ (i:=2) (N:=some 39) (bt_ 12 7) HT_ ?_
    refine pu_ (i:=3) (N:=some 40) (bt_ 12 15) HT_ ?_
    refine pu_ (i:=4) (N:=some 41) (bt_ 12 31) HT_ ?_
    refine pu_ (i:=5) (N:=some 42) (bt_ 12 63) HT_ ?_
    refine tk_ (i:=6) (N:=some 43) (bt_ 12 127) HT_ HW_ hHeld ?_
    refine tk_ (i:=7) (N:=some 44) (bt_ 12 255) HT_ HW_ hHeld ?_
    refine on_ (i:=8) (N:=some 45) (bt_ 12 511) HT_ (fun K hK=> ?_)
    refine gs_ Try.func63 #[.agg #[.int .i64 ((rd_T31 x8_1 t25).f4.f0), .int .i64 ((rd_T31 x8_1 t25).f4.f1), .int .i64 ((rd_T31 x8_1 t25).f4.f2)], .agg #[.int .i64 a2_0, .int .i64 a2_1, .int .i64 a2_2]] ?_
    with_reducible refine (r10_Add.calls ((rd_T31 x8_1 t25).f4.f0) ((rd_T31 x8_1 t25).f4.f1) ((rd_T31 x8_1 t25).f4.f2) a2_0 a2_1 a2_2 t27 t28 t29 _ A33.out).mono ?_
    rintro e w39 ⟨rfl,hb⟩
    have HS3_:=zh_ hb (hHeld.2.2.2.1)
    have HS4_:=zh_ hb (hHeld.2.2.2.2.1)
    have HS5_:=zh_ hb (hHeld.2.2.2.2.2.1)
    have HS6_:=zh_ hb (hHeld.2.2.2.2.2.2.1)
    have HS7_:=zh_ hb (hHeld.2.2.2.2.2.2.2.1)
    have HS8_:=zh_ hb (hHeld.2.2.2.2.2.2.2.2.1)
    have HS9_:=zh_ hb (hHeld.2.2.2.2.2.2.2.2.2.1)
    have HS10_:=zh_ hb (hHeld.2.2.2.2.2.2.2.2.2.2.1)
    have HS11_:=zh_ hb (hHeld.2.2.2.2.2.2.2.2.2.2.2.1)
    have HS12_:=zh_ hb (hHeld.2.2.2.2.2.2.2.2.2.2.2.2.1)
    have HS13_:=zh_ hb (hHeld.2.2.2.2.2.2.2.2.2.2.2.2.2.1)
    have HS14_:=zh_ hb (hHeld.2.2.2.2.2.2.2.2.2.2.2.2.2.2)
    refine ⟨_,rfl, ?_⟩
    replace HO_7:=am_ (Kd.R_below (zr_ HO_7) hb)
    replace HO_8:=am_ (Kd.R_below (zr_ HO_8) hb)
    replace BK1:=am_ (blk_below (zb_ BK1) hb)
    replace BK2:=am_ (blk_below (zb_ BK2) hb)
    replace HB:=am_ (below_step (zl2_ HB GE1 GE2) hb)
    (try clear hb)
    (try clear hb2)
    (try clear hk)
    (try clear hi)
    have p34:0≤(t25:Int):=of_decide_eq_true zq_
    have q34:(t25:Int)<((x8_1.length:Int):Int):=of_decide_eq_true zq_
    obtain ⟨go34,co34,eo34,gb34,gl34,cl34,HG34⟩:=Kd.R_form HO_8.out (by omega)
    (first|cases eo34|(injection eo34 with ea_ en_ ec_;(first|subst ea_|(injection ea_ with ea_;subst ea_));subst ec_;clear en_))
    have GB34:=Aside0.mk gb34
    have GG34:=Aside0.mk HG34
    clear gb34 gl34 HG34
    replace hx26_0:=zv_ hx26_0
    replace hx26_1:=zv_ hx26_1
    replace hx26_2:=zv_ hx26_2
    replace hx26_3:=zv_ hx26_3
    replace hx26_4:=zv_ hx26_4
    replace hx26_5:=zv_ hx26_5
    replace hx26_6:=zv_ hx26_6
    replace hx26_7:=zv_ hx26_7
    replace hx26_8:=zv_ hx26_8
    replace hx26_9:=zv_ hx26_9
    replace hx26_10:=zv_ hx26_10
    replace hx26_11:=zv_ hx26_11
    obtain ⟨ce34,hcl34,hM34,hcc34,hfr34⟩:=Kd.R_elem HO_8.out z31 (t25:Int) p34 q34
    obtain rfl:=k31_openM hM34
    have hx34_8:World.cell? _ ⟨go34,(t25:Int).toNat*12+8,none⟩=some (.int .i64 ((rd_T31 x8_1 t25).f4.f0)):=hcc34 8 _ rfl
    have hx34_9:World.cell? _ ⟨go34,(t25:Int).toNat*12+9,none⟩=some (.int .i64 ((rd_T31 x8_1 t25).f4.f1)):=hcc34 9 _ rfl
    have hx34_10:World.cell? _ ⟨go34,(t25:Int).toNat*12+10,none⟩=some (.int .i64 ((rd_T31 x8_1 t25).f4.f2)):=hcc34 10 _ rfl
    have hf34_8:World.frozen? _ ⟨go34,(t25:Int).toNat*12+8,none⟩=false:=hfr34 8
    have hf34_9:World.frozen? _ ⟨go34,(t25:Int).toNat*12+9,none⟩=false:=hfr34 9
    have hf34_10:World.frozen? _ ⟨go34,(t25:Int).toNat*12+10,none⟩=false:=hfr34 10
    clear hcl34 hcc34 hfr34 hM34
    replace p34:=eq_true p34
    replace q34:=eq_true q34
    obtain ⟨ce40,hcl40,hM40,hcc40,hfr40⟩:=Kd.R_elem HO_8.out z31 (t25:Int) (of_decide_eq_true zq_) (by have h_:(t25:Int)<((x8_1.length:Int):Int):=of_decide_eq_true zq_;first|exact h_|(have e_:=(Kd.R_reads' HO_8.out).1;omega)|simpa using h_)
    obtain rfl:=k31_openM hM40
    have HP40:=(Kd.R_seg HO_8.out (t25:Int) (of_decide_eq_true zq_) (by have h_:(t25:Int)<((x8_1.length:Int):Int):=of_decide_eq_true zq_;first|exact h_|(have e_:=(Kd.R_reads' HO_8.out).1;omega)|simpa using h_) (seg:=[.int .i64 t27, .int .i64 t28, .int .i64 t29]) (j:=8) hcl40 hcc40 (show 11≤12 from by decide) (x':=(⟨(rd_T31 x8_1 t25).f0,(rd_T31 x8_1 t25).f1,(⟨(rd_T31 x8_1 t25).f2.f0,(rd_T31 x8_1 t25).f2.f1,(rd_T31 x8_1 t25).f2.f2⟩:S27),(⟨(rd_T31 x8_1 t25).f3.f0,(rd_T31 x8_1 t25).f3.f1,(rd_T31 x8_1 t25).f3.f2⟩:S27),(⟨t27,t28,t29⟩:S27),(rd_T31 x8_1 t25).f5⟩:S31)) (k31_mkM _ _ _ (⟨(rd_T31 x8_1 t25).f0,(rd_T31 x8_1 t25).f1,(⟨(rd_T31 x8_1 t25).f2.f0,(rd_T31 x8_1 t25).f2.f1,(rd_T31 x8_1 t25).f2.f2⟩:S27),(⟨(rd_T31 x8_1 t25).f3.f0,(rd_T31 x8_1 t25).f3.f1,(rd_T31 x8_1 t25).f3.f2⟩:S27),(⟨t27,t28,t29⟩:S27),(rd_T31 x8_1 t25).f5⟩:S31)) (fun _ hk=>hk)).1
    rw [←Ny30.out] at HP40
    have HQ40:=Aside0.mk HP40
    clear hcl40 hcc40 hfr40 hM40 HP40
    refine hK.out _ _ ⟨(blk_cell BK1.out 0).trans rfl,(blk_cell BK1.out 1).trans rfl,(blk_cell BK1.out 2).trans rfl,HS3_,HS4_,HS5_,HS6_,HS7_,HS8_,HS9_,HS10_,HS11_,HS12_,HS13_,HS14_⟩ (fun hHeld=> ?_)
    clear hK K
    refine no_ (N:=some 45) ?_
    refine pu_ (i:=9) (N:=some 46) (bt_ 12 1023) HT_ ?_
    refine pu_ (i:=10) (N:=some 47) (bt_ 12 2047) HT_ ?_
    refine last_ (i:=11) (N:=none) (bt_ 12 4095) rfl rfl (one_of HT_.out (by kernel_rfl)) (by decide) (fun K hK=> ?_)
    refine skip_ (w1:= ?_) (by rfl) rfl ?_ ?_
    rotate_left
    ·go_simp
     rfl
    refine hK.out _ _ ?_
    clear hK K
    refine done_ (done_of HT_.out (by kernel_rfl)) ?_
    try go_wp2
    have n0_:Aside0 (Kd.R Kd.string 9 (((w39.setCell ⟨go34,(t25:Int).toNat*12+8,none⟩ (.int .i64 t27)).setCell ⟨go34,(t25:Int).toNat*12+9,none⟩ (.int .i64 t28)).setCell ⟨go34,(t25:Int).toNat*12+10,none⟩ (.int .i64 t29)) w.heap.size (fun _=>True) (.slice (some ad24) t3.length co26) t3):=⟨by (with_reducible repeat (first|apply Kd.R_alloc|apply Kd.R_drewN|apply Kd.R_drew));exact Kd.R_mono (Kd.R_far (p:=⟨go34,(t25:Int).toNat*12+10,none⟩) (Kd.R_far (p:=⟨go34,(t25:Int).toNat*12+9,none⟩) (Kd.R_far (p:=⟨go34,(t25:Int).toNat*12+8,none⟩) (Kd.R_types HO_7.out GG34.out (by decide)) (fun _ hk=>hk.2) (.int .i64 t27)) (fun _ hk=>hk.2) (.int .i64 t28)) (fun _ hk=>hk.2) (.int .i64 t29)) (fun _ hk=>trivial)⟩
    have n1_:Aside0 (Kd.R k31 31 (((w39.setCell ⟨go34,(t25:Int).toNat*12+8,none⟩ (.int .i64 t27)).setCell ⟨go34,(t25:Int).toNat*12+9,none⟩ (.int .i64 t28)).setCell ⟨go34,(t25:Int).toNat*12+10,none⟩ (.int .i64 t29)) w.heap.size (fun _=>True) (.slice (some ⟨go34,0,none⟩) x8_1.length co37) y30):=⟨by (with_reducible repeat (first|apply Kd.R_alloc|apply Kd.R_drewN|apply Kd.R_drew));exact HQ40.out⟩
    have n2_:Aside0 ((((w39.setCell ⟨go34,(t25:Int).toNat*12+8,none⟩ (.int .i64 t27)).setCell ⟨go34,(t25:Int).toNat*12+9,none⟩ (.int .i64 t28)).setCell ⟨go34,(t25:Int).toNat*12+10,none⟩ (.int .i64 t29)).heap[gb1]?=some (.cells #[.int .i64 a2_0, .int .i64 a2_1, .int .i64 a2_2] 27 (0,0))):=⟨by refine zk_ ?_;refine blk_far ?_ (by have h_:=Kd.R_ne HO_8.out BK1.out (by decide);intro e_;exact h_ (by rw [e_];rfl)) _;refine zk_ ?_;refine blk_far ?_ (by have h_:=Kd.R_ne HO_8.out BK1.out (by decide);intro e_;exact h_ (by rw [e_];rfl)) _;refine zk_ ?_;refine blk_far ?_ (by have h_:=Kd.R_ne HO_8.out BK1.out (by decide);intro e_;exact h_ (by rw [e_];rfl)) _;refine zk_ ?_;exact BK1.out⟩
    have n3_:Aside0 ((((w39.setCell ⟨go34,(t25:Int).toNat*12+8,none⟩ (.int .i64 t27)).setCell ⟨go34,(t25:Int).toNat*12+9,none⟩ (.int .i64 t28)).setCell ⟨go34,(t25:Int).toNat*12+10,none⟩ (.int .i64 t29)).heap[gb2]?=some (.cells #[.slice none 0 0, .int .i64 x3001_1] 67 (0,0))):=⟨by refine zk_ ?_;refine blk_far ?_ (by have h_:=Kd.R_ne HO_8.out BK2.out (by decide);intro e_;exact h_ (by rw [e_];rfl)) _;refine zk_ ?_;refine blk_far ?_ (by have h_:=Kd.R_ne HO_8.out BK2.out (by decide);intro e_;exact h_ (by rw [e_];rfl)) _;refine zk_ ?_;refine blk_far ?_ (by have h_:=Kd.R_ne HO_8.out BK2.out (by decide);intro e_;exact h_ (by rw [e_];rfl)) _;refine zk_ ?_;exact BK2.out⟩
    have n4_:Aside0 (Below w.heap.size w (((w39.setCell ⟨go34,(t25:Int).toNat*12+8,none⟩ (.int .i64 t27)).setCell ⟨go34,(t25:Int).toNat*12+9,none⟩ (.int .i64 t28)).setCell ⟨go34,(t25:Int).toNat*12+10,none⟩ (.int .i64 t29))):=⟨by repeat (first|(with_reducible first|exact HB.out|apply below_alloc|apply pw_below_drewN|apply below_drew1|refine below_set ?_ GB34.out|refine below_set ?_ GB34.out|refine below_set ?_ GB34.out|refine below_set ?_ GE1.out|refine below_set ?_ GE2.out)|exact HB.out)⟩
    (try clear HO_7)
    (try clear HO_8)
    (try clear BK1)
    (try clear BK2)
    (try clear HB)
    generalize (((w39.setCell ⟨go34,(t25:Int).toNat*12+8,none⟩ (.int .i64 t27)).setCell ⟨go34,(t25:Int).toNat*12+9,none⟩ (.int .i64 t28)).setCell ⟨go34,(t25:Int).toNat*12+10,none⟩ (.int .i64 t29))=w41 at n0_ n1_ n2_ n3_ n4_ ⊢
    have HO_7:=n0_
    have HO_8:=n1_
    have BK1:=n2_
    have BK2:=n3_
    have HB:=n4_
    clear n0_ n1_ n2_ n3_ n4_
    replace HO_7:=am_ (Kd.R_drew HO_7.out)
    replace HO_8:=am_ (Kd.R_drew HO_8.out)
    replace BK1:=am_ (blk_drew BK1.out)
    replace BK2:=am_ (blk_drew BK2.out)
    replace HB:=am_ (below_drew1 HB.out)
    have p31:0≤(t25:Int):=of_decide_eq_true zq_
    have q31:t25<(y30.length:Int):=(by have h_:(t25:Int)<((x8_1.length:Int):Int):=of_decide_eq_true zq_;first|(have e_:=(Kd.R_reads' HO_8.out).1;omega)|simpa only [Ny30.out,List.length_set] using h_)
    obtain ⟨ad31,e31,hx31_0,hx31_1,hx31_2,hx31_3,hx31_4,hx31_5,hx31_6,hx31_7,hx31_8,hx31_9,hx31_10,hx31_11⟩:=at_T31 (Kd.R_reads' HO_8.out).2.2 t25 p31 q31
    obtain rfl:(⟨go34,0,none⟩:Addr)=ad31:=(by injection e31)
    replace hx31_0:=za_ hx31_0
    replace hx31_1:=za_ hx31_1
    replace hx31_2:=za_ hx31_2
    replace hx31_3:=za_ hx31_3
    replace hx31_4:=za_ hx31_4
    replace hx31_5:=za_ hx31_5
    replace hx31_6:=za_ hx31_6
    replace hx31_7:=za_ hx31_7
    replace hx31_8:=za_ hx31_8
    replace hx31_9:=za_ hx31_9
    replace hx31_10:=za_ hx31_10
    replace hx31_11:=za_ hx31_11
    replace p31:=eq_true p31
    replace q31:=eq_true q31
    have p32:0≤(t25:Int):=of_decide_eq_true zq_
    have q32:t25<(y30.length:Int):=(by have h_:(t25:Int)<((x8_1.length:Int):Int):=of_decide_eq_true zq_;first|(have e_:=(Kd.R_reads' HO_8.out).1;omega)|simpa only [Ny30.out,List.length_set] using h_)
    obtain ⟨ad32,e32,hx32_0,hx32_1,hx32_2,hx32_3,hx32_4,hx32_5,hx32_6,hx32_7,hx32_8,hx32_9,hx32_10,hx32_11⟩:=at_T31 (Kd.R_reads' HO_8.out).2.2 t25 p32 q32
    obtain rfl:(⟨go34,0,none⟩:Addr)=ad32:=(by injection e32)
    replace hx32_0:=za_ hx32_0
    replace hx32_1:=za_ hx32_1
    replace hx32_2:=za_ hx32_2
    replace hx32_3:=za_ hx32_3
    replace hx32_4:=za_ hx32_4
    replace hx32_5:=za_ hx32_5
    replace hx32_6:=za_ hx32_6
    replace hx32_7:=za_ hx32_7
    replace hx32_8:=za_ hx32_8
    replace hx32_9:=za_ hx32_9
    replace hx32_10:=za_ hx32_10
    replace hx32_11:=za_ hx32_11
    replace p32:=eq_true p32
    replace q32:=eq_true q32
    refine start_ (n:=12) (S:=fun w'=>w'.cell? ⟨go34,(t25).toNat*12,none⟩=some (.string ((rd_T31 y30 t25).f0))∧w'.cell? ⟨go34,(t25).toNat*12+1,none⟩=some (.string ((rd_T31 y30 t25).f1))∧w'.cell? ⟨go34,(t25).toNat*12+2,none⟩=some (.int .i64 ((rd_T31 y30 t25).f2.f0))∧w'.cell? ⟨go34,(t25).toNat*12+3,none⟩=some (.int .i64 ((rd_T31 y30 t25).f2.f1))∧w'.cell? ⟨go34,(t25).toNat*12+4,none⟩=some (.int .i64 ((rd_T31 y30 t25).f2.f2))∧w'.cell? ⟨go34,(t25).toNat*12+5,none⟩=some (.int .i64 ((rd_T31 y30 t25).f3.f0))∧w'.cell? ⟨go34,(t25).toNat*12+6,none⟩=some (.int .i64 ((rd_T31 y30 t25).f3.f1))∧w'.cell? ⟨go34,(t25).toNat*12+7,none⟩=some (.int .i64 ((rd_T31 y30 t25).f3.f2))∧w'.cell? ⟨go34,(t25).toNat*12+8,none⟩=some (.int .i64 ((rd_T31 y30 t25).f4.f0))∧w'.cell? ⟨go34,(t25).toNat*12+9,none⟩=some (.int .i64 ((rd_T31 y30 t25).f4.f1))∧w'.cell? ⟨go34,(t25).toNat*12+10,none⟩=some (.int .i64 ((rd_T31 y30 t25).f4.f2))∧w'.cell? ⟨go34,(t25).toNat*12+11,none⟩=some (.int .i64 ((rd_T31 y30 t25).f5))∧w'.cell? ⟨go34,(t25).toNat*12,none⟩=some (.string ((rd_T31 y30 t25).f0))∧w'.cell? ⟨go34,(t25).toNat*12+1,none⟩=some (.string ((rd_T31 y30 t25).f1))∧w'.cell? ⟨go34,(t25).toNat*12+2,none⟩=some (.int .i64 ((rd_T31 y30 t25).f2.f0))∧w'.cell? ⟨go34,(t25).toNat*12+3,none⟩=some (.int .i64 ((rd_T31 y30 t25).f2.f1))∧w'.cell? ⟨go34,(t25).toNat*12+4,none⟩=some (.int .i64 ((rd_T31 y30 t25).f2.f2))∧w'.cell? ⟨go34,(t25).toNat*12+5,none⟩=some (.int .i64 ((rd_T31 y30 t25).f3.f0))∧w'.cell? ⟨go34,(t25).toNat*12+6,none⟩=some (.int .i64 ((rd_T31 y30 t25).f3.f1))∧w'.cell? ⟨go34,(t25).toNat*12+7,none⟩=some (.int .i64 ((rd_T31 y30 t25).f3.f2))∧w'.cell? ⟨go34,(t25).toNat*12+8,none⟩=some (.int .i64 ((rd_T31 y30 t25).f4.f0))∧w'.cell? ⟨go34,(t25).toNat*12+9,none⟩=some (.int .i64 ((rd_T31 y30 t25).f4.f1))∧w'.cell? ⟨go34,(t25).toNat*12+10,none⟩=some (.int .i64 ((rd_T31 y30 t25).f4.f2))∧w'.cell? ⟨go34,(t25).toNat*12+11,none⟩=some (.int .i64 ((rd_T31 y30 t25).f5))) (ds:=[]) (bt_ 12 0) (by kernel_rfl) rfl rfl ⟨hx31_0,hx31_1,hx31_2,hx31_3,hx31_4,hx31_5,hx31_6,hx31_7,hx31_8,hx31_9,hx31_10,hx31_11,hx32_0,hx32_1,hx32_2,hx32_3,hx32_4,hx32_5,hx32_6,hx32_7,hx32_8,hx32_9,hx32_10,hx32_11⟩ (fun hHeld=> ?_);refine with_tabW r10_Admit.tab12 r10_Admit.bits12 (fun HT_ HW_=> ?_)
    generalize w41.drew=w42 at HO_7 HO_8 BK1 BK2 HB HQ40 hx31_0 hx31_1 hx31_10 hx31_11 hx31_2 hx31_3 hx31_4 hx31_5 hx31_6 hx31_7 hx31_8 hx31_9 hx32_0 hx32_1 hx32_10 hx32_11 hx32_2 hx32_3 hx32_4 hx32_5 hx32_6 hx32_7 hx32_8 hx32_9 hHeld ⊢
    refine pu_ (i:=0) (N:=some 48) (bt_ 12 1) HT_ ?_
    refine pu_ (i:=1) (N:=some 49) (bt_ 12 3) HT_ ?_
    refine pu_ (i:=2) (N:=some 50) (bt_ 12 7) HT_ ?_
    refine pu_ (i:=3) (N:=some 51) (bt_ 12 15) HT_ ?_
    refine pu_ (i:=5) (N:=some 53) (bt_ 12 47) HT_ ?_
    refine pu_ (i:=6) (N:=some 54) (bt_ 12 111) HT_ ?_
    refine pu_ (i:=7) (N:=some 55) (bt_ 12 239) HT_ ?_
    refine pu_ (i:=8) (N:=some 56) (bt_ 12 495) HT_ ?_
    refine tk_ (i:=4) (N:=some 52) (bt_ 12 511) HT_ HW_ hHeld ?_
    refine tk_ (i:=9) (N:=some 57) (bt_ 12 1023) HT_ HW_ hHeld ?_
    refine on_ (i:=10) (N:=some 58) (bt_ 12 2047) HT_ (fun K hK=> ?_)
    refine gs_ Try.func34 #[.agg #[.int .i64 ((rd_T31 y30 t25).f4.f0), .int .i64 ((rd_T31 y30 t25).f4.f1), .int .i64 ((rd_T31 y30 t25).f4.f2)], .agg #[.int .i64 ((rd_T31 y30 t25).f2.f0), .int .i64 ((rd_T31 y30 t25).f2.f1), .int .i64 ((rd_T31 y30 t25).f2.f2)]] ?_
    with_reducible refine (r10_Le.calls ((rd_T31 y30 t25).f4.f0) ((rd_T31 y30 t25).f4.f1) ((rd_T31 y30 t25).f4.f2) ((rd_T31 y30 t25).f2.f0) ((rd_T31 y30 t25).f2.f1) ((rd_T31 y30 t25).f2.f2) true _ A35.out).mono ?_
    rintro e w43 ⟨rfl,hb⟩
    have HS0_:=zh_ hb (hHeld.1)
    have HS1_:=zh_ hb (hHeld.2.1)
    have HS2_:=zh_ hb (hHeld.2.2.1)
    have HS3_:=zh_ hb (hHeld.2.2.2.1)
    have HS4_:=zh_ hb (hHeld.2.2.2.2.1)
    have HS5_:=zh_ hb (hHeld.2.2.2.2.2.1)
    have HS6_:=zh_ hb (hHeld.2.2.2.2.2.2.1)
    have HS7_:=zh_ hb (hHeld.2.2.2.2.2.2.2.1)
    have HS8_:=zh_ hb (hHeld.2.2.2.2.2.2.2.2.1)
    have HS9_:=zh_ hb (hHeld.2.2.2.2.2.2.2.2.2.1)
    have HS10_:=zh_ hb (hHeld.2.2.2.2.2.2.2.2.2.2.1)
    have HS11_:=zh_ hb (hHeld.2.2.2.2.2.2.2.2.2.2.2.1)
    have HS12_:=zh_ hb (hHeld.2.2.2.2.2.2.2.2.2.2.2.2.1)
    have HS13_:=zh_ hb (hHeld.2.2.2.2.2.2.2.2.2.2.2.2.2.1)
    have HS14_:=zh_ hb (hHeld.2.2.2.2.2.2.2.2.2.2.2.2.2.2.1)
    have HS15_:=zh_ hb (hHeld.2.2.2.2.2.2.2.2.2.2.2.2.2.2.2.1)
    have HS16_:=zh_ hb (hHeld.2.2.2.2.2.2.2.2.2.2.2.2.2.2.2.2.1)
    have HS17_:=zh_ hb (hHeld.2.2.2.2.2.2.2.2.2.2.2.2.2.2.2.2.2.1)
    have HS18_:=zh_ hb (hHeld.2.2.2.2.2.2.2.2.2.2.2.2.2.2.2.2.2.2.1)
    have HS19_:=zh_ hb (hHeld.2.2.2.2.2.2.2.2.2.2.2.2.2.2.2.2.2.2.2.1)
    have HS20_:=zh_ hb (hHeld.2.2.2.2.2.2.2.2.2.2.2.2.2.2.2.2.2.2.2.2.1)
    have HS21_:=zh_ hb (hHeld.2.2.2.2.2.2.2.2.2.2.2.2.2.2.2.2.2.2.2.2.2.1)
    have HS22_:=zh_ hb (hHeld.2.2.2.2.2.2.2.2.2.2.2.2.2.2.2.2.2.2.2.2.2.2.1)
    have HS23_:=zh_ hb (hHeld.2.2.2.2.2.2.2.2.2.2.2.2.2.2.2.2.2.2.2.2.2.2.2)
    refine ⟨_,rfl, ?_⟩
    replace HO_7:=am_ (Kd.R_below (zr_ HO_7) hb)
    replace HO_8:=am_ (Kd.R_below (zr_ HO_8) hb)
    replace BK1:=am_ (blk_below (zb_ BK1) hb)
    replace BK2:=am_ (blk_below (zb_ BK2) hb)
    replace HB:=am_ (below_step (zl2_ HB GE1 GE2) hb)
    (try clear hb)
    (try clear hb2)
    (try clear hk)
    (try clear hi)
    refine hK.out _ _ ⟨HS0_,HS1_,HS2_,HS3_,HS4_,HS5_,HS6_,HS7_,HS8_,HS9_,HS10_,HS11_,HS12_,HS13_,HS14_,HS15_,HS16_,HS17_,HS18_,HS19_,HS20_,HS21_,HS22_,HS23_⟩ (fun hHeld=> ?_)
    clear hK K
    refine no_ (N:=some 58) ?_
    refine pu_ (i:=11) (N:=some 59) (bt_ 12 4095) HT_ ?_
    refine done_ (done_of HT_.out (by kernel_rfl)) ?_
    try go_wp2
    go_roundg k1
    case measure=>have:=HK1.out;omega
    case rel=>exact ⟨(y30),(wrap64 (x9_1+1)),(x3001_1),(by first|rfl|(simp;done)|(simp [*];done)),H',⟨by have:=HK1.out;omega⟩,⟨by (with_reducible repeat (first|apply Kd.R_alloc|apply Kd.R_drewN|apply Kd.R_drew));exact HO_7.out⟩,⟨by (with_reducible repeat (first|apply Kd.R_alloc|apply Kd.R_drewN|apply Kd.R_drew));exact HO_8.out⟩,⟨by refine zk_ ?_;exact BK1.out⟩,⟨by refine zk_ ?_;exact BK2.out⟩,⟨zl2_ HB GE1 GE2⟩⟩
   replace c36:=Bool.eq_false_iff.mpr c36
   subst c36
   have H1:((r10_no.f 12).bind fun bt34=>(some (bt34.1,bt34.2)))=some (r1,r2):=by rw [if_neg (show¬(false=true) by decide)] at H;exact H
   clear H
   have H:=H1
   clear H1
   replace H:=Option.bind_eq_some_iff.mp H
   obtain ⟨⟨t34,t37⟩,A440,H⟩:=H
   try dsimp only at H
   have A44:=Aside0.mk A440
   clear A440
   simp only [Option.some.injEq,Prod.mk.injEq] at H
   obtain ⟨rfl,rfl⟩:=H
   have p24:0≤(x9_1:Int):=of_decide_eq_true zq_
   have q24:x9_1<(t3.length:Int):=of_decide_eq_true zq_
   obtain ⟨ad24,e24,hx24_0⟩:=Kd.at_string (Kd.R_reads' HO_7.out).2.2 x9_1 p24 q24
   cases e24
   replace p24:=eq_true p24
   replace q24:=eq_true q24
   obtain ⟨Ao45,co45,eo45⟩:=Kd.R_slice HO_8.out
   subst eo45
   try go_wp2_with (first|((with_reducible refine gate_callee (f:=50) rfl ?_);refine gl_ (some 36) Try.func50 #[.slice Ao45 x8_1.length co45, .string (rdOf ByteArray.empty t3 x9_1)] ?_;(with_reducible refine (r10_Find.calls k1 _ _ x8_1 (rdOf ByteArray.empty t3 x9_1) t25 _ ?side1 ?side2 A30.out).mono ?_);(case side1=>exact zc_ (Kd.R_reads' HO_8.out).2.2);(case side2=>exact (Kd.R_reads' HO_8.out).2.1);rintro e w' ⟨rfl,⟨nd,rfl⟩⟩;refine ⟨_,rfl, ?_⟩;(try (rw [drewN_self wr];generalize hq_:World.drewN wr _=wr;have n0_:Aside0 (Kd.R Kd.string 9 wr w.heap.size (fun _=>True) (.slice (some ad24) t3.length co26) t3):=⟨by rw [←hq_];exact (zr_ HO_7)⟩;have n1_:Aside0 (Kd.R k31 31 wr w.heap.size (fun _=>True) (.slice Ao45 x8_1.length co45) x8_1):=⟨by rw [←hq_];exact (zr_ HO_8)⟩;have n2_:Aside0 (wr.heap[gb1]?=some (.cells #[.int .i64 a2_0, .int .i64 a2_1, .int .i64 a2_2] 27 (0,0))):=⟨by rw [←hq_];exact (zb_ BK1)⟩;have n3_:Aside0 (wr.heap[gb2]?=some (.cells #[.slice none 0 0, .int .i64 x3001_1] 67 (0,0))):=⟨by rw [←hq_];exact (zb_ BK2)⟩;have n4_:Aside0 (Below w.heap.size w wr):=⟨by rw [←hq_];exact (zl2_ HB GE1 GE2)⟩;clear HO_7 HO_8 BK1 BK2 HB hq_;have HO_7:=n0_;have HO_8:=n1_;have BK1:=n2_;have BK2:=n3_;have HB:=n4_;clear n0_ n1_ n2_ n3_ n4_))))
   replace HO_7:=am_ (Kd.R_drew HO_7.out)
   replace HO_8:=am_ (Kd.R_drew HO_8.out)
   replace BK1:=am_ (blk_drew BK1.out)
   replace BK2:=am_ (blk_drew BK2.out)
   replace HB:=am_ (below_drew1 HB.out)
   have p26:0≤(t25:Int):=of_decide_eq_true zq_
   have q26:t25<(x8_1.length:Int):=of_decide_eq_true zq_
   obtain ⟨ad26,e26,hx26_0,hx26_1,hx26_2,hx26_3,hx26_4,hx26_5,hx26_6,hx26_7,hx26_8,hx26_9,hx26_10,hx26_11⟩:=at_T31 (Kd.R_reads' HO_8.out).2.2 t25 p26 q26
   cases e26
   replace p26:=eq_true p26
   replace q26:=eq_true q26
   refine start_ (n:=12) (S:=fun w'=>w'.cell? ⟨gb1,0,none⟩=some (.int .i64 a2_0)∧w'.cell? ⟨gb1,1,none⟩=some (.int .i64 a2_1)∧w'.cell? ⟨gb1,2,none⟩=some (.int .i64 a2_2)∧w'.cell? (ad26.add ((t25).toNat*12))=some (.string ((rd_T31 x8_1 t25).f0))∧w'.cell? ⟨(ad26.add ((t25).toNat*12)).block,(ad26.add ((t25).toNat*12)).off+1,none⟩=some (.string ((rd_T31 x8_1 t25).f1))∧w'.cell? ⟨(ad26.add ((t25).toNat*12)).block,(ad26.add ((t25).toNat*12)).off+2,none⟩=some (.int .i64 ((rd_T31 x8_1 t25).f2.f0))∧w'.cell? ⟨(ad26.add ((t25).toNat*12)).block,(ad26.add ((t25).toNat*12)).off+3,none⟩=some (.int .i64 ((rd_T31 x8_1 t25).f2.f1))∧w'.cell? ⟨(ad26.add ((t25).toNat*12)).block,(ad26.add ((t25).toNat*12)).off+4,none⟩=some (.int .i64 ((rd_T31 x8_1 t25).f2.f2))∧w'.cell? ⟨(ad26.add ((t25).toNat*12)).block,(ad26.add ((t25).toNat*12)).off+5,none⟩=some (.int .i64 ((rd_T31 x8_1 t25).f3.f0))∧w'.cell? ⟨(ad26.add ((t25).toNat*12)).block,(ad26.add ((t25).toNat*12)).off+6,none⟩=some (.int .i64 ((rd_T31 x8_1 t25).f3.f1))∧w'.cell? ⟨(ad26.add ((t25).toNat*12)).block,(ad26.add ((t25).toNat*12)).off+7,none⟩=some (.int .i64 ((rd_T31 x8_1 t25).f3.f2))∧w'.cell? ⟨(ad26.add ((t25).toNat*12)).block,(ad26.add ((t25).toNat*12)).off+8,none⟩=some (.int .i64 ((rd_T31 x8_1 t25).f4.f0))∧w'.cell? ⟨(ad26.add ((t25).toNat*12)).block,(ad26.add ((t25).toNat*12)).off+9,none⟩=some (.int .i64 ((rd_T31 x8_1 t25).f4.f1))∧w'.cell? ⟨(ad26.add ((t25).toNat*12)).block,(ad26.add ((t25).toNat*12)).off+10,none⟩=some (.int .i64 ((rd_T31 x8_1 t25).f4.f2))∧w'.cell? ⟨(ad26.add ((t25).toNat*12)).block,(ad26.add ((t25).toNat*12)).off+11,none⟩=some (.int .i64 ((rd_T31 x8_1 t25).f5))) (ds:=[11]) (bt_ 12 0) (by kernel_rfl) rfl rfl ⟨(blk_cell BK1.out 0).trans rfl,(blk_cell BK1.out 1).trans rfl,(blk_cell BK1.out 2).trans rfl,hx26_0,hx26_1,hx26_2,hx26_3,hx26_4,hx26_5,hx26_6,hx26_7,hx26_8,hx26_9,hx26_10,hx26_11⟩ (fun hHeld=> ?_);refine with_tabW r10_Admit.tab11 r10_Admit.bits11 (fun HT_ HW_=> ?_)
   generalize wr.drew=w46 at HO_7 HO_8 BK1 BK2 HB hx26_0 hx26_1 hx26_10 hx26_11 hx26_2 hx26_3 hx26_4 hx26_5 hx26_6 hx26_7 hx26_8 hx26_9 hHeld ⊢
   refine pu_ (i:=0) (N:=some 37) (bt_ 12 1) HT_ ?_
   refine pu_ (i:=1) (N:=some 38) (bt_ 12 3) HT_ ?_
   refine pu_ (i:=2) (N:=some 39) (bt_ 12 7) HT_ ?_
   refine pu_ (i:=3) (N:=some 40) (bt_ 12 15) HT_ ?_
   refine pu_ (i:=4) (N:=some 41) (bt_ 12 31) HT_ ?_
   refine pu_ (i:=5) (N:=some 42) (bt_ 12 63) HT_ ?_
   refine tk_ (i:=6) (N:=some 43) (bt_ 12 127) HT_ HW_ hHeld ?_
   refine tk_ (i:=7) (N:=some 44) (bt_ 12 255) HT_ HW_ hHeld ?_
   refine on_ (i:=8) (N:=some 45) (bt_ 12 511) HT_ (fun K hK=> ?_)
   refine gs_ Try.func63 #[.agg #[.int .i64 ((rd_T31 x8_1 t25).f4.f0), .int .i64 ((rd_T31 x8_1 t25).f4.f1), .int .i64 ((rd_T31 x8_1 t25).f4.f2)], .agg #[.int .i64 a2_0, .int .i64 a2_1, .int .i64 a2_2]] ?_
   with_reducible refine (r10_Add.calls ((rd_T31 x8_1 t25).f4.f0) ((rd_T31 x8_1 t25).f4.f1) ((rd_T31 x8_1 t25).f4.f2) a2_0 a2_1 a2_2 t27 t28 t29 _ A33.out).mono ?_
   rintro e w47 ⟨rfl,hb⟩
   have HS3_:=zh_ hb (hHeld.2.2.2.1)
   have HS4_:=zh_ hb (hHeld.2.2.2.2.1)
   have HS5_:=zh_ hb (hHeld.2.2.2.2.2.1)
   have HS6_:=zh_ hb (hHeld.2.2.2.2.2.2.1)
   have HS7_:=zh_ hb (hHeld.2.2.2.2.2.2.2.1)
   have HS8_:=zh_ hb (hHeld.2.2.2.2.2.2.2.2.1)
   have HS9_:=zh_ hb (hHeld.2.2.2.2.2.2.2.2.2.1)
   have HS10_:=zh_ hb (hHeld.2.2.2.2.2.2.2.2.2.2.1)
   have HS11_:=zh_ hb (hHeld.2.2.2.2.2.2.2.2.2.2.2.1)
   have HS12_:=zh_ hb (hHeld.2.2.2.2.2.2.2.2.2.2.2.2.1)
   have HS13_:=zh_ hb (hHeld.2.2.2.2.2.2.2.2.2.2.2.2.2.1)
   have HS14_:=zh_ hb (hHeld.2.2.2.2.2.2.2.2.2.2.2.2.2.2)
   refine ⟨_,rfl, ?_⟩
   replace HO_7:=am_ (Kd.R_below (zr_ HO_7) hb)
   replace HO_8:=am_ (Kd.R_below (zr_ HO_8) hb)
   replace BK1:=am_ (blk_below (zb_ BK1) hb)
   replace BK2:=am_ (blk_below (zb_ BK2) hb)
   replace HB:=am_ (below_step (zl2_ HB GE1 GE2) hb)
   (try clear hb)
   (try clear hb2)
   (try clear hk)
   (try clear hi)
   have p34:0≤(t25:Int):=of_decide_eq_true zq_
   have q34:(t25:Int)<((x8_1.length:Int):Int):=of_decide_eq_true zq_
   obtain ⟨go34,co34,eo34,gb34,gl34,cl34,HG34⟩:=Kd.R_form HO_8.out (by omega)
   (first|cases eo34|(injection eo34 with ea_ en_ ec_;(first|subst ea_|(injection ea_ with ea_;subst ea_));subst ec_;clear en_))
   have GB34:=Aside0.mk gb34
   have GG34:=Aside0.mk HG34
   clear gb34 gl34 HG34
   replace hx26_0:=zv_ hx26_0
   replace hx26_1:=zv_ hx26_1
   replace hx26_2:=zv_ hx26_2
   replace hx26_3:=zv_ hx26_3
   replace hx26_4:=zv_ hx26_4
   replace hx26_5:=zv_ hx26_5
   replace hx26_6:=zv_ hx26_6
   replace hx26_7:=zv_ hx26_7
   replace hx26_8:=zv_ hx26_8
   replace hx26_9:=zv_ hx26_9
   replace hx26_10:=zv_ hx26_10
   replace hx26_11:=zv_ hx26_11
   obtain ⟨ce34,hcl34,hM34,hcc34,hfr34⟩:=Kd.R_elem HO_8.out z31 (t25:Int) p34 q34
   obtain rfl:=k31_openM hM34
   have hx34_8:World.cell? _ ⟨go34,(t25:Int).toNat*12+8,none⟩=some (.int .i64 ((rd_T31 x8_1 t25).f4.f0)):=hcc34 8 _ rfl
   have hx34_9:World.cell? _ ⟨go34,(t25:Int).toNat*12+9,none⟩=some (.int .i64 ((rd_T31 x8_1 t25).f4.f1)):=hcc34 9 _ rfl
   have hx34_10:World.cell? _ ⟨go34,(t25:Int).toNat*12+10,none⟩=some (.int .i64 ((rd_T31 x8_1 t25).f4.f2)):=hcc34 10 _ rfl
   have hf34_8:World.frozen? _ ⟨go34,(t25:Int).toNat*12+8,none⟩=false:=hfr34 8
   have hf34_9:World.frozen? _ ⟨go34,(t25:Int).toNat*12+9,none⟩=false:=hfr34 9
   have hf34_10:World.frozen? _ ⟨go34,(t25:Int).toNat*12+10,none⟩=false:=hfr34 10
   clear hcl34 hcc34 hfr34 hM34
   replace p34:=eq_true p34
   replace q34:=eq_true q34
   obtain ⟨ce48,hcl48,hM48,hcc48,hfr48⟩:=Kd.R_elem HO_8.out z31 (t25:Int) (of_decide_eq_true zq_) (by have h_:(t25:Int)<((x8_1.length:Int):Int):=of_decide_eq_true zq_;first|exact h_|(have e_:=(Kd.R_reads' HO_8.out).1;omega)|simpa using h_)
   obtain rfl:=k31_openM hM48
   have HP48:=(Kd.R_seg HO_8.out (t25:Int) (of_decide_eq_true zq_) (by have h_:(t25:Int)<((x8_1.length:Int):Int):=of_decide_eq_true zq_;first|exact h_|(have e_:=(Kd.R_reads' HO_8.out).1;omega)|simpa using h_) (seg:=[.int .i64 t27, .int .i64 t28, .int .i64 t29]) (j:=8) hcl48 hcc48 (show 11≤12 from by decide) (x':=(⟨(rd_T31 x8_1 t25).f0,(rd_T31 x8_1 t25).f1,(⟨(rd_T31 x8_1 t25).f2.f0,(rd_T31 x8_1 t25).f2.f1,(rd_T31 x8_1 t25).f2.f2⟩:S27),(⟨(rd_T31 x8_1 t25).f3.f0,(rd_T31 x8_1 t25).f3.f1,(rd_T31 x8_1 t25).f3.f2⟩:S27),(⟨t27,t28,t29⟩:S27),(rd_T31 x8_1 t25).f5⟩:S31)) (k31_mkM _ _ _ (⟨(rd_T31 x8_1 t25).f0,(rd_T31 x8_1 t25).f1,(⟨(rd_T31 x8_1 t25).f2.f0,(rd_T31 x8_1 t25).f2.f1,(rd_T31 x8_1 t25).f2.f2⟩:S27),(⟨(rd_T31 x8_1 t25).f3.f0,(rd_T31 x8_1 t25).f3.f1,(rd_T31 x8_1 t25).f3.f2⟩:S27),(⟨t27,t28,t29⟩:S27),(rd_T31 x8_1 t25).f5⟩:S31)) (fun _ hk=>hk)).1
   rw [←Ny30.out] at HP48
   have HQ48:=Aside0.mk HP48
   clear hcl48 hcc48 hfr48 hM48 HP48
   refine hK.out _ _ ⟨(blk_cell BK1.out 0).trans rfl,(blk_cell BK1.out 1).trans rfl,(blk_cell BK1.out 2).trans rfl,HS3_,HS4_,HS5_,HS6_,HS7_,HS8_,HS9_,HS10_,HS11_,HS12_,HS13_,HS14_⟩ (fun hHeld=> ?_)
   clear hK K
   refine no_ (N:=some 45) ?_
   refine pu_ (i:=9) (N:=some 46) (bt_ 12 1023) HT_ ?_
   refine pu_ (i:=10) (N:=some 47) (bt_ 12 2047) HT_ ?_
   refine last_ (i:=11) (N:=none) (bt_ 12 4095) rfl rfl (one_of HT_.out (by kernel_rfl)) (by decide) (fun K hK=> ?_)
   refine skip_ (w1:= ?_) (by rfl) rfl ?_ ?_
   rotate_left
   ·go_simp
    rfl
   refine hK.out _ _ ?_
   clear hK K
   refine done_ (done_of HT_.out (by kernel_rfl)) ?_
   have n0_:Aside0 (Kd.R Kd.string 9 (((w47.setCell ⟨go34,(t25:Int).toNat*12+8,none⟩ (.int .i64 t27)).setCell ⟨go34,(t25:Int).toNat*12+9,none⟩ (.int .i64 t28)).setCell ⟨go34,(t25:Int).toNat*12+10,none⟩ (.int .i64 t29)) w.heap.size (fun _=>True) (.slice (some ad24) t3.length co26) t3):=⟨by (with_reducible repeat (first|apply Kd.R_alloc|apply Kd.R_drewN|apply Kd.R_drew));exact Kd.R_mono (Kd.R_far (p:=⟨go34,(t25:Int).toNat*12+10,none⟩) (Kd.R_far (p:=⟨go34,(t25:Int).toNat*12+9,none⟩) (Kd.R_far (p:=⟨go34,(t25:Int).toNat*12+8,none⟩) (Kd.R_types HO_7.out GG34.out (by decide)) (fun _ hk=>hk.2) (.int .i64 t27)) (fun _ hk=>hk.2) (.int .i64 t28)) (fun _ hk=>hk.2) (.int .i64 t29)) (fun _ hk=>trivial)⟩
   have n1_:Aside0 (Kd.R k31 31 (((w47.setCell ⟨go34,(t25:Int).toNat*12+8,none⟩ (.int .i64 t27)).setCell ⟨go34,(t25:Int).toNat*12+9,none⟩ (.int .i64 t28)).setCell ⟨go34,(t25:Int).toNat*12+10,none⟩ (.int .i64 t29)) w.heap.size (fun _=>True) (.slice (some ⟨go34,0,none⟩) x8_1.length co45) y30):=⟨by (with_reducible repeat (first|apply Kd.R_alloc|apply Kd.R_drewN|apply Kd.R_drew));exact HQ48.out⟩
   have n2_:Aside0 ((((w47.setCell ⟨go34,(t25:Int).toNat*12+8,none⟩ (.int .i64 t27)).setCell ⟨go34,(t25:Int).toNat*12+9,none⟩ (.int .i64 t28)).setCell ⟨go34,(t25:Int).toNat*12+10,none⟩ (.int .i64 t29)).heap[gb1]?=some (.cells #[.int .i64 a2_0, .int .i64 a2_1, .int .i64 a2_2] 27 (0,0))):=⟨by refine zk_ ?_;refine blk_far ?_ (by have h_:=Kd.R_ne HO_8.out BK1.out (by decide);intro e_;exact h_ (by rw [e_];rfl)) _;refine zk_ ?_;refine blk_far ?_ (by have h_:=Kd.R_ne HO_8.out BK1.out (by decide);intro e_;exact h_ (by rw [e_];rfl)) _;refine zk_ ?_;refine blk_far ?_ (by have h_:=Kd.R_ne HO_8.out BK1.out (by decide);intro e_;exact h_ (by rw [e_];rfl)) _;refine zk_ ?_;exact BK1.out⟩
   have n3_:Aside0 ((((w47.setCell ⟨go34,(t25:Int).toNat*12+8,none⟩ (.int .i64 t27)).setCell ⟨go34,(t25:Int).toNat*12+9,none⟩ (.int .i64 t28)).setCell ⟨go34,(t25:Int).toNat*12+10,none⟩ (.int .i64 t29)).heap[gb2]?=some (.cells #[.slice none 0 0, .int .i64 x3001_1] 67 (0,0))):=⟨by refine zk_ ?_;refine blk_far ?_ (by have h_:=Kd.R_ne HO_8.out BK2.out (by decide);intro e_;exact h_ (by rw [e_];rfl)) _;refine zk_ ?_;refine blk_far ?_ (by have h_:=Kd.R_ne HO_8.out BK2.out (by decide);intro e_;exact h_ (by rw [e_];rfl)) _;refine zk_ ?_;refine blk_far ?_ (by have h_:=Kd.R_ne HO_8.out BK2.out (by decide);intro e_;exact h_ (by rw [e_];rfl)) _;refine zk_ ?_;exact BK2.out⟩
   have n4_:Aside0 (Below w.heap.size w (((w47.setCell ⟨go34,(t25:Int).toNat*12+8,none⟩ (.int .i64 t27)).setCell ⟨go34,(t25:Int).toNat*12+9,none⟩ (.int .i64 t28)).setCell ⟨go34,(t25:Int).toNat*12+10,none⟩ (.int .i64 t29))):=⟨by repeat (first|(with_reducible first|exact HB.out|apply below_alloc|apply pw_below_drewN|apply below_drew1|refine below_set ?_ GB34.out|refine below_set ?_ GB34.out|refine below_set ?_ GB34.out|refine below_set ?_ GE1.out|refine below_set ?_ GE2.out)|exact HB.out)⟩
   (try clear HO_7)
   (try clear HO_8)
   (try clear BK1)
   (try clear BK2)
   (try clear HB)
   generalize (((w47.setCell ⟨go34,(t25:Int).toNat*12+8,none⟩ (.int .i64 t27)).setCell ⟨go34,(t25:Int).toNat*12+9,none⟩ (.int .i64 t28)).setCell ⟨go34,(t25:Int).toNat*12+10,none⟩ (.int .i64 t29))=w49 at n0_ n1_ n2_ n3_ n4_ ⊢
   have HO_7:=n0_
   have HO_8:=n1_
   have BK1:=n2_
   have BK2:=n3_
   have HB:=n4_
   clear n0_ n1_ n2_ n3_ n4_
   try go_wp2
   replace HO_7:=am_ (Kd.R_drew HO_7.out)
   replace HO_8:=am_ (Kd.R_drew HO_8.out)
   replace BK1:=am_ (blk_drew BK1.out)
   replace BK2:=am_ (blk_drew BK2.out)
   replace HB:=am_ (below_drew1 HB.out)
   have p31:0≤(t25:Int):=of_decide_eq_true zq_
   have q31:t25<(y30.length:Int):=(by have h_:(t25:Int)<((x8_1.length:Int):Int):=of_decide_eq_true zq_;first|(have e_:=(Kd.R_reads' HO_8.out).1;omega)|simpa only [Ny30.out,List.length_set] using h_)
   obtain ⟨ad31,e31,hx31_0,hx31_1,hx31_2,hx31_3,hx31_4,hx31_5,hx31_6,hx31_7,hx31_8,hx31_9,hx31_10,hx31_11⟩:=at_T31 (Kd.R_reads' HO_8.out).2.2 t25 p31 q31
   obtain rfl:(⟨go34,0,none⟩:Addr)=ad31:=(by injection e31)
   replace hx31_0:=za_ hx31_0
   replace hx31_1:=za_ hx31_1
   replace hx31_2:=za_ hx31_2
   replace hx31_3:=za_ hx31_3
   replace hx31_4:=za_ hx31_4
   replace hx31_5:=za_ hx31_5
   replace hx31_6:=za_ hx31_6
   replace hx31_7:=za_ hx31_7
   replace hx31_8:=za_ hx31_8
   replace hx31_9:=za_ hx31_9
   replace hx31_10:=za_ hx31_10
   replace hx31_11:=za_ hx31_11
   replace p31:=eq_true p31
   replace q31:=eq_true q31
   have p32:0≤(t25:Int):=of_decide_eq_true zq_
   have q32:t25<(y30.length:Int):=(by have h_:(t25:Int)<((x8_1.length:Int):Int):=of_decide_eq_true zq_;first|(have e_:=(Kd.R_reads' HO_8.out).1;omega)|simpa only [Ny30.out,List.length_set] using h_)
   obtain ⟨ad32,e32,hx32_0,hx32_1,hx32_2,hx32_3,hx32_4,hx32_5,hx32_6,hx32_7,hx32_8,hx32_9,hx32_10,hx32_11⟩:=at_T31 (Kd.R_reads' HO_8.out).2.2 t25 p32 q32
   obtain rfl:(⟨go34,0,none⟩:Addr)=ad32:=(by injection e32)
   replace hx32_0:=za_ hx32_0
   replace hx32_1:=za_ hx32_1
   replace hx32_2:=za_ hx32_2
   replace hx32_3:=za_ hx32_3
   replace hx32_4:=za_ hx32_4
   replace hx32_5:=za_ hx32_5
   replace hx32_6:=za_ hx32_6
   replace hx32_7:=za_ hx32_7
   replace hx32_8:=za_ hx32_8
   replace hx32_9:=za_ hx32_9
   replace hx32_10:=za_ hx32_10
   replace hx32_11:=za_ hx32_11
   replace p32:=eq_true p32
   replace q32:=eq_true q32
   refine start_ (n:=12) (S:=fun w'=>w'.cell? ⟨go34,(t25).toNat*12,none⟩=some (.string ((rd_T31 y30 t25).f0))∧w'.cell? ⟨go34,(t25).toNat*12+1,none⟩=some (.string ((rd_T31 y30 t25).f1))∧w'.cell? ⟨go34,(t25).toNat*12+2,none⟩=some (.int .i64 ((rd_T31 y30 t25).f2.f0))∧w'.cell? ⟨go34,(t25).toNat*12+3,none⟩=some (.int .i64 ((rd_T31 y30 t25).f2.f1))∧w'.cell? ⟨go34,(t25).toNat*12+4,none⟩=some (.int .i64 ((rd_T31 y30 t25).f2.f2))∧w'.cell? ⟨go34,(t25).toNat*12+5,none⟩=some (.int .i64 ((rd_T31 y30 t25).f3.f0))∧w'.cell? ⟨go34,(t25).toNat*12+6,none⟩=some (.int .i64 ((rd_T31 y30 t25).f3.f1))∧w'.cell? ⟨go34,(t25).toNat*12+7,none⟩=some (.int .i64 ((rd_T31 y30 t25).f3.f2))∧w'.cell? ⟨go34,(t25).toNat*12+8,none⟩=some (.int .i64 ((rd_T31 y30 t25).f4.f0))∧w'.cell? ⟨go34,(t25).toNat*12+9,none⟩=some (.int .i64 ((rd_T31 y30 t25).f4.f1))∧w'.cell? ⟨go34,(t25).toNat*12+10,none⟩=some (.int .i64 ((rd_T31 y30 t25).f4.f2))∧w'.cell? ⟨go34,(t25).toNat*12+11,none⟩=some (.int .i64 ((rd_T31 y30 t25).f5))∧w'.cell? ⟨go34,(t25).toNat*12,none⟩=some (.string ((rd_T31 y30 t25).f0))∧w'.cell? ⟨go34,(t25).toNat*12+1,none⟩=some (.string ((rd_T31 y30 t25).f1))∧w'.cell? ⟨go34,(t25).toNat*12+2,none⟩=some (.int .i64 ((rd_T31 y30 t25).f2.f0))∧w'.cell? ⟨go34,(t25).toNat*12+3,none⟩=some (.int .i64 ((rd_T31 y30 t25).f2.f1))∧w'.cell? ⟨go34,(t25).toNat*12+4,none⟩=some (.int .i64 ((rd_T31 y30 t25).f2.f2))∧w'.cell? ⟨go34,(t25).toNat*12+5,none⟩=some (.int .i64 ((rd_T31 y30 t25).f3.f0))∧w'.cell? ⟨go34,(t25).toNat*12+6,none⟩=some (.int .i64 ((rd_T31 y30 t25).f3.f1))∧w'.cell? ⟨go34,(t25).toNat*12+7,none⟩=some (.int .i64 ((rd_T31 y30 t25).f3.f2))∧w'.cell? ⟨go34,(t25).toNat*12+8,none⟩=some (.int .i64 ((rd_T31 y30 t25).f4.f0))∧w'.cell? ⟨go34,(t25).toNat*12+9,none⟩=some (.int .i64 ((rd_T31 y30 t25).f4.f1))∧w'.cell? ⟨go34,(t25).toNat*12+10,none⟩=some (.int .i64 ((rd_T31 y30 t25).f4.f2))∧w'.cell? ⟨go34,(t25).toNat*12+11,none⟩=some (.int .i64 ((rd_T31 y30 t25).f5))) (ds:=[]) (bt_ 12 0) (by kernel_rfl) rfl rfl ⟨hx31_0,hx31_1,hx31_2,hx31_3,hx31_4,hx31_5,hx31_6,hx31_7,hx31_8,hx31_9,hx31_10,hx31_11,hx32_0,hx32_1,hx32_2,hx32_3,hx32_4,hx32_5,hx32_6,hx32_7,hx32_8,hx32_9,hx32_10,hx32_11⟩ (fun hHeld=> ?_);refine with_tabW r10_Admit.tab12 r10_Admit.bits12 (fun HT_ HW_=> ?_)
   generalize w49.drew=w50 at HO_7 HO_8 BK1 BK2 HB hx31_0 hx31_1 hx31_10 hx31_11 hx31_2 hx31_3 hx31_4 hx31_5 hx31_6 hx31_7 hx31_8 hx31_9 hx32_0 hx32_1 hx32_10 hx32_11 hx32_2 hx32_3 hx32_4 hx32_5 hx32_6 hx32_7 hx32_8 hx32_9 hHeld ⊢
   refine pu_ (i:=0) (N:=some 48) (bt_ 12 1) HT_ ?_
   refine pu_ (i:=1) (N:=some 49) (bt_ 12 3) HT_ ?_
   refine pu_ (i:=2) (N:=some 50) (bt_ 12 7) HT_ ?_
   refine pu_ (i:=3) (N:=some 51) (bt_ 12 15) HT_ ?_
   refine pu_ (i:=5) (N:=some 53) (bt_ 12 47) HT_ ?_
   refine pu_ (i:=6) (N:=some 54) (bt_ 12 111) HT_ ?_
   refine pu_ (i:=7) (N:=some 55) (bt_ 12 239) HT_ ?_
   refine pu_ (i:=8) (N:=some 56) (bt_ 12 495) HT_ ?_
   refine tk_ (i:=4) (N:=some 52) (bt_ 12 511) HT_ HW_ hHeld ?_
   refine tk_ (i:=9) (N:=some 57) (bt_ 12 1023) HT_ HW_ hHeld ?_
   refine on_ (i:=10) (N:=some 58) (bt_ 12 2047) HT_ (fun K hK=> ?_)
   refine gs_ Try.func34 #[.agg #[.int .i64 ((rd_T31 y30 t25).f4.f0), .int .i64 ((rd_T31 y30 t25).f4.f1), .int .i64 ((rd_T31 y30 t25).f4.f2)], .agg #[.int .i64 ((rd_T31 y30 t25).f2.f0), .int .i64 ((rd_T31 y30 t25).f2.f1), .int .i64 ((rd_T31 y30 t25).f2.f2)]] ?_
   with_reducible refine (r10_Le.calls ((rd_T31 y30 t25).f4.f0) ((rd_T31 y30 t25).f4.f1) ((rd_T31 y30 t25).f4.f2) ((rd_T31 y30 t25).f2.f0) ((rd_T31 y30 t25).f2.f1) ((rd_T31 y30 t25).f2.f2) false _ A35.out).mono ?_
   rintro e w51 ⟨rfl,hb⟩
   have HS0_:=zh_ hb (hHeld.1)
   have HS1_:=zh_ hb (hHeld.2.1)
   have HS2_:=zh_ hb (hHeld.2.2.1)
   have HS3_:=zh_ hb (hHeld.2.2.2.1)
   have HS4_:=zh_ hb (hHeld.2.2.2.2.1)
   have HS5_:=zh_ hb (hHeld.2.2.2.2.2.1)
   have HS6_:=zh_ hb (hHeld.2.2.2.2.2.2.1)
   have HS7_:=zh_ hb (hHeld.2.2.2.2.2.2.2.1)
   have HS8_:=zh_ hb (hHeld.2.2.2.2.2.2.2.2.1)
   have HS9_:=zh_ hb (hHeld.2.2.2.2.2.2.2.2.2.1)
   have HS10_:=zh_ hb (hHeld.2.2.2.2.2.2.2.2.2.2.1)
   have HS11_:=zh_ hb (hHeld.2.2.2.2.2.2.2.2.2.2.2.1)
   have HS12_:=zh_ hb (hHeld.2.2.2.2.2.2.2.2.2.2.2.2.1)
   have HS13_:=zh_ hb (hHeld.2.2.2.2.2.2.2.2.2.2.2.2.2.1)
   have HS14_:=zh_ hb (hHeld.2.2.2.2.2.2.2.2.2.2.2.2.2.2.1)
   have HS15_:=zh_ hb (hHeld.2.2.2.2.2.2.2.2.2.2.2.2.2.2.2.1)
   have HS16_:=zh_ hb (hHeld.2.2.2.2.2.2.2.2.2.2.2.2.2.2.2.2.1)
   have HS17_:=zh_ hb (hHeld.2.2.2.2.2.2.2.2.2.2.2.2.2.2.2.2.2.1)
   have HS18_:=zh_ hb (hHeld.2.2.2.2.2.2.2.2.2.2.2.2.2.2.2.2.2.2.1)
   have HS19_:=zh_ hb (hHeld.2.2.2.2.2.2.2.2.2.2.2.2.2.2.2.2.2.2.2.1)
   have HS20_:=zh_ hb (hHeld.2.2.2.2.2.2.2.2.2.2.2.2.2.2.2.2.2.2.2.2.1)
   have HS21_:=zh_ hb (hHeld.2.2.2.2.2.2.2.2.2.2.2.2.2.2.2.2.2.2.2.2.2.1)
   have HS22_:=zh_ hb (hHeld.2.2.2.2.2.2.2.2.2.2.2.2.2.2.2.2.2.2.2.2.2.2.1)
   have HS23_:=zh_ hb (hHeld.2.2.2.2.2.2.2.2.2.2.2.2.2.2.2.2.2.2.2.2.2.2.2)
   refine ⟨_,rfl, ?_⟩
   replace HO_7:=am_ (Kd.R_below (zr_ HO_7) hb)
   replace HO_8:=am_ (Kd.R_below (zr_ HO_8) hb)
   replace BK1:=am_ (blk_below (zb_ BK1) hb)
   replace BK2:=am_ (blk_below (zb_ BK2) hb)
   replace HB:=am_ (below_step (zl2_ HB GE1 GE2) hb)
   (try clear hb)
   (try clear hb2)
   (try clear hk)
   (try clear hi)
   refine hK.out _ _ ⟨HS0_,HS1_,HS2_,HS3_,HS4_,HS5_,HS6_,HS7_,HS8_,HS9_,HS10_,HS11_,HS12_,HS13_,HS14_,HS15_,HS16_,HS17_,HS18_,HS19_,HS20_,HS21_,HS22_,HS23_⟩ (fun hHeld=> ?_)
   clear hK K
   refine no_ (N:=some 58) ?_
   refine pu_ (i:=11) (N:=some 59) (bt_ 12 4095) HT_ ?_
   refine done_ (done_of HT_.out (by kernel_rfl)) ?_
   try go_wp2_with (first|((with_reducible refine gate_callee (f:=113) rfl ?_);refine gl_ (some 60) Try.func113 #[.int .i64 12] ?_;(with_reducible refine (r10_no.calls 12 t34 t37 _ A44.out).mono ?_);rintro e w52 ⟨v35,rfl,ho0,hb⟩;refine ⟨_,rfl, ?_⟩;replace HO_7:=am_ (Kd.R_below (zr_ HO_7) hb);have HO36:=am_ (Kd.R_lower (Kd.R_new' ho0 (Kd.R_lt (zr_ HO_8))) (below_size (zl2_ HB GE1 GE2)));replace HO_8:=am_ (Kd.R_elder' (zr_ HO_8) (Kd.R_base ho0) hb);replace BK1:=am_ (blk_below (zb_ BK1) hb);replace BK2:=am_ (blk_below (zb_ BK2) hb);replace HB:=am_ (below_step (zl2_ HB GE1 GE2) hb);(try clear hb);(try clear hb2);(try clear hk);(try clear hi);(try clear ho0);obtain ⟨Ao53,co53,eo53⟩:=Kd.R_slice HO36.out;subst eo53;obtain ⟨hcz55_0,hcz55_1⟩:=x2_ BK2;have hfz55_0:=blk_frozen BK2.out 0;have hfz55_1:=blk_frozen BK2.out 1))
   refine bodyPost_ret (results_cell_row rfl _ _ gb2 67 #[.slice Ao53 t34.length co53, .int .i64 t37] (0,0) _ rfl (zw_ BK2) Try.underlying67 rfl (by kernel_rfl)) rfl ?_
   exact ⟨_,by first|rfl|(simp [errW_none,errW_some]<;>rfl)|(simp [*,errW_none,errW_some]<;>rfl),zy_ HO36 BK2,zl2_ HB GE1 GE2⟩
mutual
def law12_Make.l0:Nat→List Int→List (S31)→Int→Option ((List (S31)))
 |0,_,_,_=>none
 |k+1,x0,x3,x4=>if (wrap64 (x4+2))<(x0.length:Int) then (law12_Make.j1 k x0 x3 x4 (decide ((x3.length:Int)<24))) else (law12_Make.j1 k x0 x3 x4 false)
def law12_Make.j1:Nat→List Int→List (S31)→Int→Bool→Option ((List (S31)))
 |0,_,_,_,_=>none
 |k+1,x0,x3,x4,x21=>if x21=true then (if 0≤x4 then (if x4<(x0.length:Int) then (if (x3.length:Int)>0 then (law12_Make.j2 k x0 x3 x4 (wrap64 (rd x0 x4)) (⟨#[]⟩:ByteArray) (decide ((Int.tmod (wrap64 (rd x0 x4)) 3)>0))) else (law12_Make.j2 k x0 x3 x4 (wrap64 (rd x0 x4)) (⟨#[]⟩:ByteArray) false)) else (none)) else (none)) else (some x3)
def law12_Make.j2:Nat→List Int→List (S31)→Int→Int→ByteArray→Bool→Option ((List (S31)))
 |0,_,_,_,_,_,_=>none
 |k+1,x0,x3,x4,x5,x6,x36=>if x36=true then (if (x3.length:Int)=0 then (none) else (if 0≤(Int.tmod (wrap64 (Int.tdiv x5 3)) (x3.length:Int)) then (if (Int.tmod (wrap64 (Int.tdiv x5 3)) (x3.length:Int))<(x3.length:Int) then (law12_Make.j3 k x0 x3 x4 ((rd_T31 x3 (Int.tmod (wrap64 (Int.tdiv x5 3)) (x3.length:Int))).f0)) else (none)) else (none))) else (law12_Make.j3 k x0 x3 x4 x6)
def law12_Make.j3:Nat→List Int→List (S31)→Int→ByteArray→Option ((List (S31)))
 |0,_,_,_,_=>none
 |k+1,x0,x3,x4,x6=>if 0≤(wrap64 (x4+1)) then (if (wrap64 (x4+1))<(x0.length:Int) then ((r10_Create.f k x3 (strOfNums (([(wrap64 (97+(Int.tmod (wrap64 ((x3.length:Int)*5)) 24))) % 256]:List Int))) x6 (wrap64 (20+(wrap64 (rd x0 (wrap64 (x4+1)))))) (wrap64 (20+(wrap64 (rd x0 (wrap64 (x4+1)))))) (wrap64 (20+(wrap64 (rd x0 (wrap64 (x4+1))))))).bind fun bt7=>(if bt7.2=0 then (if 0≤(wrap64 (x4+2)) then (if (wrap64 (x4+2))<(x0.length:Int) then (if (bt7.1.length:Int)=0 then (none) else (if 0≤(Int.tmod (wrap64 (Int.tdiv (wrap64 (rd x0 (wrap64 (x4+2)))) 16)) (bt7.1.length:Int)) then (if (Int.tmod (wrap64 (Int.tdiv (wrap64 (rd x0 (wrap64 (x4+2)))) 16)) (bt7.1.length:Int))<(bt7.1.length:Int) then ((r10_Admit.f k bt7.1 ((rd_T31 bt7.1 (Int.tmod (wrap64 (Int.tdiv (wrap64 (rd x0 (wrap64 (x4+2)))) 16)) (bt7.1.length:Int))).f0) (Int.tmod (wrap64 (rd x0 (wrap64 (x4+2)))) 16) (wrap64 (Int.tdiv (Int.tmod (wrap64 (rd x0 (wrap64 (x4+2)))) 16) 2)) (Int.tmod (Int.tmod (wrap64 (rd x0 (wrap64 (x4+2)))) 16) 3)).bind fun bt15=>(if bt15.2=0 then (law12_Make.l0 k x0 bt15.1 (wrap64 (x4+3))) else (law12_Make.l0 k x0 bt7.1 (wrap64 (x4+3))))) else (none)) else (none))) else (none)) else (none)) else (law12_Make.l0 k x0 x3 (wrap64 (x4+3))))) else (none)) else (none)
end
def law12_Make.f (k:Nat) (l0:List Int):Option ((List (S31))):=law12_Make.l0 k l0 ([]:List (S31)) 0
theorem law12_Make.mono_l: ∀k,(∀y0 y1 y2,LeO (law12_Make.l0 k y0 y1 y2) (law12_Make.l0 (k+1) y0 y1 y2))∧(∀y0 y1 y2 y3,LeO (law12_Make.j1 k y0 y1 y2 y3) (law12_Make.j1 (k+1) y0 y1 y2 y3))∧(∀y0 y1 y2 y3 y4 y5,LeO (law12_Make.j2 k y0 y1 y2 y3 y4 y5) (law12_Make.j2 (k+1) y0 y1 y2 y3 y4 y5))∧(∀y0 y1 y2 y3,LeO (law12_Make.j3 k y0 y1 y2 y3) (law12_Make.j3 (k+1) y0 y1 y2 y3))
 |0=>⟨fun _ _ _ r h=>by simp [law12_Make.l0] at h,fun _ _ _ _ r h=>by simp [law12_Make.j1] at h,fun _ _ _ _ _ _ r h=>by simp [law12_Make.j2] at h,fun _ _ _ _ r h=>by simp [law12_Make.j3] at h⟩
 |k+1=>by
  obtain ⟨ih0,ih1,ih2,ih3⟩:=law12_Make.mono_l k
  refine ⟨?_, ?_, ?_, ?_⟩
  ·intro y0 y1 y2
   unfold law12_Make.l0
   repeat' first
   |(with_reducible exact ih0 _ _ _)
   |(with_reducible exact ih1 _ _ _ _)
   |(with_reducible exact ih2 _ _ _ _ _ _)
   |(with_reducible exact ih3 _ _ _ _)
   |(with_reducible exact r10_Admit.mono _ _ _ _ _ _)
   |(with_reducible exact r10_Create.mono _ _ _ _ _ _ _)
   |(with_reducible exact LeO.refl _)
   |(with_reducible exact LeO.none _)
   |(with_reducible refine LeO.ite ?_ ?_)
   |(with_reducible refine LeO.bind ?_ (fun _=> ?_))
   |exact ih0 _ _ _
   |exact ih1 _ _ _ _
   |exact ih2 _ _ _ _ _ _
   |exact ih3 _ _ _ _
   |exact r10_Admit.mono _ _ _ _ _ _
   |exact r10_Create.mono _ _ _ _ _ _ _
   |exact LeO.none _
   |refine LeO.ite ?_ ?_
   |refine LeO.bind ?_ (fun _=> ?_)
  ·intro y0 y1 y2 y3
   unfold law12_Make.j1
   repeat' first
   |(with_reducible exact ih0 _ _ _)
   |(with_reducible exact ih1 _ _ _ _)
   |(with_reducible exact ih2 _ _ _ _ _ _)
   |(with_reducible exact ih3 _ _ _ _)
   |(with_reducible exact r10_Admit.mono _ _ _ _ _ _)
   |(with_reducible exact r10_Create.mono _ _ _ _ _ _ _)
   |(with_reducible exact LeO.refl _)
   |(with_reducible exact LeO.none _)
   |(with_reducible refine LeO.ite ?_ ?_)
   |(with_reducible refine LeO.bind ?_ (fun _=> ?_))
   |exact ih0 _ _ _
   |exact ih1 _ _ _ _
   |exact ih2 _ _ _ _ _ _
   |exact ih3 _ _ _ _
   |exact r10_Admit.mono _ _ _ _ _ _
   |exact r10_Create.mono _ _ _ _ _ _ _
   |exact LeO.none _
   |refine LeO.ite ?_ ?_
   |refine LeO.bind ?_ (fun _=> ?_)
  ·intro y0 y1 y2 y3 y4 y5
   unfold law12_Make.j2
   repeat' first
   |(with_reducible exact ih0 _ _ _)
   |(with_reducible exact ih1 _ _ _ _)
   |(with_reducible exact ih2 _ _ _ _ _ _)
   |(with_reducible exact ih3 _ _ _ _)
   |(with_reducible exact r10_Admit.mono _ _ _ _ _ _)
   |(with_reducible exact r10_Create.mono _ _ _ _ _ _ _)
   |(with_reducible exact LeO.refl _)
   |(with_reducible exact LeO.none _)
   |(with_reducible refine LeO.ite ?_ ?_)
   |(with_reducible refine LeO.bind ?_ (fun _=> ?_))
   |exact ih0 _ _ _
   |exact ih1 _ _ _ _
   |exact ih2 _ _ _ _ _ _
   |exact ih3 _ _ _ _
   |exact r10_Admit.mono _ _ _ _ _ _
   |exact r10_Create.mono _ _ _ _ _ _ _
   |exact LeO.none _
   |refine LeO.ite ?_ ?_
   |refine LeO.bind ?_ (fun _=> ?_)
  intro y0 y1 y2 y3
  unfold law12_Make.j3
  repeat' first
  |(with_reducible exact ih0 _ _ _)
  |(with_reducible exact ih1 _ _ _ _)
  |(with_reducible exact ih2 _ _ _ _ _ _)
  |(with_reducible exact ih3 _ _ _ _)
  |(with_reducible exact r10_Admit.mono _ _ _ _ _ _)
  |(with_reducible exact r10_Create.mono _ _ _ _ _ _ _)
  |(with_reducible exact LeO.refl _)
  |(with_reducible exact LeO.none _)
  |(with_reducible refine LeO.ite ?_ ?_)
  |(with_reducible refine LeO.bind ?_ (fun _=> ?_))
  |exact ih0 _ _ _
  |exact ih1 _ _ _ _
  |exact ih2 _ _ _ _ _ _
  |exact ih3 _ _ _ _
  |exact r10_Admit.mono _ _ _ _ _ _
  |exact r10_Create.mono _ _ _ _ _ _ _
  |exact LeO.none _
  |refine LeO.ite ?_ ?_
  |refine LeO.bind ?_ (fun _=> ?_)
theorem law12_Make.mono: ∀a0 k,LeO (law12_Make.f k a0) (law12_Make.f (k+1) a0):=by
 intro a0 k
 obtain ⟨ih0,ih1,ih2,ih3⟩:=law12_Make.mono_l k
 unfold law12_Make.f
 repeat' first
  |(with_reducible exact ih0 _ _ _)
  |(with_reducible exact ih1 _ _ _ _)
  |(with_reducible exact ih2 _ _ _ _ _ _)
  |(with_reducible exact ih3 _ _ _ _)
  |(with_reducible exact r10_Admit.mono _ _ _ _ _ _)
  |(with_reducible exact r10_Create.mono _ _ _ _ _ _ _)
  |(with_reducible exact LeO.refl _)
  |(with_reducible exact LeO.none _)
  |(with_reducible refine LeO.ite ?_ ?_)
  |(with_reducible refine LeO.bind ?_ (fun _=> ?_))
  |exact ih0 _ _ _
  |exact ih1 _ _ _ _
  |exact ih2 _ _ _ _ _ _
  |exact ih3 _ _ _ _
  |exact r10_Admit.mono _ _ _ _ _ _
  |exact r10_Create.mono _ _ _ _ _ _ _
  |exact LeO.none _
  |refine LeO.ite ?_ ?_
  |refine LeO.bind ?_ (fun _=> ?_)
set_option maxHeartbeats 8000000 in
set_option maxRecDepth 100000 in
theorem law12_Make.calls (k:Nat) (A0:Option Addr) (c0:Nat) (l0:List Int) (r:List (S31)) (w:World) (hr0:Kd.C (Kd.int .u8) w A0 l0.length l0) (hc0:l0.length≤c0) (h:law12_Make.f k l0=some r):
  Calls Try.prog 32 #[.slice A0 l0.length c0] w fun e w'=> ∃v0_:Value,e= .returned (v0_)∧Kd.R k31 31 w' w.heap.size (fun _=>True) v0_ r∧Below w.heap.size w w':=by
 have HR0:=Aside0.mk hr0
 clear hr0 hc0
 have HB:=am_ (Below.refl w.heap.size w)
 have H:(law12_Make.l0 k l0 ([]:List (S31)) 0)=some r:=h
 clear h
 have H':=Aside0.mk H
 clear H
 go_enter Try.func32,Try.ntmps32
 go_wp2
 go_loopg [3,4] k (fun kq v3 v4 w'=> ∃(x3_1:List (S31)) (x4_1:Int),v4= .int .i64 x4_1∧Aside0 (law12_Make.l0 kq l0 x3_1 x4_1=some r)∧Aside0 (kq≤k)∧Aside0 (Kd.R k31 31 w' w.heap.size (fun _=>True) v3 x3_1)∧Aside0 (Below w.heap.size w w'))
 case atStart=>exact ⟨(([]:List (S31))),(0),(by first|rfl|(simp;done)|(simp [*];done)),H',⟨Nat.le_refl _⟩,⟨by first|exact Kd.R_nil _ _ _ _ _|exact Kd.N_nil _ _ _ _ _|exact Kd.V_nil _ _ _ _ _|exact Kd.Q_nil _ _ _ _ _|exact Kd.S_nil _ _ _ _ _⟩,⟨zl0_ HB⟩⟩
 case round=>
  clear H'
  obtain ⟨x3_1,x4_1,rfl,HA,HK1,HO_3,HB⟩:=hrel
  cases gk with
  |zero=>exact absurd HA.out (by simp [law12_Make.l0])
  |succ k1=>
   have H:=HA.out
   clear HA
   simp only [law12_Make.l0] at H
   have HC2:=Aside0.mk H
   clear H
   go_upto_region 3 with (fail)
   go_cut [21] (fun v21 wc=> ∃(kq:Nat) (x21_1:Bool),v21= .bool x21_1∧Aside0 (law12_Make.j1 kq l0 x3_1 x4_1 x21_1=some r)∧Aside0 (kq≤k1)∧Aside0 (Kd.R k31 31 wc w.heap.size (fun _=>True) u3 x3_1)∧Aside0 (Below w.heap.size w wc))
   case first=>
    have H:=HC2.out
    clear HC2
    by_cases c3:(wrap64 (x4_1+2))<(l0.length:Int)
    rotate_left
    ·rw [if_neg c3] at H
     have c3b0:decide ((wrap64 (x4_1+2))<(l0.length:Int))=false:=decide_eq_false c3
     clear c3
     (first|rw [c3b0]|(simp only [i64_w,i32_w];rw [c3b0])|skip)
     have H':=Aside0.mk H
     clear H
     go_wp2
     go_meet
     case rel=>exact ⟨_,(false),(by first|rfl|(simp;done)|(simp [*];done)),H',⟨by have:=HK1.out;first|omega|exact Nat.le_refl _⟩,⟨by (with_reducible repeat (first|apply Kd.R_alloc|apply Kd.R_drewN|apply Kd.R_drew));exact HO_3.out⟩,⟨zl0_ HB⟩⟩
    rw [if_pos c3] at H
    have c3b0:decide ((wrap64 (x4_1+2))<(l0.length:Int))=true:=decide_eq_true c3
    clear c3
    (first|rw [c3b0]|(simp only [i64_w,i32_w];rw [c3b0])|skip)
    have H':=Aside0.mk H
    clear H
    obtain ⟨Ao4,co4,eo4⟩:=Kd.R_slice HO_3.out
    subst eo4
    go_wp2
    go_meet
    case rel=>exact ⟨_,(decide ((x3_1.length:Int)<24)),(by first|rfl|(simp;done)|(simp [*];done)),H',⟨by have:=HK1.out;first|omega|exact Nat.le_refl _⟩,⟨by (with_reducible repeat (first|apply Kd.R_alloc|apply Kd.R_drewN|apply Kd.R_drew));exact HO_3.out⟩,⟨zl0_ HB⟩⟩
   case rest=>
    clear HC2
    try clear p2
    try clear c3
    try clear c3b0
    obtain ⟨kq,x21_1,rfl,HA,HJ1,HO_3,HB⟩:=hcut
    cases kq with
    |zero=>exact absurd HA.out (by simp [law12_Make.j1])
    |succ kj1=>
     have H:=HA.out
     clear HA
     simp only [law12_Make.j1] at H
     by_cases c5:x21_1=true
     rotate_left
     ·replace c5:=Bool.eq_false_iff.mpr c5
      subst c5
      have H1:(some x3_1)=some r:=by rw [if_neg (show¬(false=true) by decide)] at H;exact H
      clear H
      have H:=H1
      clear H1
      obtain rfl:=Option.some.inj H
      go_wp2
      go_ret
      exact ⟨_,by first|rfl|(simp [errW_none,errW_some]<;>rfl)|(simp [*,errW_none,errW_some]<;>rfl),by (with_reducible repeat (first|apply Kd.R_alloc|apply Kd.R_drewN|apply Kd.R_drew));exact HO_3.out,zl0_ HB⟩

     subst c5
     have H1:(if 0≤x4_1 then (if x4_1<(l0.length:Int) then (if (x3_1.length:Int)>0 then (law12_Make.j2 kj1 l0 x3_1 x4_1 (wrap64 (rd l0 x4_1)) (⟨#[]⟩:ByteArray) (decide ((Int.tmod (wrap64 (rd l0 x4_1)) 3)>0))) else (law12_Make.j2 kj1 l0 x3_1 x4_1 (wrap64 (rd l0 x4_1)) (⟨#[]⟩:ByteArray) false)) else (none)) else (none))=some r:=by rw [if_pos rfl] at H;exact H
     clear H
     have H:=H1
     clear H1
     by_cases c6:0≤x4_1
     rotate_left
     ·rw [if_neg c6] at H
      exact absurd H (by simp)
     rw [if_pos c6] at H
     have c6b0:decide (0≤x4_1)=true:=decide_eq_true c6
     clear c6
     by_cases c7:x4_1<(l0.length:Int)
     rotate_left
     ·rw [if_neg c7] at H
      exact absurd H (by simp)
     rw [if_pos c7] at H
     have c7b0:decide (x4_1<(l0.length:Int))=true:=decide_eq_true c7
     clear c7
     have HC8:=Aside0.mk H
     clear H
     have p1:0≤(x4_1:Int):=of_decide_eq_true zq_
     have q1:x4_1<(l0.length:Int):=of_decide_eq_true zq_
     obtain ⟨ad1,e1,hx1_0⟩:=Kd.at_int HR0.out x4_1 p1 q1
     cases e1
     replace hx1_0:=zx_ HB hx1_0
     replace p1:=eq_true p1
     replace q1:=eq_true q1
     go_upto_region 7 with (fail)
     go_cut [36] (fun v36 wc=> ∃(kq:Nat) (x36_7:Bool),v36= .bool x36_7∧Aside0 (law12_Make.j2 kq l0 x3_1 x4_1 (wrap64 (rd l0 x4_1)) (⟨#[]⟩:ByteArray) x36_7=some r)∧Aside0 (kq≤kj1)∧Aside0 (Kd.R k31 31 wc w.heap.size (fun _=>True) u3 x3_1)∧Aside0 (Below w.heap.size w wc))
     case first=>
      have H:=HC8.out
      clear HC8
      by_cases c9:(x3_1.length:Int)>0
      ·rw [if_pos c9] at H
       have c9b0:decide (0<(x3_1.length:Int))=true:=decide_eq_true c9
       have c9b1:decide (0<x3_1.length)=true:=decide_eq_true (by omega)
       clear c9
       (first|rw [c9b0]|(simp only [i64_w,i32_w];rw [c9b0])|skip)
       have H':=Aside0.mk H
       clear H
       obtain ⟨Ao10,co10,eo10⟩:=Kd.R_slice HO_3.out
       subst eo10
       go_wp2
       go_meet
       case rel=>exact ⟨_,(decide ((Int.tmod (wrap64 (rd l0 x4_1)) 3)>0)),(by first|rfl|(simp;done)|(simp [*];done)),H',⟨by have:=HK1.out;have:=HJ1.out;first|omega|exact Nat.le_refl _⟩,⟨by (with_reducible repeat (first|apply Kd.R_alloc|apply Kd.R_drewN|apply Kd.R_drew));exact HO_3.out⟩,⟨zl0_ HB⟩⟩
      rw [if_neg c9] at H
      have c9b0:decide (0<(x3_1.length:Int))=false:=decide_eq_false c9
      have c9b1:decide (0<x3_1.length)=false:=decide_eq_false (by omega)
      clear c9
      (first|rw [c9b0]|(simp only [i64_w,i32_w];rw [c9b0])|skip)
      have H':=Aside0.mk H
      clear H
      obtain ⟨Ao11,co11,eo11⟩:=Kd.R_slice HO_3.out
      subst eo11
      go_wp2
      go_meet
      case rel=>exact ⟨_,(false),(by first|rfl|(simp;done)|(simp [*];done)),H',⟨by have:=HK1.out;have:=HJ1.out;first|omega|exact Nat.le_refl _⟩,⟨by (with_reducible repeat (first|apply Kd.R_alloc|apply Kd.R_drewN|apply Kd.R_drew));exact HO_3.out⟩,⟨zl0_ HB⟩⟩
     case rest=>
      clear HC8
      try clear p1
      try clear q1
      try clear hx1
      try clear p2
      try clear c3
      try clear c3b0
      try clear c5
      try clear c6
      try clear c6b0
      try clear p6
      try clear c7
      try clear c7b0
      try clear c9
      try clear c9b0
      try clear c9b1
      try clear hx1_0
      try clear p1
      try clear p2
      try clear q1
      obtain ⟨kq,x36_7,rfl,HA,HJ7,HO_3,HB⟩:=hcut
      cases kq with
      |zero=>exact absurd HA.out (by simp [law12_Make.j2])
      |succ kj7=>
       have H:=HA.out
       clear HA
       simp only [law12_Make.j2] at H
       have HC12:=Aside0.mk H
       clear H
       go_upto_if 36 with (fail)
       go_cut [6] (fun v6 wc=> ∃(kq:Nat) (x6_11:ByteArray),v6= .string x6_11∧Aside0 (law12_Make.j3 kq l0 x3_1 x4_1 x6_11=some r)∧Aside0 (kq≤kj7)∧Aside0 (Kd.R k31 31 wc w.heap.size (fun _=>True) u3 x3_1)∧Aside0 (Below w.heap.size w wc))
       case first=>
        have H:=HC12.out
        clear HC12
        by_cases c13:x36_7=true
        rotate_left
        ·replace c13:=Bool.eq_false_iff.mpr c13
         subst c13
         have H1:(law12_Make.j3 kj7 l0 x3_1 x4_1 (⟨#[]⟩:ByteArray))=some r:=by rw [if_neg (show¬(false=true) by decide)] at H;exact H
         clear H
         have H:=H1
         clear H1
         have H':=Aside0.mk H
         clear H
         go_wp2
         go_meet
         case rel=>exact ⟨_,((⟨#[]⟩:ByteArray)),(by first|rfl|(simp;done)|(simp [*];done)),H',⟨by have:=HK1.out;have:=HJ1.out;have:=HJ7.out;first|omega|exact Nat.le_refl _⟩,⟨by (with_reducible repeat (first|apply Kd.R_alloc|apply Kd.R_drewN|apply Kd.R_drew));exact HO_3.out⟩,⟨zl0_ HB⟩⟩
        subst c13
        have H1:(if (x3_1.length:Int)=0 then (none) else (if 0≤(Int.tmod (wrap64 (Int.tdiv (wrap64 (rd l0 x4_1)) 3)) (x3_1.length:Int)) then (if (Int.tmod (wrap64 (Int.tdiv (wrap64 (rd l0 x4_1)) 3)) (x3_1.length:Int))<(x3_1.length:Int) then (law12_Make.j3 kj7 l0 x3_1 x4_1 ((rd_T31 x3_1 (Int.tmod (wrap64 (Int.tdiv (wrap64 (rd l0 x4_1)) 3)) (x3_1.length:Int))).f0)) else (none)) else (none)))=some r:=by rw [if_pos rfl] at H;exact H
        clear H
        have H:=H1
        clear H1
        by_cases c14:(x3_1.length:Int)=0
        ·rw [if_pos c14] at H
         exact absurd H (by simp)
        rw [if_neg c14] at H
        have c14b0:((x3_1.length:Int)==0)=false:=beq_eq_false_iff_ne.mpr c14
        have c14b2: ¬(x3_1=[]):=fun h_=>c14 (by rw [h_];rfl)
        (first|rw [c14b0]|(simp only [i64_w,i32_w];rw [c14b0])|skip)
        obtain ⟨ji15,hji15⟩: ∃j_:Int,(Int.tmod (wrap64 (Int.tdiv (wrap64 (rd l0 x4_1)) 3)) (x3_1.length:Int))=j_:=⟨_,rfl⟩
        replace H:(if 0≤(ji15) then (if (ji15)<(x3_1.length:Int) then (law12_Make.j3 kj7 l0 x3_1 x4_1 ((rd_T31 x3_1 (ji15)).f0)) else (none)) else (none))=some r:=by first|(rw [hji15] at H;exact H)|(simp only [hji15] at H ⊢;exact H)
        by_cases c16:0≤(ji15)
        rotate_left
        ·rw [if_neg c16] at H
         exact absurd H (by simp)
        rw [if_pos c16] at H
        have c16b0:decide (0≤(ji15))=true:=decide_eq_true c16
        clear c16
        by_cases c17:(ji15)<(x3_1.length:Int)
        rotate_left
        ·rw [if_neg c17] at H
         exact absurd H (by simp)
        rw [if_pos c17] at H
        have c17b0:decide ((ji15)<(x3_1.length:Int))=true:=decide_eq_true c17
        clear c17
        have H':=Aside0.mk H
        clear H
        obtain ⟨Ao18,co18,eo18⟩:=Kd.R_slice HO_3.out
        subst eo18
        have p2:0≤((ji15):Int):=of_decide_eq_true zq_
        have q2:(ji15)<(x3_1.length:Int):=of_decide_eq_true zq_
        obtain ⟨ad2,e2,hx2_0,hx2_1,hx2_2,hx2_3,hx2_4,hx2_5,hx2_6,hx2_7,hx2_8,hx2_9,hx2_10,hx2_11⟩:=at_T31 (Kd.R_reads' HO_3.out).2.2 (ji15) p2 q2
        cases e2
        replace p2:=eq_true p2
        replace q2:=eq_true q2
        go_wp2
        go_meet
        case rel=>exact ⟨_,((rd_T31 x3_1 (ji15)).f0),(by first|rfl|(simp;done)|(simp only [←hji15]<;>(first|rfl|simp))|(simp [*];done)),H',⟨by have:=HK1.out;have:=HJ1.out;have:=HJ7.out;first|omega|exact Nat.le_refl _⟩,⟨by (with_reducible repeat (first|apply Kd.R_alloc|apply Kd.R_drewN|apply Kd.R_drew));exact HO_3.out⟩,⟨zl0_ HB⟩⟩
       case rest=>
        clear HC12
        try clear c1
        try clear p1
        try clear q1
        try clear hx1
        try clear p2
        try clear q2
        try clear hx2
        try clear c3
        try clear c3b0
        try clear c5
        try clear c6
        try clear c6b0
        try clear p6
        try clear c7
        try clear c7b0
        try clear c9
        try clear c9b0
        try clear c9b1
        try clear c13
        try clear c14
        try clear c14b0
        try clear c14b2
        try clear c16
        try clear c16b0
        try clear c17
        try clear c17b0
        try clear hx1_0
        try clear hx2_0
        try clear hx2_1
        try clear hx2_10
        try clear hx2_11
        try clear hx2_2
        try clear hx2_3
        try clear hx2_4
        try clear hx2_5
        try clear hx2_6
        try clear hx2_7
        try clear hx2_8
        try clear hx2_9
        try clear p1
        try clear p2
        try clear p6
        try clear q1
        try clear q2
        obtain ⟨kq,x6_11,rfl,HA,HJ11,HO_3,HB⟩:=hcut
        cases kq with
        |zero=>exact absurd HA.out (by simp [law12_Make.j3])
        |succ kj11=>
         have H:=HA.out
         clear HA
         simp only [law12_Make.j3] at H
         obtain ⟨ji19,hji19⟩: ∃j_:Int,(wrap64 (x4_1+1))=j_:=⟨_,rfl⟩
         replace H:(if 0≤(ji19) then (if (ji19)<(l0.length:Int) then ((r10_Create.f kj11 x3_1 (strOfNums (([(wrap64 (97+(Int.tmod (wrap64 ((x3_1.length:Int)*5)) 24))) % 256]:List Int))) x6_11 (wrap64 (20+(wrap64 (rd l0 (ji19))))) (wrap64 (20+(wrap64 (rd l0 (ji19))))) (wrap64 (20+(wrap64 (rd l0 (ji19)))))).bind fun bt7=>(if bt7.2=0 then (if 0≤(wrap64 (x4_1+2)) then (if (wrap64 (x4_1+2))<(l0.length:Int) then (if (bt7.1.length:Int)=0 then (none) else (if 0≤(Int.tmod (wrap64 (Int.tdiv (wrap64 (rd l0 (wrap64 (x4_1+2)))) 16)) (bt7.1.length:Int)) then (if (Int.tmod (wrap64 (Int.tdiv (wrap64 (rd l0 (wrap64 (x4_1+2)))) 16)) (bt7.1.length:Int))<(bt7.1.length:Int) then ((r10_Admit.f kj11 bt7.1 ((rd_T31 bt7.1 (Int.tmod (wrap64 (Int.tdiv (wrap64 (rd l0 (wrap64 (x4_1+2)))) 16)) (bt7.1.length:Int))).f0) (Int.tmod (wrap64 (rd l0 (wrap64 (x4_1+2)))) 16) (wrap64 (Int.tdiv (Int.tmod (wrap64 (rd l0 (wrap64 (x4_1+2)))) 16) 2)) (Int.tmod (Int.tmod (wrap64 (rd l0 (wrap64 (x4_1+2)))) 16) 3)).bind fun bt15=>(if bt15.2=0 then (law12_Make.l0 kj11 l0 bt15.1 (wrap64 (x4_1+3))) else (law12_Make.l0 kj11 l0 bt7.1 (wrap64 (x4_1+3))))) else (none)) else (none))) else (none)) else (none)) else (law12_Make.l0 kj11 l0 x3_1 (wrap64 (x4_1+3))))) else (none)) else (none))=some r:=by first|(rw [hji19] at H;exact H)|(simp only [hji19] at H ⊢;exact H)
         have hji19w:(IntKind.i64.wrap (x4_1+1))=ji19:=(i64_w _).trans hji19
         by_cases c20:0≤(ji19)
         rotate_left
         ·rw [if_neg c20] at H
          exact absurd H (by simp)
         rw [if_pos c20] at H
         have c20b0:decide (0≤(ji19))=true:=decide_eq_true c20
         clear c20
         by_cases c21:(ji19)<(l0.length:Int)
         rotate_left
         ·rw [if_neg c21] at H
          exact absurd H (by simp)
         rw [if_pos c21] at H
         have c21b0:decide ((ji19)<(l0.length:Int))=true:=decide_eq_true c21
         clear c21
         obtain ⟨y4,hy4⟩: ∃y_:List Int,y_=(([(wrap64 (97+(Int.tmod (wrap64 ((x3_1.length:Int)*5)) 24))) % 256]:List Int)):=⟨_,rfl⟩
         replace H:((r10_Create.f kj11 x3_1 (strOfNums y4) x6_11 (wrap64 (20+(wrap64 (rd l0 (ji19))))) (wrap64 (20+(wrap64 (rd l0 (ji19))))) (wrap64 (20+(wrap64 (rd l0 (ji19)))))).bind fun bt7=>(if bt7.2=0 then (if 0≤(wrap64 (x4_1+2)) then (if (wrap64 (x4_1+2))<(l0.length:Int) then (if (bt7.1.length:Int)=0 then (none) else (if 0≤(Int.tmod (wrap64 (Int.tdiv (wrap64 (rd l0 (wrap64 (x4_1+2)))) 16)) (bt7.1.length:Int)) then (if (Int.tmod (wrap64 (Int.tdiv (wrap64 (rd l0 (wrap64 (x4_1+2)))) 16)) (bt7.1.length:Int))<(bt7.1.length:Int) then ((r10_Admit.f kj11 bt7.1 ((rd_T31 bt7.1 (Int.tmod (wrap64 (Int.tdiv (wrap64 (rd l0 (wrap64 (x4_1+2)))) 16)) (bt7.1.length:Int))).f0) (Int.tmod (wrap64 (rd l0 (wrap64 (x4_1+2)))) 16) (wrap64 (Int.tdiv (Int.tmod (wrap64 (rd l0 (wrap64 (x4_1+2)))) 16) 2)) (Int.tmod (Int.tmod (wrap64 (rd l0 (wrap64 (x4_1+2)))) 16) 3)).bind fun bt15=>(if bt15.2=0 then (law12_Make.l0 kj11 l0 bt15.1 (wrap64 (x4_1+3))) else (law12_Make.l0 kj11 l0 bt7.1 (wrap64 (x4_1+3))))) else (none)) else (none))) else (none)) else (none)) else (law12_Make.l0 kj11 l0 x3_1 (wrap64 (x4_1+3)))))=some r:=by first|(rw [hy4];with_reducible exact H)|(have H2_:=(Option.bind_some _ _).symm.trans H;rw [hy4];with_reducible exact H2_)|(have H2_:=(Option.bind_some _ _).symm.trans H;with_reducible exact H2_)|with_reducible exact H|(rw [hy4];exact H)|exact H
         have Ny4:=Aside0.mk hy4
         clear hy4
         replace H:=Option.bind_eq_some_iff.mp H
         obtain ⟨⟨t7,t10⟩,A220,H⟩:=H
         try dsimp only at H
         have A22:=Aside0.mk A220
         clear A220
         by_cases c23:t10=0
         rotate_left
         ·rw [if_neg c23] at H
          have c23b1:(t10 !=0)=true:=bne_iff_ne.mpr c23
          have H':=Aside0.mk H
          clear H
          have p3:0≤((ji19):Int):=of_decide_eq_true zq_
          have q3:(ji19)<(l0.length:Int):=of_decide_eq_true zq_
          obtain ⟨ad3,e3,hx3_0⟩:=Kd.at_int HR0.out (ji19) p3 q3
          obtain rfl:ad1=ad3:=(by injection e3)
          replace hx3_0:=zx_ HB hx3_0
          replace p3:=eq_true p3
          replace q3:=eq_true q3
          obtain ⟨Ao59,co59,eo59⟩:=Kd.R_slice HO_3.out
          subst eo59
          go_wp2_with (first|((with_reducible refine gate_dst (N:=60) rfl ?_);(try (refine gate_guard (by rfl) ?_;dsimp only));refine Kd.R_lit (Kd.int .u8) _ 5 ?hg (N:=60) ?hd (xs:=([(wrap64 (97+(Int.tmod (wrap64 ((x3_1.length:Int)*5)) 24))) % 256]:List Int)) (inner:=[.int .u8 ((wrap64 (97+(Int.tmod (wrap64 ((x3_1.length:Int)*5)) 24))) % 256)]) (ok:=fun _=>True) (okp:=fun _=>True) ?hr ?hp (fun _ hk=>hk) trivial (Below.refl _ _) (Nat.le_refl _) (by simp) ?_;(case hd=>rfl);(case hg=>rfl);(case hr=>first|(go_simp;done)|(go_simp;rfl));(case hp=>exact (Reps.one (show Kd.M (Kd.int .u8) _ _ _ ((wrap64 (97+(Int.tmod (wrap64 ((x3_1.length:Int)*5)) 24))) % 256) [.int .u8 ((wrap64 (97+(Int.tmod (wrap64 ((x3_1.length:Int)*5)) 24))) % 256)] from rfl) (Reps.none _ _)));intro v5 w60 ho61 hb hg_ hnew_;clear hg_ hnew_;(first|rw [←Ny4.out] at ho61|(simp only [Int.reduceToNat] at ho61;rw [←Ny4.out] at ho61));replace HO_3:=am_ (Kd.R_below (zr_ HO_3) hb);have HO6:=am_ (Kd.R_lower ho61 (below_size (zl0_ HB)));replace HB:=am_ (below_step (zl0_ HB) hb);clear hb ho61;have hcv62:=own_string (P:=Try.prog) Try.underlying22 Try.underlying5 Try.underlying9 (Kd.own_of_R HO6.out))|((with_reducible refine gate_callee (f:=83) rfl ?_);refine goesL_ (some 67) rfl rfl Try.func83 (by kernel_rfl) rfl #[.slice Ao59 x3_1.length co59, .string (strOfNums y4), .string x6_11, .agg #[.int .i64 (wrap64 (20+(wrap64 (rd l0 (ji19))))), .int .i64 (wrap64 (20+(wrap64 (rd l0 (ji19))))), .int .i64 (wrap64 (20+(wrap64 (rd l0 (ji19)))))]] rfl (by (try simp only [List.map_toArray,List.map_cons,List.map_nil]);first|done|(simp only [hji19];rfl)|rfl|(simp only [List.length_drop,List.length_take];rfl)) ?_;(with_reducible refine (r10_Create.calls kj11 _ _ x3_1 (strOfNums y4) x6_11 (wrap64 (20+(wrap64 (rd l0 (ji19))))) (wrap64 (20+(wrap64 (rd l0 (ji19))))) (wrap64 (20+(wrap64 (rd l0 (ji19))))) t7 t10 _ ?side1 ?side2 A22.out).mono ?_);(case side1=>exact zc_ (Kd.R_reads' HO_3.out).2.2);(case side2=>exact (Kd.R_reads' HO_3.out).2.1);rintro e w63 ⟨v8,rfl,ho0,hb⟩;refine ⟨_,rfl, ?_⟩;replace HO6:=am_ (Kd.R_below (zr_ HO6) hb);have HO9:=am_ (Kd.R_lower (Kd.R_new' ho0 (Kd.R_lt (zr_ HO_3))) (below_size (zl0_ HB)));replace HO_3:=am_ (Kd.R_elder' (zr_ HO_3) (Kd.R_base ho0) hb);replace HB:=am_ (below_step (zl0_ HB) hb);(try clear hb);(try clear hb2);(try clear hk);(try clear hi);(try clear ho0))|((with_reducible refine gate_dst (N:=8) rfl ?_);(try (refine gate_guard (by rfl) ?_;dsimp only));refine bx_ (N:=8) (cs:=#[.slice none 0 0, .int .i64 0]) (t:=67) ?_;intro gb11 hg w64 hbox hb;replace HO_3:=am_ (Kd.R_below (zr_ HO_3) hb);replace HO6:=am_ (Kd.R_below (zr_ HO6) hb);replace HO9:=am_ (Kd.R_below (zr_ HO9) hb);have BK11:=am_ (hbox);have GW11:=am_ ((zg0_ HB hg:w.heap.size≤gb11));have GE11:=am_ ((zg0_ HB hg:w.heap.size≤gb11));replace HB:=am_ (below_step (zl0_ HB) hb);clear hb hbox hg;obtain ⟨Ao65,co65,eo65⟩:=Kd.R_slice HO9.out;subst eo65;obtain ⟨hcz66_0,hcz66_1⟩:=x2_ BK11;have hfz66_0:=blk_frozen BK11.out 0;have hfz66_1:=blk_frozen BK11.out 1))
          go_roundg kj11
          case measure=>have:=HK1.out;have:=HJ1.out;have:=HJ7.out;have:=HJ11.out;omega
          case rel=>exact ⟨(x3_1),(wrap64 (x4_1+3)),(by first|rfl|(simp;done)|(simp [*];done)),H',⟨by have:=HK1.out;have:=HJ1.out;have:=HJ7.out;have:=HJ11.out;omega⟩,⟨zy_ HO_3 BK11⟩,⟨zl1_ HB GE11⟩⟩
         rw [if_pos c23] at H
         have c23b1:(t10 !=0)=false:=bne_eq_false_iff_eq.mpr c23
         clear c23
         obtain ⟨ji24,hji24⟩: ∃j_:Int,(wrap64 (x4_1+2))=j_:=⟨_,rfl⟩
         replace H:(if 0≤(ji24) then (if (ji24)<(l0.length:Int) then (if (t7.length:Int)=0 then (none) else (if 0≤(Int.tmod (wrap64 (Int.tdiv (wrap64 (rd l0 (ji24))) 16)) (t7.length:Int)) then (if (Int.tmod (wrap64 (Int.tdiv (wrap64 (rd l0 (ji24))) 16)) (t7.length:Int))<(t7.length:Int) then ((r10_Admit.f kj11 t7 ((rd_T31 t7 (Int.tmod (wrap64 (Int.tdiv (wrap64 (rd l0 (ji24))) 16)) (t7.length:Int))).f0) (Int.tmod (wrap64 (rd l0 (ji24))) 16) (wrap64 (Int.tdiv (Int.tmod (wrap64 (rd l0 (ji24))) 16) 2)) (Int.tmod (Int.tmod (wrap64 (rd l0 (ji24))) 16) 3)).bind fun bt15=>(if bt15.2=0 then (law12_Make.l0 kj11 l0 bt15.1 (wrap64 (x4_1+3))) else (law12_Make.l0 kj11 l0 t7 (wrap64 (x4_1+3))))) else (none)) else (none))) else (none)) else (none))=some r:=by first|(rw [hji24] at H;exact H)|(simp only [hji24] at H ⊢;exact H)
         (try rw [hji24] at A22)
         have hji24w:(IntKind.i64.wrap (x4_1+2))=ji24:=(i64_w _).trans hji24
         by_cases c25:0≤(ji24)
         rotate_left
         ·rw [if_neg c25] at H
          exact absurd H (by simp)
         rw [if_pos c25] at H
         have c25b0:decide (0≤(ji24))=true:=decide_eq_true c25
         clear c25
         by_cases c26:(ji24)<(l0.length:Int)
         rotate_left
         ·rw [if_neg c26] at H
          exact absurd H (by simp)
         rw [if_pos c26] at H
         have c26b0:decide ((ji24)<(l0.length:Int))=true:=decide_eq_true c26
         clear c26
         by_cases c27:(t7.length:Int)=0
         ·rw [if_pos c27] at H
          exact absurd H (by simp)
         rw [if_neg c27] at H
         have c27b2: ¬(t7=[]):=fun h_=>c27 (by rw [h_];rfl)
         obtain ⟨ji28,hji28⟩: ∃j_:Int,(Int.tmod (wrap64 (Int.tdiv (wrap64 (rd l0 (ji24))) 16)) (t7.length:Int))=j_:=⟨_,rfl⟩
         replace H:(if 0≤(ji28) then (if (ji28)<(t7.length:Int) then ((r10_Admit.f kj11 t7 ((rd_T31 t7 (ji28)).f0) (Int.tmod (wrap64 (rd l0 (ji24))) 16) (wrap64 (Int.tdiv (Int.tmod (wrap64 (rd l0 (ji24))) 16) 2)) (Int.tmod (Int.tmod (wrap64 (rd l0 (ji24))) 16) 3)).bind fun bt15=>(if bt15.2=0 then (law12_Make.l0 kj11 l0 bt15.1 (wrap64 (x4_1+3))) else (law12_Make.l0 kj11 l0 t7 (wrap64 (x4_1+3))))) else (none)) else (none))=some r:=by first|(rw [hji28] at H;exact H)|(simp only [hji28] at H ⊢;exact H)
         (try rw [hji28] at A22)
         by_cases c29:0≤(ji28)
         rotate_left
         ·rw [if_neg c29] at H
          exact absurd H (by simp)
         rw [if_pos c29] at H
         have c29b0:decide (0≤(ji28))=true:=decide_eq_true c29
         clear c29
         by_cases c30:(ji28)<(t7.length:Int)
         rotate_left
         ·rw [if_neg c30] at H
          exact absurd H (by simp)
         rw [if_pos c30] at H
         have c30b0:decide ((ji28)<(t7.length:Int))=true:=decide_eq_true c30
         clear c30
         replace H:=Option.bind_eq_some_iff.mp H
         obtain ⟨⟨t15,t18⟩,A310,H⟩:=H
         try dsimp only at H
         have A31:=Aside0.mk A310
         clear A310
         by_cases c32:t18=0
         ·rw [if_pos c32] at H
          have c32b0:(t18==0)=true:=beq_iff_eq.mpr c32
          clear c32
          have H':=Aside0.mk H
          clear H
          have p3:0≤((ji19):Int):=of_decide_eq_true zq_
          have q3:(ji19)<(l0.length:Int):=of_decide_eq_true zq_
          obtain ⟨ad3,e3,hx3_0⟩:=Kd.at_int HR0.out (ji19) p3 q3
          obtain rfl:ad1=ad3:=(by injection e3)
          replace hx3_0:=zx_ HB hx3_0
          replace p3:=eq_true p3
          replace q3:=eq_true q3
          obtain ⟨Ao33,co33,eo33⟩:=Kd.R_slice HO_3.out
          subst eo33
          go_wp2_with (first|((with_reducible refine gate_dst (N:=60) rfl ?_);(try (refine gate_guard (by rfl) ?_;dsimp only));refine Kd.R_lit (Kd.int .u8) _ 5 ?hg (N:=60) ?hd (xs:=([(wrap64 (97+(Int.tmod (wrap64 ((x3_1.length:Int)*5)) 24))) % 256]:List Int)) (inner:=[.int .u8 ((wrap64 (97+(Int.tmod (wrap64 ((x3_1.length:Int)*5)) 24))) % 256)]) (ok:=fun _=>True) (okp:=fun _=>True) ?hr ?hp (fun _ hk=>hk) trivial (Below.refl _ _) (Nat.le_refl _) (by simp) ?_;(case hd=>rfl);(case hg=>rfl);(case hr=>first|(go_simp;done)|(go_simp;rfl));(case hp=>exact (Reps.one (show Kd.M (Kd.int .u8) _ _ _ ((wrap64 (97+(Int.tmod (wrap64 ((x3_1.length:Int)*5)) 24))) % 256) [.int .u8 ((wrap64 (97+(Int.tmod (wrap64 ((x3_1.length:Int)*5)) 24))) % 256)] from rfl) (Reps.none _ _)));intro v5 w34 ho35 hb hg_ hnew_;clear hg_ hnew_;(first|rw [←Ny4.out] at ho35|(simp only [Int.reduceToNat] at ho35;rw [←Ny4.out] at ho35));replace HO_3:=am_ (Kd.R_below (zr_ HO_3) hb);have HO6:=am_ (Kd.R_lower ho35 (below_size (zl0_ HB)));replace HB:=am_ (below_step (zl0_ HB) hb);clear hb ho35;have hcv36:=own_string (P:=Try.prog) Try.underlying22 Try.underlying5 Try.underlying9 (Kd.own_of_R HO6.out))|((with_reducible refine gate_callee (f:=83) rfl ?_);refine goesL_ (some 67) rfl rfl Try.func83 (by kernel_rfl) rfl #[.slice Ao33 x3_1.length co33, .string (strOfNums y4), .string x6_11, .agg #[.int .i64 (wrap64 (20+(wrap64 (rd l0 (ji19))))), .int .i64 (wrap64 (20+(wrap64 (rd l0 (ji19))))), .int .i64 (wrap64 (20+(wrap64 (rd l0 (ji19)))))]] rfl (by (try simp only [List.map_toArray,List.map_cons,List.map_nil]);first|done|(simp only [hji19];rfl)|rfl|(simp only [List.length_drop,List.length_take];rfl)) ?_;(with_reducible refine (r10_Create.calls kj11 _ _ x3_1 (strOfNums y4) x6_11 (wrap64 (20+(wrap64 (rd l0 (ji19))))) (wrap64 (20+(wrap64 (rd l0 (ji19))))) (wrap64 (20+(wrap64 (rd l0 (ji19))))) t7 t10 _ ?side1 ?side2 A22.out).mono ?_);(case side1=>exact zc_ (Kd.R_reads' HO_3.out).2.2);(case side2=>exact (Kd.R_reads' HO_3.out).2.1);rintro e w37 ⟨v8,rfl,ho0,hb⟩;refine ⟨_,rfl, ?_⟩;replace HO6:=am_ (Kd.R_below (zr_ HO6) hb);have HO9:=am_ (Kd.R_lower (Kd.R_new' ho0 (Kd.R_lt (zr_ HO_3))) (below_size (zl0_ HB)));replace HO_3:=am_ (Kd.R_elder' (zr_ HO_3) (Kd.R_base ho0) hb);replace HB:=am_ (below_step (zl0_ HB) hb);(try clear hb);(try clear hb2);(try clear hk);(try clear hi);(try clear ho0))|((with_reducible refine gate_dst (N:=8) rfl ?_);(try (refine gate_guard (by rfl) ?_;dsimp only));refine bx_ (N:=8) (cs:=#[.slice none 0 0, .int .i64 0]) (t:=67) ?_;intro gb11 hg w38 hbox hb;replace HO_3:=am_ (Kd.R_below (zr_ HO_3) hb);replace HO6:=am_ (Kd.R_below (zr_ HO6) hb);replace HO9:=am_ (Kd.R_below (zr_ HO9) hb);have BK11:=am_ (hbox);have GW11:=am_ ((zg0_ HB hg:w.heap.size≤gb11));have GE11:=am_ ((zg0_ HB hg:w.heap.size≤gb11));replace HB:=am_ (below_step (zl0_ HB) hb);clear hb hbox hg;obtain ⟨Ao39,co39,eo39⟩:=Kd.R_slice HO9.out;subst eo39;obtain ⟨hcz40_0,hcz40_1,hfz40_0,hfz40_1⟩:=y2_ BK11;have p12:0≤((ji24):Int):=of_decide_eq_true zq_;have q12:(ji24)<(l0.length:Int):=of_decide_eq_true zq_;obtain ⟨ad12,e12,hx12_0⟩:=Kd.at_int HR0.out (ji24) p12 q12;obtain rfl:ad1=ad12:=(by injection e12);have hn12_0:ad1.block≠gb11:=Nat.ne_of_lt (Nat.lt_of_lt_of_le (by have:=World.block_lt_of_cell? _ _ hx12_0;first|rwa [add_block] at this|exact this) GW11.out);have hn12_1:ad1.block≠gb11:=Nat.ne_of_lt (Nat.lt_of_lt_of_le (by have:=World.block_lt_of_cell? _ _ hx12_0;first|rwa [add_block] at this|exact this) GW11.out);replace hx12_0:=zx_ HB hx12_0;replace hx12_0:=(cell_far (p:=⟨gb11,0,none⟩) (by first|(rw [add_block];exact hn12_0)|(show (Addr.add _ _).block≠_;rw [add_block];exact hn12_0)|exact hn12_0) (.slice Ao39 t7.length co39)).trans hx12_0;replace hx12_0:=(cell_far (p:=⟨gb11,1,none⟩) (by first|(rw [add_block];exact hn12_1)|(show (Addr.add _ _).block≠_;rw [add_block];exact hn12_1)|exact hn12_1) (.int .i64 t10)).trans hx12_0;clear hn12_0;clear hn12_1;replace p12:=eq_true p12;replace q12:=eq_true q12;have p13:0≤((ji24):Int):=of_decide_eq_true zq_;have q13:(ji24)<(l0.length:Int):=of_decide_eq_true zq_;obtain ⟨ad13,e13,hx13_0⟩:=Kd.at_int HR0.out (ji24) p13 q13;obtain rfl:ad1=ad13:=(by injection e13);have hn13_0:ad1.block≠gb11:=Nat.ne_of_lt (Nat.lt_of_lt_of_le (by have:=World.block_lt_of_cell? _ _ hx13_0;first|rwa [add_block] at this|exact this) GW11.out);have hn13_1:ad1.block≠gb11:=Nat.ne_of_lt (Nat.lt_of_lt_of_le (by have:=World.block_lt_of_cell? _ _ hx13_0;first|rwa [add_block] at this|exact this) GW11.out);replace hx13_0:=zx_ HB hx13_0;replace hx13_0:=(cell_far (p:=⟨gb11,0,none⟩) (by first|(rw [add_block];exact hn13_0)|(show (Addr.add _ _).block≠_;rw [add_block];exact hn13_0)|exact hn13_0) (.slice Ao39 t7.length co39)).trans hx13_0;replace hx13_0:=(cell_far (p:=⟨gb11,1,none⟩) (by first|(rw [add_block];exact hn13_1)|(show (Addr.add _ _).block≠_;rw [add_block];exact hn13_1)|exact hn13_1) (.int .i64 t10)).trans hx13_0;clear hn13_0;clear hn13_1;replace p13:=eq_true p13;replace q13:=eq_true q13;have p14:0≤((ji28):Int):=of_decide_eq_true zq_;have q14:(ji28)<(t7.length:Int):=of_decide_eq_true zq_;obtain ⟨ad14,e14,hx14_0,hx14_1,hx14_2,hx14_3,hx14_4,hx14_5,hx14_6,hx14_7,hx14_8,hx14_9,hx14_10,hx14_11⟩:=at_T31 (Kd.R_reads' HO9.out).2.2 (ji28) p14 q14;cases e14;have hn14_0:ad14.block≠gb11:=Kd.own_blk (Kd.R_ne HO9.out BK11.out (by decide));have hn14_1:ad14.block≠gb11:=Kd.own_blk (Kd.R_ne HO9.out BK11.out (by decide));replace hx14_0:=(cell_far (p:=⟨gb11,0,none⟩) (by first|(rw [add_block];exact hn14_0)|(show (Addr.add _ _).block≠_;rw [add_block];exact hn14_0)|exact hn14_0) (.slice (some ad14) t7.length co39)).trans hx14_0;replace hx14_1:=(cell_far (p:=⟨gb11,0,none⟩) (by first|(rw [add_block];exact hn14_0)|(show (Addr.add _ _).block≠_;rw [add_block];exact hn14_0)|exact hn14_0) (.slice (some ad14) t7.length co39)).trans hx14_1;replace hx14_2:=(cell_far (p:=⟨gb11,0,none⟩) (by first|(rw [add_block];exact hn14_0)|(show (Addr.add _ _).block≠_;rw [add_block];exact hn14_0)|exact hn14_0) (.slice (some ad14) t7.length co39)).trans hx14_2;replace hx14_3:=(cell_far (p:=⟨gb11,0,none⟩) (by first|(rw [add_block];exact hn14_0)|(show (Addr.add _ _).block≠_;rw [add_block];exact hn14_0)|exact hn14_0) (.slice (some ad14) t7.length co39)).trans hx14_3;replace hx14_4:=(cell_far (p:=⟨gb11,0,none⟩) (by first|(rw [add_block];exact hn14_0)|(show (Addr.add _ _).block≠_;rw [add_block];exact hn14_0)|exact hn14_0) (.slice (some ad14) t7.length co39)).trans hx14_4;replace hx14_5:=(cell_far (p:=⟨gb11,0,none⟩) (by first|(rw [add_block];exact hn14_0)|(show (Addr.add _ _).block≠_;rw [add_block];exact hn14_0)|exact hn14_0) (.slice (some ad14) t7.length co39)).trans hx14_5;replace hx14_6:=(cell_far (p:=⟨gb11,0,none⟩) (by first|(rw [add_block];exact hn14_0)|(show (Addr.add _ _).block≠_;rw [add_block];exact hn14_0)|exact hn14_0) (.slice (some ad14) t7.length co39)).trans hx14_6;replace hx14_7:=(cell_far (p:=⟨gb11,0,none⟩) (by first|(rw [add_block];exact hn14_0)|(show (Addr.add _ _).block≠_;rw [add_block];exact hn14_0)|exact hn14_0) (.slice (some ad14) t7.length co39)).trans hx14_7;replace hx14_8:=(cell_far (p:=⟨gb11,0,none⟩) (by first|(rw [add_block];exact hn14_0)|(show (Addr.add _ _).block≠_;rw [add_block];exact hn14_0)|exact hn14_0) (.slice (some ad14) t7.length co39)).trans hx14_8;replace hx14_9:=(cell_far (p:=⟨gb11,0,none⟩) (by first|(rw [add_block];exact hn14_0)|(show (Addr.add _ _).block≠_;rw [add_block];exact hn14_0)|exact hn14_0) (.slice (some ad14) t7.length co39)).trans hx14_9;replace hx14_10:=(cell_far (p:=⟨gb11,0,none⟩) (by first|(rw [add_block];exact hn14_0)|(show (Addr.add _ _).block≠_;rw [add_block];exact hn14_0)|exact hn14_0) (.slice (some ad14) t7.length co39)).trans hx14_10;replace hx14_11:=(cell_far (p:=⟨gb11,0,none⟩) (by first|(rw [add_block];exact hn14_0)|(show (Addr.add _ _).block≠_;rw [add_block];exact hn14_0)|exact hn14_0) (.slice (some ad14) t7.length co39)).trans hx14_11;replace hx14_0:=(cell_far (p:=⟨gb11,1,none⟩) (by first|(rw [add_block];exact hn14_1)|(show (Addr.add _ _).block≠_;rw [add_block];exact hn14_1)|exact hn14_1) (.int .i64 t10)).trans hx14_0;replace hx14_1:=(cell_far (p:=⟨gb11,1,none⟩) (by first|(rw [add_block];exact hn14_1)|(show (Addr.add _ _).block≠_;rw [add_block];exact hn14_1)|exact hn14_1) (.int .i64 t10)).trans hx14_1;replace hx14_2:=(cell_far (p:=⟨gb11,1,none⟩) (by first|(rw [add_block];exact hn14_1)|(show (Addr.add _ _).block≠_;rw [add_block];exact hn14_1)|exact hn14_1) (.int .i64 t10)).trans hx14_2;replace hx14_3:=(cell_far (p:=⟨gb11,1,none⟩) (by first|(rw [add_block];exact hn14_1)|(show (Addr.add _ _).block≠_;rw [add_block];exact hn14_1)|exact hn14_1) (.int .i64 t10)).trans hx14_3;replace hx14_4:=(cell_far (p:=⟨gb11,1,none⟩) (by first|(rw [add_block];exact hn14_1)|(show (Addr.add _ _).block≠_;rw [add_block];exact hn14_1)|exact hn14_1) (.int .i64 t10)).trans hx14_4;replace hx14_5:=(cell_far (p:=⟨gb11,1,none⟩) (by first|(rw [add_block];exact hn14_1)|(show (Addr.add _ _).block≠_;rw [add_block];exact hn14_1)|exact hn14_1) (.int .i64 t10)).trans hx14_5;replace hx14_6:=(cell_far (p:=⟨gb11,1,none⟩) (by first|(rw [add_block];exact hn14_1)|(show (Addr.add _ _).block≠_;rw [add_block];exact hn14_1)|exact hn14_1) (.int .i64 t10)).trans hx14_6;replace hx14_7:=(cell_far (p:=⟨gb11,1,none⟩) (by first|(rw [add_block];exact hn14_1)|(show (Addr.add _ _).block≠_;rw [add_block];exact hn14_1)|exact hn14_1) (.int .i64 t10)).trans hx14_7;replace hx14_8:=(cell_far (p:=⟨gb11,1,none⟩) (by first|(rw [add_block];exact hn14_1)|(show (Addr.add _ _).block≠_;rw [add_block];exact hn14_1)|exact hn14_1) (.int .i64 t10)).trans hx14_8;replace hx14_9:=(cell_far (p:=⟨gb11,1,none⟩) (by first|(rw [add_block];exact hn14_1)|(show (Addr.add _ _).block≠_;rw [add_block];exact hn14_1)|exact hn14_1) (.int .i64 t10)).trans hx14_9;replace hx14_10:=(cell_far (p:=⟨gb11,1,none⟩) (by first|(rw [add_block];exact hn14_1)|(show (Addr.add _ _).block≠_;rw [add_block];exact hn14_1)|exact hn14_1) (.int .i64 t10)).trans hx14_10;replace hx14_11:=(cell_far (p:=⟨gb11,1,none⟩) (by first|(rw [add_block];exact hn14_1)|(show (Addr.add _ _).block≠_;rw [add_block];exact hn14_1)|exact hn14_1) (.int .i64 t10)).trans hx14_11;clear hn14_0;clear hn14_1;replace p14:=eq_true p14;replace q14:=eq_true q14)|((with_reducible refine gate_callee (f:=66) rfl ?_);refine goesL_ (some 102) rfl rfl Try.func66 (by kernel_rfl) rfl #[.slice (some ad14) t7.length co39, .string ((rd_T31 t7 (ji28)).f0), .agg #[.int .i64 (Int.tmod (wrap64 (rd l0 (ji24))) 16), .int .i64 (wrap64 (Int.tdiv (Int.tmod (wrap64 (rd l0 (ji24))) 16) 2)), .int .i64 (Int.tmod (Int.tmod (wrap64 (rd l0 (ji24))) 16) 3)]] rfl (by (try simp only [List.map_toArray,List.map_cons,List.map_nil]);first|done|(simp only [hji24,hji28];rfl)|rfl|(simp only [List.length_drop,List.length_take];rfl)) ?_;(with_reducible refine (r10_Admit.calls kj11 _ _ t7 ((rd_T31 t7 (ji28)).f0) (Int.tmod (wrap64 (rd l0 (ji24))) 16) (wrap64 (Int.tdiv (Int.tmod (wrap64 (rd l0 (ji24))) 16) 2)) (Int.tmod (Int.tmod (wrap64 (rd l0 (ji24))) 16) 3) t15 t18 _ ?side1 ?side2 A31.out).mono ?_);(case side1=>refine (Kd.R_reads' (e:=31) (base:=w.heap.size) (ok:=fun k_=>(True∧some k_≠(.slice Ao33 x3_1.length co33:Value).ownBlock)) (n:=t7.length) (c:=co39) ?_).2.2;exact (by refine zt_ ?_;exact (Kd.R_mono (Kd.R_far (p:=⟨gb11,1,none⟩) (Kd.R_far (p:=⟨gb11,0,none⟩) (Kd.R_types HO9.out BK11.out (by decide)) (fun _ hk=>hk.2) (.slice (some ad14) t7.length co39)) (fun _ hk=>hk.2) (.int .i64 t10)) (fun _ h_=>h_.1))));(case side2=>exact (Kd.R_reads' HO9.out).2.1);rintro e w41 ⟨v16,rfl,ho0,hb⟩;refine ⟨_,rfl, ?_⟩;replace HO6:=am_ (Kd.R_below (by refine zt_ ?_;exact (Kd.R_mono (Kd.R_far (p:=⟨gb11,1,none⟩) (Kd.R_far (p:=⟨gb11,0,none⟩) (Kd.R_types HO6.out BK11.out (by decide)) (fun _ hk=>hk.2) (.slice (some ad14) t7.length co39)) (fun _ hk=>hk.2) (.int .i64 t10)) (fun _ h_=>h_.1))) hb);have HO17:=am_ (Kd.R_lower (Kd.R_new' (Kd.R_new' ho0 (Kd.R_lt (by refine zt_ ?_;exact (Kd.R_mono (Kd.R_far (p:=⟨gb11,1,none⟩) (Kd.R_far (p:=⟨gb11,0,none⟩) (Kd.R_types HO_3.out BK11.out (by decide)) (fun _ hk=>hk.2) (.slice (some ad14) t7.length co39)) (fun _ hk=>hk.2) (.int .i64 t10)) (fun _ h_=>h_.1))))) (Kd.R_lt (by refine zt_ ?_;exact (Kd.R_mono (Kd.R_far (p:=⟨gb11,1,none⟩) (Kd.R_far (p:=⟨gb11,0,none⟩) (Kd.R_types HO9.out BK11.out (by decide)) (fun _ hk=>hk.2) (.slice (some ad14) t7.length co39)) (fun _ hk=>hk.2) (.int .i64 t10)) (fun _ h_=>h_.1))))) (below_size (zl1_ HB GE11)));replace HO_3:=am_ (Kd.R_elder' (by refine zt_ ?_;exact (Kd.R_mono (Kd.R_far (p:=⟨gb11,1,none⟩) (Kd.R_far (p:=⟨gb11,0,none⟩) (Kd.R_types HO_3.out BK11.out (by decide)) (fun _ hk=>hk.2) (.slice (some ad14) t7.length co39)) (fun _ hk=>hk.2) (.int .i64 t10)) (fun _ h_=>h_.1))) (Kd.R_base ho0) hb);replace HO9:=am_ (Kd.R_elder' (by refine zt_ ?_;exact (Kd.R_mono (Kd.R_far (p:=⟨gb11,1,none⟩) (Kd.R_far (p:=⟨gb11,0,none⟩) (Kd.R_types HO9.out BK11.out (by decide)) (fun _ hk=>hk.2) (.slice (some ad14) t7.length co39)) (fun _ hk=>hk.2) (.int .i64 t10)) (fun _ h_=>h_.1))) (Kd.R_base ho0) hb);replace BK11:=am_ (blk_below (g:=gb11) (o:= .cells #[.slice (some ad14) t7.length co39, .int .i64 t10] 67 (0,0)) (zw_ BK11) hb);replace HB:=am_ (below_step (zl1_ HB GE11) hb);(try clear hb);(try clear hb2);(try clear hk);(try clear hi);(try clear ho0))|((with_reducible refine gate_dst (N:=11) rfl ?_);(try (refine gate_guard (by rfl) ?_;dsimp only));refine bx_ (N:=11) (cs:=#[.slice none 0 0, .int .i64 0]) (t:=67) ?_;intro gb19 hg w42 hbox hb;have n0_:=am_ (Kd.R_below (zr_ HO_3) hb);have n1_:=am_ (Kd.R_below (zr_ HO6) hb);have n2_:=am_ (Kd.R_below (zr_ HO9) hb);have n3_:=am_ (Kd.R_below (zr_ HO17) hb);have n4_:=am_ (blk_below (zb_ BK11) hb);have n5_:=am_ (below_step (zl1_ HB GE11) hb);have n6_:=am_ (hbox);have n8_:=am_ ((zg1_ HB GE11 hg:w.heap.size≤gb19));have n9_:=am_ ((zn_ BK11 hg:gb11≠gb19));have n10_:=am_ ((zm_ BK11 hg:gb19≠gb11));clear HO_3;clear HO6;clear HO9;clear HO17;clear BK11;clear HB;have HO_3:=n0_;have HO6:=n1_;have HO9:=n2_;have HO17:=n3_;have BK11:=n4_;have HB:=n5_;have BK19:=n6_;have GE19:=n8_;clear n0_ n1_ n2_ n3_ n4_ n5_ n6_ n8_ n9_ n10_;clear hb hbox hg;obtain ⟨Ao43,co43,eo43⟩:=Kd.R_slice HO17.out;subst eo43;obtain ⟨hcz45_0,hcz45_1⟩:=x2_ BK19;have hfz45_0:=blk_frozen BK19.out 0;have hfz45_1:=blk_frozen BK19.out 1))
          go_roundg kj11
          case measure=>have:=HK1.out;have:=HJ1.out;have:=HJ7.out;have:=HJ11.out;omega
          case rel=>exact ⟨(t15),(wrap64 (x4_1+3)),(by first|rfl|(simp;done)|(simp [*];done)),H',⟨by have:=HK1.out;have:=HJ1.out;have:=HJ7.out;have:=HJ11.out;omega⟩,⟨zy_ HO17 BK19⟩,⟨zl2_ HB GE11 GE19⟩⟩
         rw [if_neg c32] at H
         have c32b0:(t18==0)=false:=beq_eq_false_iff_ne.mpr c32
         have H':=Aside0.mk H
         clear H
         have p3:0≤((ji19):Int):=of_decide_eq_true zq_
         have q3:(ji19)<(l0.length:Int):=of_decide_eq_true zq_
         obtain ⟨ad3,e3,hx3_0⟩:=Kd.at_int HR0.out (ji19) p3 q3
         obtain rfl:ad1=ad3:=(by injection e3)
         replace hx3_0:=zx_ HB hx3_0
         replace p3:=eq_true p3
         replace q3:=eq_true q3
         obtain ⟨Ao46,co46,eo46⟩:=Kd.R_slice HO_3.out
         subst eo46
         go_wp2_with (first|((with_reducible refine gate_dst (N:=60) rfl ?_);(try (refine gate_guard (by rfl) ?_;dsimp only));refine Kd.R_lit (Kd.int .u8) _ 5 ?hg (N:=60) ?hd (xs:=([(wrap64 (97+(Int.tmod (wrap64 ((x3_1.length:Int)*5)) 24))) % 256]:List Int)) (inner:=[.int .u8 ((wrap64 (97+(Int.tmod (wrap64 ((x3_1.length:Int)*5)) 24))) % 256)]) (ok:=fun _=>True) (okp:=fun _=>True) ?hr ?hp (fun _ hk=>hk) trivial (Below.refl _ _) (Nat.le_refl _) (by simp) ?_;(case hd=>rfl);(case hg=>rfl);(case hr=>first|(go_simp;done)|(go_simp;rfl));(case hp=>exact (Reps.one (show Kd.M (Kd.int .u8) _ _ _ ((wrap64 (97+(Int.tmod (wrap64 ((x3_1.length:Int)*5)) 24))) % 256) [.int .u8 ((wrap64 (97+(Int.tmod (wrap64 ((x3_1.length:Int)*5)) 24))) % 256)] from rfl) (Reps.none _ _)));intro v5 w47 ho48 hb hg_ hnew_;clear hg_ hnew_;(first|rw [←Ny4.out] at ho48|(simp only [Int.reduceToNat] at ho48;rw [←Ny4.out] at ho48));replace HO_3:=am_ (Kd.R_below (zr_ HO_3) hb);have HO6:=am_ (Kd.R_lower ho48 (below_size (zl0_ HB)));replace HB:=am_ (below_step (zl0_ HB) hb);clear hb ho48;have hcv49:=own_string (P:=Try.prog) Try.underlying22 Try.underlying5 Try.underlying9 (Kd.own_of_R HO6.out))|((with_reducible refine gate_callee (f:=83) rfl ?_);refine goesL_ (some 67) rfl rfl Try.func83 (by kernel_rfl) rfl #[.slice Ao46 x3_1.length co46, .string (strOfNums y4), .string x6_11, .agg #[.int .i64 (wrap64 (20+(wrap64 (rd l0 (ji19))))), .int .i64 (wrap64 (20+(wrap64 (rd l0 (ji19))))), .int .i64 (wrap64 (20+(wrap64 (rd l0 (ji19)))))]] rfl (by (try simp only [List.map_toArray,List.map_cons,List.map_nil]);first|done|(simp only [hji19];rfl)|rfl|(simp only [List.length_drop,List.length_take];rfl)) ?_;(with_reducible refine (r10_Create.calls kj11 _ _ x3_1 (strOfNums y4) x6_11 (wrap64 (20+(wrap64 (rd l0 (ji19))))) (wrap64 (20+(wrap64 (rd l0 (ji19))))) (wrap64 (20+(wrap64 (rd l0 (ji19))))) t7 t10 _ ?side1 ?side2 A22.out).mono ?_);(case side1=>exact zc_ (Kd.R_reads' HO_3.out).2.2);(case side2=>exact (Kd.R_reads' HO_3.out).2.1);rintro e w50 ⟨v8,rfl,ho0,hb⟩;refine ⟨_,rfl, ?_⟩;replace HO6:=am_ (Kd.R_below (zr_ HO6) hb);have HO9:=am_ (Kd.R_lower (Kd.R_new' ho0 (Kd.R_lt (zr_ HO_3))) (below_size (zl0_ HB)));replace HO_3:=am_ (Kd.R_elder' (zr_ HO_3) (Kd.R_base ho0) hb);replace HB:=am_ (below_step (zl0_ HB) hb);(try clear hb);(try clear hb2);(try clear hk);(try clear hi);(try clear ho0))|((with_reducible refine gate_dst (N:=8) rfl ?_);(try (refine gate_guard (by rfl) ?_;dsimp only));refine bx_ (N:=8) (cs:=#[.slice none 0 0, .int .i64 0]) (t:=67) ?_;intro gb11 hg w51 hbox hb;replace HO_3:=am_ (Kd.R_below (zr_ HO_3) hb);replace HO6:=am_ (Kd.R_below (zr_ HO6) hb);replace HO9:=am_ (Kd.R_below (zr_ HO9) hb);have BK11:=am_ (hbox);have GW11:=am_ ((zg0_ HB hg:w.heap.size≤gb11));have GE11:=am_ ((zg0_ HB hg:w.heap.size≤gb11));replace HB:=am_ (below_step (zl0_ HB) hb);clear hb hbox hg;obtain ⟨Ao52,co52,eo52⟩:=Kd.R_slice HO9.out;subst eo52;obtain ⟨hcz53_0,hcz53_1,hfz53_0,hfz53_1⟩:=y2_ BK11;have p12:0≤((ji24):Int):=of_decide_eq_true zq_;have q12:(ji24)<(l0.length:Int):=of_decide_eq_true zq_;obtain ⟨ad12,e12,hx12_0⟩:=Kd.at_int HR0.out (ji24) p12 q12;obtain rfl:ad1=ad12:=(by injection e12);have hn12_0:ad1.block≠gb11:=Nat.ne_of_lt (Nat.lt_of_lt_of_le (by have:=World.block_lt_of_cell? _ _ hx12_0;first|rwa [add_block] at this|exact this) GW11.out);have hn12_1:ad1.block≠gb11:=Nat.ne_of_lt (Nat.lt_of_lt_of_le (by have:=World.block_lt_of_cell? _ _ hx12_0;first|rwa [add_block] at this|exact this) GW11.out);replace hx12_0:=zx_ HB hx12_0;replace hx12_0:=(cell_far (p:=⟨gb11,0,none⟩) (by first|(rw [add_block];exact hn12_0)|(show (Addr.add _ _).block≠_;rw [add_block];exact hn12_0)|exact hn12_0) (.slice Ao52 t7.length co52)).trans hx12_0;replace hx12_0:=(cell_far (p:=⟨gb11,1,none⟩) (by first|(rw [add_block];exact hn12_1)|(show (Addr.add _ _).block≠_;rw [add_block];exact hn12_1)|exact hn12_1) (.int .i64 t10)).trans hx12_0;clear hn12_0;clear hn12_1;replace p12:=eq_true p12;replace q12:=eq_true q12;have p13:0≤((ji24):Int):=of_decide_eq_true zq_;have q13:(ji24)<(l0.length:Int):=of_decide_eq_true zq_;obtain ⟨ad13,e13,hx13_0⟩:=Kd.at_int HR0.out (ji24) p13 q13;obtain rfl:ad1=ad13:=(by injection e13);have hn13_0:ad1.block≠gb11:=Nat.ne_of_lt (Nat.lt_of_lt_of_le (by have:=World.block_lt_of_cell? _ _ hx13_0;first|rwa [add_block] at this|exact this) GW11.out);have hn13_1:ad1.block≠gb11:=Nat.ne_of_lt (Nat.lt_of_lt_of_le (by have:=World.block_lt_of_cell? _ _ hx13_0;first|rwa [add_block] at this|exact this) GW11.out);replace hx13_0:=zx_ HB hx13_0;replace hx13_0:=(cell_far (p:=⟨gb11,0,none⟩) (by first|(rw [add_block];exact hn13_0)|(show (Addr.add _ _).block≠_;rw [add_block];exact hn13_0)|exact hn13_0) (.slice Ao52 t7.length co52)).trans hx13_0;replace hx13_0:=(cell_far (p:=⟨gb11,1,none⟩) (by first|(rw [add_block];exact hn13_1)|(show (Addr.add _ _).block≠_;rw [add_block];exact hn13_1)|exact hn13_1) (.int .i64 t10)).trans hx13_0;clear hn13_0;clear hn13_1;replace p13:=eq_true p13;replace q13:=eq_true q13;have p14:0≤((ji28):Int):=of_decide_eq_true zq_;have q14:(ji28)<(t7.length:Int):=of_decide_eq_true zq_;obtain ⟨ad14,e14,hx14_0,hx14_1,hx14_2,hx14_3,hx14_4,hx14_5,hx14_6,hx14_7,hx14_8,hx14_9,hx14_10,hx14_11⟩:=at_T31 (Kd.R_reads' HO9.out).2.2 (ji28) p14 q14;cases e14;have hn14_0:ad14.block≠gb11:=Kd.own_blk (Kd.R_ne HO9.out BK11.out (by decide));have hn14_1:ad14.block≠gb11:=Kd.own_blk (Kd.R_ne HO9.out BK11.out (by decide));replace hx14_0:=(cell_far (p:=⟨gb11,0,none⟩) (by first|(rw [add_block];exact hn14_0)|(show (Addr.add _ _).block≠_;rw [add_block];exact hn14_0)|exact hn14_0) (.slice (some ad14) t7.length co52)).trans hx14_0;replace hx14_1:=(cell_far (p:=⟨gb11,0,none⟩) (by first|(rw [add_block];exact hn14_0)|(show (Addr.add _ _).block≠_;rw [add_block];exact hn14_0)|exact hn14_0) (.slice (some ad14) t7.length co52)).trans hx14_1;replace hx14_2:=(cell_far (p:=⟨gb11,0,none⟩) (by first|(rw [add_block];exact hn14_0)|(show (Addr.add _ _).block≠_;rw [add_block];exact hn14_0)|exact hn14_0) (.slice (some ad14) t7.length co52)).trans hx14_2;replace hx14_3:=(cell_far (p:=⟨gb11,0,none⟩) (by first|(rw [add_block];exact hn14_0)|(show (Addr.add _ _).block≠_;rw [add_block];exact hn14_0)|exact hn14_0) (.slice (some ad14) t7.length co52)).trans hx14_3;replace hx14_4:=(cell_far (p:=⟨gb11,0,none⟩) (by first|(rw [add_block];exact hn14_0)|(show (Addr.add _ _).block≠_;rw [add_block];exact hn14_0)|exact hn14_0) (.slice (some ad14) t7.length co52)).trans hx14_4;replace hx14_5:=(cell_far (p:=⟨gb11,0,none⟩) (by first|(rw [add_block];exact hn14_0)|(show (Addr.add _ _).block≠_;rw [add_block];exact hn14_0)|exact hn14_0) (.slice (some ad14) t7.length co52)).trans hx14_5;replace hx14_6:=(cell_far (p:=⟨gb11,0,none⟩) (by first|(rw [add_block];exact hn14_0)|(show (Addr.add _ _).block≠_;rw [add_block];exact hn14_0)|exact hn14_0) (.slice (some ad14) t7.length co52)).trans hx14_6;replace hx14_7:=(cell_far (p:=⟨gb11,0,none⟩) (by first|(rw [add_block];exact hn14_0)|(show (Addr.add _ _).block≠_;rw [add_block];exact hn14_0)|exact hn14_0) (.slice (some ad14) t7.length co52)).trans hx14_7;replace hx14_8:=(cell_far (p:=⟨gb11,0,none⟩) (by first|(rw [add_block];exact hn14_0)|(show (Addr.add _ _).block≠_;rw [add_block];exact hn14_0)|exact hn14_0) (.slice (some ad14) t7.length co52)).trans hx14_8;replace hx14_9:=(cell_far (p:=⟨gb11,0,none⟩) (by first|(rw [add_block];exact hn14_0)|(show (Addr.add _ _).block≠_;rw [add_block];exact hn14_0)|exact hn14_0) (.slice (some ad14) t7.length co52)).trans hx14_9;replace hx14_10:=(cell_far (p:=⟨gb11,0,none⟩) (by first|(rw [add_block];exact hn14_0)|(show (Addr.add _ _).block≠_;rw [add_block];exact hn14_0)|exact hn14_0) (.slice (some ad14) t7.length co52)).trans hx14_10;replace hx14_11:=(cell_far (p:=⟨gb11,0,none⟩) (by first|(rw [add_block];exact hn14_0)|(show (Addr.add _ _).block≠_;rw [add_block];exact hn14_0)|exact hn14_0) (.slice (some ad14) t7.length co52)).trans hx14_11;replace hx14_0:=(cell_far (p:=⟨gb11,1,none⟩) (by first|(rw [add_block];exact hn14_1)|(show (Addr.add _ _).block≠_;rw [add_block];exact hn14_1)|exact hn14_1) (.int .i64 t10)).trans hx14_0;replace hx14_1:=(cell_far (p:=⟨gb11,1,none⟩) (by first|(rw [add_block];exact hn14_1)|(show (Addr.add _ _).block≠_;rw [add_block];exact hn14_1)|exact hn14_1) (.int .i64 t10)).trans hx14_1;replace hx14_2:=(cell_far (p:=⟨gb11,1,none⟩) (by first|(rw [add_block];exact hn14_1)|(show (Addr.add _ _).block≠_;rw [add_block];exact hn14_1)|exact hn14_1) (.int .i64 t10)).trans hx14_2;replace hx14_3:=(cell_far (p:=⟨gb11,1,none⟩) (by first|(rw [add_block];exact hn14_1)|(show (Addr.add _ _).block≠_;rw [add_block];exact hn14_1)|exact hn14_1) (.int .i64 t10)).trans hx14_3;replace hx14_4:=(cell_far (p:=⟨gb11,1,none⟩) (by first|(rw [add_block];exact hn14_1)|(show (Addr.add _ _).block≠_;rw [add_block];exact hn14_1)|exact hn14_1) (.int .i64 t10)).trans hx14_4;replace hx14_5:=(cell_far (p:=⟨gb11,1,none⟩) (by first|(rw [add_block];exact hn14_1)|(show (Addr.add _ _).block≠_;rw [add_block];exact hn14_1)|exact hn14_1) (.int .i64 t10)).trans hx14_5;replace hx14_6:=(cell_far (p:=⟨gb11,1,none⟩) (by first|(rw [add_block];exact hn14_1)|(show (Addr.add _ _).block≠_;rw [add_block];exact hn14_1)|exact hn14_1) (.int .i64 t10)).trans hx14_6;replace hx14_7:=(cell_far (p:=⟨gb11,1,none⟩) (by first|(rw [add_block];exact hn14_1)|(show (Addr.add _ _).block≠_;rw [add_block];exact hn14_1)|exact hn14_1) (.int .i64 t10)).trans hx14_7;replace hx14_8:=(cell_far (p:=⟨gb11,1,none⟩) (by first|(rw [add_block];exact hn14_1)|(show (Addr.add _ _).block≠_;rw [add_block];exact hn14_1)|exact hn14_1) (.int .i64 t10)).trans hx14_8;replace hx14_9:=(cell_far (p:=⟨gb11,1,none⟩) (by first|(rw [add_block];exact hn14_1)|(show (Addr.add _ _).block≠_;rw [add_block];exact hn14_1)|exact hn14_1) (.int .i64 t10)).trans hx14_9;replace hx14_10:=(cell_far (p:=⟨gb11,1,none⟩) (by first|(rw [add_block];exact hn14_1)|(show (Addr.add _ _).block≠_;rw [add_block];exact hn14_1)|exact hn14_1) (.int .i64 t10)).trans hx14_10;replace hx14_11:=(cell_far (p:=⟨gb11,1,none⟩) (by first|(rw [add_block];exact hn14_1)|(show (Addr.add _ _).block≠_;rw [add_block];exact hn14_1)|exact hn14_1) (.int .i64 t10)).trans hx14_11;clear hn14_0;clear hn14_1;replace p14:=eq_true p14;replace q14:=eq_true q14)|((with_reducible refine gate_callee (f:=66) rfl ?_);refine goesL_ (some 102) rfl rfl Try.func66 (by kernel_rfl) rfl #[.slice (some ad14) t7.length co52, .string ((rd_T31 t7 (ji28)).f0), .agg #[.int .i64 (Int.tmod (wrap64 (rd l0 (ji24))) 16), .int .i64 (wrap64 (Int.tdiv (Int.tmod (wrap64 (rd l0 (ji24))) 16) 2)), .int .i64 (Int.tmod (Int.tmod (wrap64 (rd l0 (ji24))) 16) 3)]] rfl (by (try simp only [List.map_toArray,List.map_cons,List.map_nil]);first|done|(simp only [hji24,hji28];rfl)|rfl|(simp only [List.length_drop,List.length_take];rfl)) ?_;(with_reducible refine (r10_Admit.calls kj11 _ _ t7 ((rd_T31 t7 (ji28)).f0) (Int.tmod (wrap64 (rd l0 (ji24))) 16) (wrap64 (Int.tdiv (Int.tmod (wrap64 (rd l0 (ji24))) 16) 2)) (Int.tmod (Int.tmod (wrap64 (rd l0 (ji24))) 16) 3) t15 t18 _ ?side1 ?side2 A31.out).mono ?_);(case side1=>refine (Kd.R_reads' (e:=31) (base:=w.heap.size) (ok:=fun k_=>(True∧some k_≠(.slice Ao46 x3_1.length co46:Value).ownBlock)) (n:=t7.length) (c:=co52) ?_).2.2;exact (by refine zt_ ?_;exact (Kd.R_mono (Kd.R_far (p:=⟨gb11,1,none⟩) (Kd.R_far (p:=⟨gb11,0,none⟩) (Kd.R_types HO9.out BK11.out (by decide)) (fun _ hk=>hk.2) (.slice (some ad14) t7.length co52)) (fun _ hk=>hk.2) (.int .i64 t10)) (fun _ h_=>h_.1))));(case side2=>exact (Kd.R_reads' HO9.out).2.1);rintro e w54 ⟨v16,rfl,ho0,hb⟩;refine ⟨_,rfl, ?_⟩;replace HO6:=am_ (Kd.R_below (by refine zt_ ?_;exact (Kd.R_mono (Kd.R_far (p:=⟨gb11,1,none⟩) (Kd.R_far (p:=⟨gb11,0,none⟩) (Kd.R_types HO6.out BK11.out (by decide)) (fun _ hk=>hk.2) (.slice (some ad14) t7.length co52)) (fun _ hk=>hk.2) (.int .i64 t10)) (fun _ h_=>h_.1))) hb);have HO17:=am_ (Kd.R_lower (Kd.R_new' (Kd.R_new' ho0 (Kd.R_lt (by refine zt_ ?_;exact (Kd.R_mono (Kd.R_far (p:=⟨gb11,1,none⟩) (Kd.R_far (p:=⟨gb11,0,none⟩) (Kd.R_types HO_3.out BK11.out (by decide)) (fun _ hk=>hk.2) (.slice (some ad14) t7.length co52)) (fun _ hk=>hk.2) (.int .i64 t10)) (fun _ h_=>h_.1))))) (Kd.R_lt (by refine zt_ ?_;exact (Kd.R_mono (Kd.R_far (p:=⟨gb11,1,none⟩) (Kd.R_far (p:=⟨gb11,0,none⟩) (Kd.R_types HO9.out BK11.out (by decide)) (fun _ hk=>hk.2) (.slice (some ad14) t7.length co52)) (fun _ hk=>hk.2) (.int .i64 t10)) (fun _ h_=>h_.1))))) (below_size (zl1_ HB GE11)));replace HO_3:=am_ (Kd.R_elder' (by refine zt_ ?_;exact (Kd.R_mono (Kd.R_far (p:=⟨gb11,1,none⟩) (Kd.R_far (p:=⟨gb11,0,none⟩) (Kd.R_types HO_3.out BK11.out (by decide)) (fun _ hk=>hk.2) (.slice (some ad14) t7.length co52)) (fun _ hk=>hk.2) (.int .i64 t10)) (fun _ h_=>h_.1))) (Kd.R_base ho0) hb);replace HO9:=am_ (Kd.R_elder' (by refine zt_ ?_;exact (Kd.R_mono (Kd.R_far (p:=⟨gb11,1,none⟩) (Kd.R_far (p:=⟨gb11,0,none⟩) (Kd.R_types HO9.out BK11.out (by decide)) (fun _ hk=>hk.2) (.slice (some ad14) t7.length co52)) (fun _ hk=>hk.2) (.int .i64 t10)) (fun _ h_=>h_.1))) (Kd.R_base ho0) hb);replace BK11:=am_ (blk_below (g:=gb11) (o:= .cells #[.slice (some ad14) t7.length co52, .int .i64 t10] 67 (0,0)) (zw_ BK11) hb);replace HB:=am_ (below_step (zl1_ HB GE11) hb);(try clear hb);(try clear hb2);(try clear hk);(try clear hi);(try clear ho0))|((with_reducible refine gate_dst (N:=11) rfl ?_);(try (refine gate_guard (by rfl) ?_;dsimp only));refine bx_ (N:=11) (cs:=#[.slice none 0 0, .int .i64 0]) (t:=67) ?_;intro gb19 hg w55 hbox hb;have n0_:=am_ (Kd.R_below (zr_ HO_3) hb);have n1_:=am_ (Kd.R_below (zr_ HO6) hb);have n2_:=am_ (Kd.R_below (zr_ HO9) hb);have n3_:=am_ (Kd.R_below (zr_ HO17) hb);have n4_:=am_ (blk_below (zb_ BK11) hb);have n5_:=am_ (below_step (zl1_ HB GE11) hb);have n6_:=am_ (hbox);have n8_:=am_ ((zg1_ HB GE11 hg:w.heap.size≤gb19));have n9_:=am_ ((zn_ BK11 hg:gb11≠gb19));have n10_:=am_ ((zm_ BK11 hg:gb19≠gb11));clear HO_3;clear HO6;clear HO9;clear HO17;clear BK11;clear HB;have HO_3:=n0_;have HO6:=n1_;have HO9:=n2_;have HO17:=n3_;have BK11:=n4_;have HB:=n5_;have BK19:=n6_;have GE19:=n8_;clear n0_ n1_ n2_ n3_ n4_ n5_ n6_ n8_ n9_ n10_;clear hb hbox hg;obtain ⟨Ao56,co56,eo56⟩:=Kd.R_slice HO17.out;subst eo56;obtain ⟨hcz58_0,hcz58_1⟩:=x2_ BK19;have hfz58_0:=blk_frozen BK19.out 0;have hfz58_1:=blk_frozen BK19.out 1))
         go_roundg kj11
         case measure=>have:=HK1.out;have:=HJ1.out;have:=HJ7.out;have:=HJ11.out;omega
         case rel=>exact ⟨(t7),(wrap64 (x4_1+3)),(by first|rfl|(simp;done)|(simp [*];done)),H',⟨by have:=HK1.out;have:=HJ1.out;have:=HJ7.out;have:=HJ11.out;omega⟩,⟨zy_ HO9 BK19⟩,⟨zl2_ HB GE11 GE19⟩⟩
def law1_Num.f (a0:Int):Option (Int):=some a0
set_option maxHeartbeats 8000000 in
set_option maxRecDepth 100000 in
theorem law1_Num.calls (a0:Int) (r:Int) (w:World) (h:law1_Num.f a0=some r):
  Calls Try.prog 61 #[.int .i64 a0] w fun e w'=>e= .returned (.int .i64 r)∧Drawn0 w w':=by
 have H:(some a0)=some r:=h
 clear h
 obtain rfl:=Option.some.inj H
 go_enter Try.func61,Try.ntmps61
 go_wp2
 go_ret
 exact ⟨by first|rfl|(simp;done)|(simp [*];done),by repeat (first|exact Drawn0.refl _|apply Drawn0.step)⟩

def vec_Most.f:Option (Int×Int×Int):=some (1099511627776,1099511627776,1099511627776)
set_option maxHeartbeats 8000000 in
set_option maxRecDepth 100000 in
theorem vec_Most.calls (r1:Int) (r2:Int) (r3:Int) (w:World) (h:vec_Most.f=some (r1,r2,r3)):
  Calls Try.prog 157 #[] w fun e w'=>e= .returned (.agg #[.int .i64 r1, .int .i64 r2, .int .i64 r3])∧Below w.heap.size w w':=by
 have hu27:=Try.underlying27
 have HB:=am_ (Below.refl w.heap.size w)
 have H:(some (1099511627776,1099511627776,1099511627776))=some (r1,r2,r3):=h
 clear h
 simp only [Option.some.injEq,Prod.mk.injEq] at H
 obtain ⟨rfl,rfl,rfl⟩:=H
 go_enter Try.func157,Try.ntmps157
 go_wp2_with (first|((with_reducible refine gate_dst (N:=0) rfl ?_);refine bx_ (N:=0) (cs:=#[.int .i64 0, .int .i64 0, .int .i64 0]) (t:=27) ?_;intro gb1 hg w1 hbox hb;have BK1:=am_ (hbox);have GW1:=am_ ((zg0_ HB hg:w.heap.size≤gb1));have GE1:=am_ ((zg0_ HB hg:w.heap.size≤gb1));replace HB:=am_ (below_step (zl0_ HB) hb);clear hb hbox hg;obtain ⟨hcz2_0,hcz2_1,hcz2_2⟩:=x3_ BK1;have hfz2_0:=blk_frozen BK1.out 0;have hfz2_1:=blk_frozen BK1.out 1;have hfz2_2:=blk_frozen BK1.out 2))
 refine bodyPost_ret (results_cell_row rfl _ _ gb1 27 #[.int .i64 1099511627776, .int .i64 1099511627776, .int .i64 1099511627776] (0,0) _ rfl (zw_ BK1) Try.underlying27 rfl (by kernel_rfl)) rfl ?_
 exact ⟨by first|rfl|(simp [errW_none,errW_some]<;>rfl)|(simp [*,errW_none,errW_some]<;>rfl),zl1_ HB GE1⟩

def vec_May.f (a0_0:Int) (a0_1:Int) (a0_2:Int):Option (Bool):=(vec_Le.f 0 0 0 a0_0 a0_1 a0_2).bind fun t2=>(if t2=true then ((vec_Most.f).bind fun bt3=>((vec_Le.f a0_0 a0_1 a0_2 bt3.1 bt3.2.1 bt3.2.2).bind fun t6=>(some t6))) else (some false))
def vec_May.T1:Bool×List (List Nat×List Nat):=(true,[([],[]),([],[]),([0,1],[0,1]),([2,2],[2]),([3],[3]),([3,3],[3]),([4,5,5,3],[3,4,5]),([3,6],[3,6]),([7,6,0,1,2,3,4,5,6,7],[7])])
def vec_May.B1:List Nat:=[0,0,3,7,15,15,63,127,255]
theorem vec_May.tab1:rtab .any (opsOf Try.f115 1)=vec_May.T1:=by kernel_rfl
theorem vec_May.bits1:waitsOk vec_May.T1.2 vec_May.B1=true:=by kernel_rfl
set_option maxHeartbeats 8000000 in
set_option maxRecDepth 100000 in
theorem vec_May.calls (a0_0:Int) (a0_1:Int) (a0_2:Int) (r:Bool) (w:World) (h:vec_May.f a0_0 a0_1 a0_2=some r):
  Calls Try.prog 115 #[.agg #[.int .i64 a0_0, .int .i64 a0_1, .int .i64 a0_2]] w fun e w'=>e= .returned (.bool r)∧Below w.heap.size w w':=by
 have hu27:=Try.underlying27
 have HB:=am_ (Below.refl w.heap.size w)
 have H:((vec_Le.f 0 0 0 a0_0 a0_1 a0_2).bind fun t2=>(if t2=true then ((vec_Most.f).bind fun bt3=>((vec_Le.f a0_0 a0_1 a0_2 bt3.1 bt3.2.1 bt3.2.2).bind fun t6=>(some t6))) else (some false)))=some r:=h
 clear h
 replace H:=Option.bind_eq_some_iff.mp H
 obtain ⟨t2,A20,H⟩:=H
 try dsimp only at H
 have A2:=Aside0.mk A20
 clear A20
 by_cases c3:t2=true
 rotate_left
 ·replace c3:=Bool.eq_false_iff.mpr c3
  subst c3
  have H1:(some false)=some r:=by rw [if_neg (show¬(false=true) by decide)] at H;exact H
  clear H
  have H:=H1
  clear H1
  obtain rfl:=Option.some.inj H
  go_enter Try.func115,Try.ntmps115
  try go_wp2_with (first|((with_reducible refine gate_dst (N:=1) rfl ?_);refine bx_ (N:=1) (cs:=#[.int .i64 a0_0, .int .i64 a0_1, .int .i64 a0_2]) (t:=27) ?_;intro gb1 hg w11 hbox hb;have BK1:=am_ (hbox);have GW1:=am_ ((zg0_ HB hg:w.heap.size≤gb1));have GE1:=am_ ((zg0_ HB hg:w.heap.size≤gb1));replace HB:=am_ (below_step (zl0_ HB) hb);clear hb hbox hg))
  replace BK1:=am_ (blk_drew BK1.out)
  replace HB:=am_ (below_drew1 HB.out)
  refine start_ (n:=9) (S:=fun w'=>w'.cell? ⟨gb1,0,none⟩=some (.int .i64 a0_0)∧w'.cell? ⟨gb1,1,none⟩=some (.int .i64 a0_1)∧w'.cell? ⟨gb1,2,none⟩=some (.int .i64 a0_2)) (ds:=[]) (bt_ 9 0) (by kernel_rfl) rfl rfl ⟨(blk_cell BK1.out 0).trans rfl,(blk_cell BK1.out 1).trans rfl,(blk_cell BK1.out 2).trans rfl⟩ (fun hHeld=> ?_);refine with_tabW vec_May.tab1 vec_May.bits1 (fun HT_ HW_=> ?_)
  generalize w11.drew=w12 at BK1 HB hHeld ⊢
  refine pu_ (i:=0) (N:=some 3) (bt_ 9 1) HT_ ?_
  refine tk_ (i:=1) (N:=some 4) (bt_ 9 3) HT_ HW_ hHeld ?_
  refine on_ (i:=2) (N:=some 5) (bt_ 9 7) HT_ (fun K hK=> ?_)
  refine gs_ Try.func118 #[.agg #[.int .i64 0, .int .i64 0, .int .i64 0], .agg #[.int .i64 a0_0, .int .i64 a0_1, .int .i64 a0_2]] ?_
  with_reducible refine (vec_Le.calls 0 0 0 a0_0 a0_1 a0_2 false _ A2.out).mono ?_
  rintro e w13 ⟨rfl,hb⟩
  refine ⟨_,rfl, ?_⟩
  replace BK1:=am_ (blk_below (zb_ BK1) hb)
  replace HB:=am_ (below_step (zl1_ HB GE1) hb)
  (try clear hb)
  (try clear hb2)
  (try clear hk)
  (try clear hi)
  refine hK.out _ _ ⟨(blk_cell BK1.out 0).trans rfl,(blk_cell BK1.out 1).trans rfl,(blk_cell BK1.out 2).trans rfl⟩ (fun hHeld=> ?_)
  clear hK K
  refine no_ (N:=some 5) ?_
  refine pu_ (i:=3) (N:=some 6) (bt_ 9 15) HT_ ?_
  refine pn_ (i:=4) (N:=some 7) (bt_ 9 31) HT_ ?_
  refine pn_ (i:=5) (N:=some 8) (bt_ 9 63) HT_ ?_
  refine pn_ (i:=6) (N:=some 9) (bt_ 9 127) HT_ ?_
  refine pu_ (i:=7) (N:=some 10) (bt_ 9 255) HT_ ?_
  refine pu_ (i:=8) (N:=some 2) (bt_ 9 511) HT_ ?_
  refine done_ (done_of HT_.out (by kernel_rfl)) ?_
  try go_wp2
  go_ret
  exact ⟨by first|rfl|(simp [errW_none,errW_some]<;>rfl)|(simp [*,errW_none,errW_some]<;>rfl),zl1_ HB GE1⟩

 subst c3
 have H1:((vec_Most.f).bind fun bt3=>((vec_Le.f a0_0 a0_1 a0_2 bt3.1 bt3.2.1 bt3.2.2).bind fun t6=>(some t6)))=some r:=by rw [if_pos rfl] at H;exact H
 clear H
 have H:=H1
 clear H1
 replace H:=Option.bind_eq_some_iff.mp H
 obtain ⟨⟨t3,t4,t5⟩,A40,H⟩:=H
 try dsimp only at H
 have A4:=Aside0.mk A40
 clear A40
 replace H:=Option.bind_eq_some_iff.mp H
 obtain ⟨t6,A50,H⟩:=H
 try dsimp only at H
 have A5:=Aside0.mk A50
 clear A50
 obtain rfl:=Option.some.inj H
 go_enter Try.func115,Try.ntmps115
 try go_wp2_with (first|((with_reducible refine gate_dst (N:=1) rfl ?_);refine bx_ (N:=1) (cs:=#[.int .i64 a0_0, .int .i64 a0_1, .int .i64 a0_2]) (t:=27) ?_;intro gb1 hg w6 hbox hb;have BK1:=am_ (hbox);have GW1:=am_ ((zg0_ HB hg:w.heap.size≤gb1));have GE1:=am_ ((zg0_ HB hg:w.heap.size≤gb1));replace HB:=am_ (below_step (zl0_ HB) hb);clear hb hbox hg))
 replace BK1:=am_ (blk_drew BK1.out)
 replace HB:=am_ (below_drew1 HB.out)
 refine start_ (n:=9) (S:=fun w'=>w'.cell? ⟨gb1,0,none⟩=some (.int .i64 a0_0)∧w'.cell? ⟨gb1,1,none⟩=some (.int .i64 a0_1)∧w'.cell? ⟨gb1,2,none⟩=some (.int .i64 a0_2)) (ds:=[]) (bt_ 9 0) (by kernel_rfl) rfl rfl ⟨(blk_cell BK1.out 0).trans rfl,(blk_cell BK1.out 1).trans rfl,(blk_cell BK1.out 2).trans rfl⟩ (fun hHeld=> ?_);refine with_tabW vec_May.tab1 vec_May.bits1 (fun HT_ HW_=> ?_)
 generalize w6.drew=w7 at BK1 HB hHeld ⊢
 refine pu_ (i:=0) (N:=some 3) (bt_ 9 1) HT_ ?_
 refine tk_ (i:=1) (N:=some 4) (bt_ 9 3) HT_ HW_ hHeld ?_
 refine on_ (i:=2) (N:=some 5) (bt_ 9 7) HT_ (fun K hK=> ?_)
 refine gs_ Try.func118 #[.agg #[.int .i64 0, .int .i64 0, .int .i64 0], .agg #[.int .i64 a0_0, .int .i64 a0_1, .int .i64 a0_2]] ?_
 with_reducible refine (vec_Le.calls 0 0 0 a0_0 a0_1 a0_2 true _ A2.out).mono ?_
 rintro e w8 ⟨rfl,hb⟩
 refine ⟨_,rfl, ?_⟩
 replace BK1:=am_ (blk_below (zb_ BK1) hb)
 replace HB:=am_ (below_step (zl1_ HB GE1) hb)
 (try clear hb)
 (try clear hb2)
 (try clear hk)
 (try clear hi)
 refine hK.out _ _ ⟨(blk_cell BK1.out 0).trans rfl,(blk_cell BK1.out 1).trans rfl,(blk_cell BK1.out 2).trans rfl⟩ (fun hHeld=> ?_)
 clear hK K
 refine no_ (N:=some 5) ?_
 refine pu_ (i:=3) (N:=some 6) (bt_ 9 15) HT_ ?_
 refine tk_ (i:=4) (N:=some 7) (bt_ 9 31) HT_ HW_ hHeld ?_
 refine on_ (i:=5) (N:=some 8) (bt_ 9 63) HT_ (fun K hK=> ?_)
 refine gs_ Try.func157 #[] ?_
 with_reducible refine (vec_Most.calls t3 t4 t5 _ A4.out).mono ?_
 rintro e w9 ⟨rfl,hb⟩
 refine ⟨_,rfl, ?_⟩
 replace BK1:=am_ (blk_below (zb_ BK1) hb)
 replace HB:=am_ (below_step (zl1_ HB GE1) hb)
 (try clear hb)
 (try clear hb2)
 (try clear hk)
 (try clear hi)
 refine hK.out _ _ ⟨(blk_cell BK1.out 0).trans rfl,(blk_cell BK1.out 1).trans rfl,(blk_cell BK1.out 2).trans rfl⟩ (fun hHeld=> ?_)
 clear hK K
 refine no_ (N:=some 8) ?_
 refine on_ (i:=6) (N:=some 9) (bt_ 9 127) HT_ (fun K hK=> ?_)
 refine gs_ Try.func118 #[.agg #[.int .i64 a0_0, .int .i64 a0_1, .int .i64 a0_2], .agg #[.int .i64 t3, .int .i64 t4, .int .i64 t5]] ?_
 with_reducible refine (vec_Le.calls a0_0 a0_1 a0_2 t3 t4 t5 t6 _ A5.out).mono ?_
 rintro e w10 ⟨rfl,hb⟩
 refine ⟨_,rfl, ?_⟩
 replace BK1:=am_ (blk_below (zb_ BK1) hb)
 replace HB:=am_ (below_step (zl1_ HB GE1) hb)
 (try clear hb)
 (try clear hb2)
 (try clear hk)
 (try clear hi)
 refine hK.out _ _ ⟨(blk_cell BK1.out 0).trans rfl,(blk_cell BK1.out 1).trans rfl,(blk_cell BK1.out 2).trans rfl⟩ (fun hHeld=> ?_)
 clear hK K
 refine no_ (N:=some 9) ?_
 refine pu_ (i:=7) (N:=some 10) (bt_ 9 255) HT_ ?_
 refine pu_ (i:=8) (N:=some 2) (bt_ 9 511) HT_ ?_
 refine done_ (done_of HT_.out (by kernel_rfl)) ?_
 try go_wp2
 go_ret
 exact ⟨by first|rfl|(simp [errW_none,errW_some]<;>rfl)|(simp [*,errW_none,errW_some]<;>rfl),zl1_ HB GE1⟩
theorem step_copy {P:Program} {ops:Array Oper} {o:Oper} {a:Act} {w w':World} {K:Act→World→Prop} {Q:Exit→Act→World→Prop} {E:Prop} (hg:o.guard=none) (d x:Operand) (dT sT:TypeId)
  (hop:o.op=Op.call {callee:=Callee.builtin .copy,args:=#[d,x],argTypes:=#[dT,sT]}) (v u:Value) (hd:a.eval d=v) (hx:a.eval x=u) {v':Value}
  (hr:(Builtin.copy_ #[dT,sT] o.type #[v,u]).run P w= .ok v' w') (hK:K (a.put o.dst v') w'):if Region.wanted o (yielded ops a.tmps)=true then Oper.wp P o a w K Q else E:=by
 have hw:Region.wanted o (yielded ops a.tmps)=true:=by simp [Region.wanted,hg]
 rw [if_pos hw]
 unfold Oper.wp execOp
 simp only [hop,resolve,invoke,builtin,Sem.run_bind,Sem.run_pure,Result.andThen_ok,List.map_toArray,List.map_cons,List.map_nil,hd,hx,hr]
 exact hK
theorem sh_read {w:World} {vb:Nat} {x:S31} (h:w.heap[vb]?=some (.cells (shCells x).toArray 31 (0,0))):Kd.C k31 w (some ⟨vb,0,none⟩) 1 [x]:=
 (Kd.R_reads' (R_of_cells (base:=0) (l:=[x]) (c:=1) (Nat.zero_le _) (Nat.le_refl _) (by decide) h rfl (by simp [flat,shCells]))).2.2
set_option maxHeartbeats 4000000 in
set_option maxRecDepth 100000 in
theorem sliInsert_end (w:World) (base:Nat) (v:Value) (l:List S31) (x:S31) (vb:Nat) (hr:Kd.R k31 31 w base (fun _=>True) v l) (hv:w.heap[vb]?=some (.cells (shCells x).toArray 31 (0,0))) (hbase:base≤w.heap.size) (hlim:l.length<1000000):
    Calls Try.prog 139 #[v, .int .i64 l.length, .slice (some ⟨vb,0,none⟩) 1 1] w fun e w'=> ∃v',e= .returned v'∧Kd.R k31 31 w' base (fun _=>True) v' (l++ [x])∧Below base w w':=by
  have HR:=Aside0.mk hr
  have HC:=am_ (sh_read hv)
  have HB:=am_ (Below.refl base w)
  obtain ⟨A,c,rfl⟩:=Kd.R_slice hr
  have hle:=(Kd.R_reads' hr).2.1
  clear hr hv
  have HBASE:=Aside0.mk hbase
  clear hbase
  cases A with
  | none =>
    go_enter Try.func139,Try.ntmps139
    go_wp2_with ((with_reducible refine gate_builtin (b:= .append) (xs:=#[.tmp 23, .tmp 24]) rfl ?_);at_builtin;refine Kd.R_append_rows k31 (w0:=w) base rfl (.tmp 23) (.tmp 24) 24 31 (.agg #[(.string ⟨#[]⟩),(.string ⟨#[]⟩),(.int .i64 0),(.int .i64 0),(.int .i64 0),(.int .i64 0),(.int .i64 0),(.int .i64 0),(.int .i64 0),(.int .i64 0),(.int .i64 0),(.int .i64 0)]) 112 rfl Try.underlying24 info31 rfl (by decide) (by omega) (.slice none l.length c) l [x] _ _ _ (fun _=>True) (fun _=>False) rfl rfl HR.out HC.out (fun _ _ h=>h) (fun _ h=>h.elim) (fun _ _=>trivial) HB.out HBASE.out (by omega) ?_;intro v5 w5 ho hb hg hat;have HO5:=Aside0.mk ho;have HB5:=Aside0.mk hb;clear ho hb hg hat)
    all_goals (go_ret;exact ⟨_,rfl,HO5.out,HB5.out⟩)
  | some ad =>
    go_enter Try.func139,Try.ntmps139
    go_wp2_with ((with_reducible refine gate_builtin (b:= .append) (xs:=#[.tmp 23, .tmp 24]) rfl ?_);at_builtin;refine Kd.R_append_rows k31 (w0:=w) base rfl (.tmp 23) (.tmp 24) 24 31 (.agg #[(.string ⟨#[]⟩),(.string ⟨#[]⟩),(.int .i64 0),(.int .i64 0),(.int .i64 0),(.int .i64 0),(.int .i64 0),(.int .i64 0),(.int .i64 0),(.int .i64 0),(.int .i64 0),(.int .i64 0)]) 112 rfl Try.underlying24 info31 rfl (by decide) (by omega) (.slice (some ad) l.length c) l [x] _ _ _ (fun _=>True) (fun _=>False) rfl rfl HR.out HC.out (fun _ _ h=>h) (fun _ h=>h.elim) (fun _ _=>trivial) HB.out HBASE.out (by omega) ?_;intro v5 w5 ho hb hg hat;have HO5:=Aside0.mk ho;have HB5:=Aside0.mk hb;clear ho hb hg hat)
    all_goals (go_ret;exact ⟨_,rfl,HO5.out,HB5.out⟩)
set_option maxHeartbeats 4000000 in
set_option maxRecDepth 100000 in
theorem sliInsert_shift (w:World) (g n c i vb:Nat) (cs vs:List Value) (cur:Array Value) (hh:w.heap[g]?=some (.cells cur 31 (0,0))) (hsz:cur.size=c*12) (hi:i<n) (hroom:n+1≤c) (hc63:c≤9223372036854775807) (hvb:vb≠g)
    (hcs:cur.toList.take (n*12)=cs) (hv:w.heap[vb]?=some (.cells vs.toArray 31 (0,0))) (hvl:vs.length=12) (h1c: ∀u∈cs,u.oneCell'=true) (h1v: ∀u∈vs,u.oneCell'=true):
    Calls Try.prog 139 #[.slice (some ⟨g,0,none⟩) n c, .int .i64 i, .slice (some ⟨vb,0,none⟩) 1 1] w fun e w'=>e= .returned (.slice (some ⟨g,0,none⟩) (n+1) c)∧w'=(w.drew.setCells g ((i+1)*12) (cs.drop (i*12))).setCells g (i*12) vs:=by
  have hcl:cs.length=n*12:=by rw [←hcs,List.length_take,Array.length_toList,hsz];omega
  have hdl:(cs.drop (i*12)).length=(n - i)*12:=by rw [List.length_drop,hcl];omega
  have hget: ∀j u,cs[j]?=some u→w.cell? ⟨g,j,none⟩=some u:=by
    intro j u hu
    rw [←hcs,List.getElem?_take] at hu
    split at hu
    · exact plain_cell hh hu
    cases hu
  have hS:(Try.prog.info? 31).map (·.size)=some 12:=by
    obtain ⟨i0,hi0,_,h1,_⟩:=info_parts info31
    rw [hi0]
    simp [h1]
  have hov: ∀o lb cb,(callFunc 167 #[.slice (some ⟨vb,0,none⟩) 1 1, .slice (some ⟨g,o,none⟩) lb cb]).run Try.prog w= .ok (.value (.bool false)) w:=fun o lb cb=>by
    rw [run_callFunc_extern Try.func167 (by kernel_rfl) (by kernel_rfl) (by kernel_rfl) (e:=Extern.SlicesOverlaps.overlaps #[24,24] #[4]) (by kernel_rfl),
      Lib.run_overlaps_apart w 24 4 31 Try.underlying24 12 Try.sizeOf31 ⟨vb,0,none⟩ ⟨g,o,none⟩ 1 1 lb cb hvb 31 31 12 (c*12) (by rw [←hvl];simp [World.shape?,hv]) (by rw [←hsz];simp [World.shape?,hh]) (by omega) (blk_frozen hv _) (blk_frozen hv _)]
    rfl
  have hcp1: ∀ty o1 n1 dc o2 n2 sc,o1=(i+1)*12→n1=n - i→o2=i*12→n2=n+1 - i→(Builtin.copy_ #[24,24] ty #[.slice (some ⟨g,o1,none⟩) n1 dc, .slice (some ⟨g,o2,none⟩) n2 sc]).run Try.prog w.drew= .ok (goInt (n - i:Nat)) (w.drew.setCells g ((i+1)*12) (cs.drop (i*12))):=by
    rintro ty _ _ dc _ _ sc rfl rfl rfl rfl
    exact run_copy_wide w.drew _ _ ty 31 12 g ((i+1)*12) (n - i) dc ⟨g,i*12,none⟩ (n+1 - i) sc (cs.drop (i*12)) Try.underlying24 hS (n - i) (by simp only [Nat.min_def];split<;>omega) hdl
      (fun j u hj=>by rw [Addr.add_lit];exact hget (i*12+j) u (by rwa [List.getElem?_drop] at hj))
      (fun j hj=>plain_there (w:=w.drew) (blk_drew hh) (by rw [hdl] at hj;omega)) (fun j hj=>blk_frozen (w:=w.drew) (blk_drew hh) _) (fun u hu=>h1c u (List.mem_of_mem_drop hu))
  obtain ⟨W1,hW1⟩: ∃W1,W1=w.drew.setCells g ((i+1)*12) (cs.drop (i*12)):=⟨_,rfl⟩
  have hg1: ∃cur1,W1.heap[g]?=some (.cells cur1 31 (0,0))∧cur1.size=cur.size:=by
    obtain ⟨cur',a,b,_⟩:=setCells_row (cs.drop (i*12)) ((i+1)*12) w.drew cur (blk_drew hh) (by rw [hdl];omega)
    exact ⟨cur',by rw [hW1];exact a,b⟩
  obtain ⟨cur1,hg1,hz1⟩:=hg1
  have hvb1:W1.heap[vb]?=some (.cells vs.toArray 31 (0,0)):=by rw [hW1,setCells_far _ _ _ hvb];exact blk_drew hv
  have hcp2: ∀ty o1 n1 dc,o1=i*12→n1=n+1 - i→(Builtin.copy_ #[24,24] ty #[.slice (some ⟨g,o1,none⟩) n1 dc, .slice (some ⟨vb,0,none⟩) 1 1]).run Try.prog W1= .ok (goInt (1:Nat)) (W1.setCells g (i*12) vs):=by
    rintro ty _ _ dc rfl rfl
    exact run_copy_wide W1 _ _ ty 31 12 g (i*12) (n+1 - i) dc ⟨vb,0,none⟩ 1 1 vs Try.underlying24 hS 1 (by simp only [Nat.min_def];split<;>omega) (by omega)
      (fun j u hj=>by rw [Addr.add_lit,Nat.zero_add];exact plain_cell hvb1 (by simpa using hj))
      (fun j hj=>plain_there hg1 (by omega)) (fun j hj=>blk_frozen hg1 _) h1v
  have HW:=Aside0.mk hW1
  rw [←hW1] at hcp1
  have CP1:=Aside0.mk hcp1
  have CP2:=Aside0.mk hcp2
  have HOV:=Aside0.mk hov
  have hz1: ¬((1:Int)=0):=by omega
  have hz2: ¬((i:Int)=(n:Int)):=by omega
  have hz3: ¬((c:Int)<(n:Int)+1):=by omega
  have hin:i≤n:=by omega
  have hz4:(0:Int)≤(i:Int)+1:=by omega
  have hz5:(i:Int)+1≤(n:Int)+1:=by omega
  have hz6:(i:Int)≤(n:Int)+1:=by omega
  have hz7: ¬(c=i+1):=by omega
  have hz8: ¬(c=i):=by omega
  have hw1:IntKind.i64.wrap ((i:Int)+1)=(i:Int)+1:=by rw [IntKind.wrap_i64];omega
  have htn:((i:Int)+1).toNat=i+1:=by omega
  have mixed:Try.prog.follows .mixedOrders=true:=by kernel_rfl
  clear hcl hdl hget hS hov hcp1 hcp2 hW1 hg1 hz1 hvb1 hh hsz hcs hv hvl h1c h1v
  go_enter Try.func139,Try.ntmps139
  go_wp2_with (rw [HOV.out])
  go_region_law_o (refine step_copy rfl _ _ 24 24 rfl (.slice (some ⟨g,(i+1)*12,none⟩) (n - i) (c - (i+1))) (.slice (some ⟨g,i*12,none⟩) (n+1 - i) (c - i)) (by simp [Act.eval,Act.put]) (by simp [Act.eval,Act.put]) (CP1.out _ _ _ _ _ _ _ rfl rfl rfl rfl) ?_)
  go_wp2_with fail
  rw [CP2.out _ _ _ _ rfl rfl]
  go_wp2
  go_ret
  refine ⟨rfl, ?_⟩
  rw [HW.out]
set_option maxHeartbeats 4000000 in
set_option maxRecDepth 100000 in
theorem sliInsert_grow (w:World) (g n c i vb:Nat) (cs vs:List Value) (cur:Array Value) (hh:w.heap[g]?=some (.cells cur 31 (0,0))) (hsz:cur.size=c*12) (hi:i<n) (hnc:n≤c) (hroom:c<n+1) (hlim:n<1000000)
    (hcs:cur.toList.take (n*12)=cs) (hv:w.heap[vb]?=some (.cells vs.toArray 31 (0,0))) (hvl:vs.length=12) (h1c: ∀u∈cs,u.oneCell'=true) (h1v: ∀u∈vs,u.oneCell'=true):
    Calls Try.prog 139 #[.slice (some ⟨g,0,none⟩) n c, .int .i64 i, .slice (some ⟨vb,0,none⟩) 1 1] w fun e w'=> ∃(G:Nat) (cur':Array Value),e= .returned (.slice (some ⟨w.heap.size,0,none⟩) (n+1) G)∧n+1≤G∧G≤9223372036854775807∧
      w'.heap[w.heap.size]?=some (.cells cur' 31 (0,0))∧cur'.size=G*12∧cur'.toList.take ((n+1)*12)=cs.take (i*12)++vs++cs.drop (i*12)∧Below w.heap.size w w':=by
  have hcl:cs.length=n*12:=by rw [←hcs,List.length_take,Array.length_toList,hsz];omega
  have hdl:(cs.drop (i*12)).length=(n - i)*12:=by rw [List.length_drop,hcl];omega
  have htl:(cs.take (i*12)).length=i*12:=by rw [List.length_take,hcl];omega
  have hget: ∀j u,cs[j]?=some u→w.cell? ⟨g,j,none⟩=some u:=by
    intro j u hu
    rw [←hcs,List.getElem?_take] at hu
    split at hu
    · exact plain_cell hh hu
    cases hu
  obtain ⟨i0,hi0,hz0,hzs,hzb⟩:=info_parts info31
  have hS:(Try.prog.info? 31).map (·.size)=some 12:=by
    rw [hi0]
    simp [hzs]
  have hgw:g<w.heap.size:=blk_lt hh
  have hvw:vb<w.heap.size:=blk_lt hv
  have hkk:(n:Int)+1 - (i:Int)=((n+1 - i:Nat):Int):=by omega
  have hik:i+(n+1 - i)=n+1:=by omega
  have hold:(Builtin.firstCells i0.size i (.slice (some ⟨g,0,none⟩) i c)).run Try.prog w.drew= .ok (cs.take (i*12)).toArray w.drew:=by
    rw [hzs]
    exact run_firstCells_some w.drew 12 i ⟨g,0,none⟩ i c (cs.take (i*12)) htl (fun j u hj=>by
      rw [Addr.add_lit,Nat.zero_add]
      rw [List.getElem?_take] at hj
      split at hj
      · exact hget j u hj
      cases hj)
  obtain ⟨G,hG⟩: ∃G,G=grownCap w (n+1) c 31:=⟨_,rfl⟩
  obtain ⟨ROW,hROW⟩: ∃ROW:Array Value,ROW=(cs.take (i*12)).toArray++Builtin.zeroCells (Value.agg zCells.toArray).cells (n+1 - i)++Builtin.zeroCells (Value.agg zCells.toArray).cells (G - (n+1)):=⟨_,rfl⟩
  have hrz: ∀ty k,k=(n:Int)+1 - (i:Int)→(Builtin.append_ #[24,3] ty #[.slice (some ⟨g,0,none⟩) i c, .int .i64 k]).run Try.prog w=
      .ok (.slice (some ⟨w.heap.size,0,none⟩) (n+1) G) (w.drew.alloc (.cells ROW 31)):=fun ty k hk=>by
    have h:=Lib.run_append_grow_zeros w 24 3 ty 31 i0 _ .i64 .i64 Try.underlying24 Try.underlying3 hi0 hz0 (some ⟨g,0,none⟩) i c (cs.take (i*12)) hold (n+1 - i) (by omega) (by omega) (by omega) (by omega) (by rw [hzb];omega) (by rw [hzb,hik];exact growslice_fits hroom (by omega))
    rw [hik] at h
    rw [hk,hkk,hG,hROW,hG]
    exact h
  have hGn:n+1≤G:=by rw [hG];exact grownCap_ge w _ _ _
  have hG63:G≤9223372036854775807:=by
    have:=grownCap_le_maxLen w (n+1) c 31 (by unfold maxLen;omega)
    rw [←hG] at this
    unfold maxLen at this
    omega
  have hRl:ROW.size=G*12:=by
    rw [hROW]
    simp [Builtin.zeroCells,Value.cells,zCells,htl]
    omega
  have hRt:ROW.toList.take (i*12)=cs.take (i*12):=by
    rw [hROW]
    simp only [Array.toList_append,List.append_assoc]
    exact List.take_left' htl
  obtain ⟨W1,hW1⟩: ∃W1,W1=w.drew.alloc (.cells ROW 31):=⟨_,rfl⟩
  rw [←hW1] at hrz
  have hN:W1.heap[w.heap.size]?=some (.cells ROW 31 (0,0)):=by rw [hW1];exact blk_new w.drew _
  have hg1:W1.heap[g]?=some (.cells cur 31 (0,0)):=by rw [hW1];exact blk_alloc (blk_drew hh) _
  have hv1:W1.heap[vb]?=some (.cells vs.toArray 31 (0,0)):=by rw [hW1];exact blk_alloc (blk_drew hv) _
  have hB1:Below w.heap.size w W1:=by rw [hW1];exact below_alloc (below_drew (Below.refl _ _)) _
  have hcpA: ∀ty o1 n1 dc,o1=i*12→n1=n+1 - i→(Builtin.copy_ #[24,24] ty #[.slice (some ⟨w.heap.size,o1,none⟩) n1 dc, .slice (some ⟨vb,0,none⟩) 1 1]).run Try.prog W1= .ok (goInt (1:Nat)) (W1.setCells w.heap.size (i*12) vs):=by
    rintro ty _ _ dc rfl rfl
    exact run_copy_wide W1 _ _ ty 31 12 w.heap.size (i*12) (n+1 - i) dc ⟨vb,0,none⟩ 1 1 vs Try.underlying24 hS 1 (by simp only [Nat.min_def];split<;>omega) (by omega)
      (fun j u hj=>by rw [Addr.add_lit,Nat.zero_add];exact plain_cell hv1 (by simpa using hj))
      (fun j hj=>plain_there hN (by omega)) (fun j hj=>blk_frozen hN _) h1v
  obtain ⟨W2,hW2⟩: ∃W2,W2=W1.setCells w.heap.size (i*12) vs:=⟨_,rfl⟩
  rw [←hW2] at hcpA
  obtain ⟨R2,hN2,hR2,hT2⟩:=setCells_row vs (i*12) W1 ROW hN (by omega)
  rw [←hW2] at hN2
  have hg2:W2.heap[g]?=some (.cells cur 31 (0,0)):=by rw [hW2,setCells_far _ _ _ (by omega)];exact hg1
  have hB2:Below w.heap.size w W2:=by rw [hW2];exact Below.setCells_ hB1 (Nat.le_refl _) _ _
  have hcpB: ∀ty o1 n1 dc o2 n2 sc,o1=(i+1)*12→n1=n - i→o2=i*12→n2=n - i→(Builtin.copy_ #[24,24] ty #[.slice (some ⟨w.heap.size,o1,none⟩) n1 dc, .slice (some ⟨g,o2,none⟩) n2 sc]).run Try.prog W2.drew= .ok (goInt (n - i:Nat)) (W2.drew.setCells w.heap.size ((i+1)*12) (cs.drop (i*12))):=by
    rintro ty _ _ dc _ _ sc rfl rfl rfl rfl
    exact run_copy_wide W2.drew _ _ ty 31 12 w.heap.size ((i+1)*12) (n - i) dc ⟨g,i*12,none⟩ (n - i) sc (cs.drop (i*12)) Try.underlying24 hS (n - i) (by simp only [Nat.min_def];split<;>omega) hdl
      (fun j u hj=>by
        rw [Addr.add_lit]
        rw [List.getElem?_drop] at hj
        refine plain_cell (w:=W2.drew) (blk_drew hg2) ?_
        rw [←hcs,List.getElem?_take] at hj
        split at hj
        · exact hj
        cases hj)
      (fun j hj=>plain_there (w:=W2.drew) (blk_drew hN2) (by rw [hdl] at hj;omega)) (fun j hj=>blk_frozen (w:=W2.drew) (blk_drew hN2) _) (fun u hu=>h1c u (List.mem_of_mem_drop hu))
  obtain ⟨W3,hW3⟩: ∃W3,W3=W2.drew.setCells w.heap.size ((i+1)*12) (cs.drop (i*12)):=⟨_,rfl⟩
  rw [←hW3] at hcpB
  obtain ⟨R3,hN3,hR3,hT3⟩:=setCells_row (cs.drop (i*12)) ((i+1)*12) W2.drew R2 (blk_drew hN2) (by omega)
  rw [←hW3] at hN3
  have hB3:Below w.heap.size w W3:=by rw [hW3];exact Below.setCells_ (below_drew hB2) (Nat.le_refl _) _ _
  have hFin:R3.toList.take ((n+1)*12)=cs.take (i*12)++vs++cs.drop (i*12):=by
    have e1:R2.toList.take ((i+1)*12)=cs.take (i*12)++vs:=by
      rw [hT2,hRt]
      exact List.take_left' (by simp only [List.length_append,htl,hvl];omega)
    rw [hT3,e1]
    exact List.take_left' (by simp only [List.length_append,htl,hvl,hdl];omega)
  have hz1: ¬((1:Int)=0):=by omega
  have hz2: ¬((i:Int)=(n:Int)):=by omega
  have hz3:(c:Int)<(n:Int)+1:=by omega
  have hin:i≤n:=by omega
  have hz4:(0:Int)≤(i:Int)+1:=by omega
  have hz5:(i:Int)+1≤(n:Int)+1:=by omega
  have hz6:(i:Int)≤(n:Int)+1:=by omega
  have hz7: ¬(G=i+1):=by omega
  have hz8: ¬(G=i):=by omega
  have hz9: ¬(c=i):=by omega
  have hw1:IntKind.i64.wrap ((i:Int)+1)=(i:Int)+1:=by rw [IntKind.wrap_i64];omega
  have hw2:IntKind.i64.wrap ((n:Int)+1)=(n:Int)+1:=by rw [IntKind.wrap_i64];omega
  have hw3:IntKind.i64.wrap ((n:Int)+1 - (i:Int))=(n:Int)+1 - (i:Int):=by rw [IntKind.wrap_i64];omega
  have htn:((i:Int)+1).toNat=i+1:=by omega
  have hic:i≤c:=by omega
  have mixed:Try.prog.follows .mixedOrders=true:=by kernel_rfl
  have RZ:=Aside0.mk hrz
  have CA:=Aside0.mk hcpA
  have CB:=Aside0.mk hcpB
  have E1:=Aside0.mk hGn
  have E2:=Aside0.mk hG63
  have E3:=Aside0.mk hN3
  have E4:=am_ (show R3.size=G*12 by omega)
  have E5:=Aside0.mk hFin
  have E6:=Aside0.mk hB3
  clear hcl hdl htl hget hi0 hz0 hzs hzb hS hgw hvw hkk hik hold hG hROW hrz hRl hRt hW1 hN hg1 hv1 hB1 hcpA hW2 hN2 hR2 hT2 hg2 hB2 hcpB hW3 hN3 hR3 hT3 hB3 hFin hh hsz hcs hv hvl h1c h1v hGn hG63 i0 ROW R2
  go_enter Try.func139,Try.ntmps139
  go_wp2_with ((with_reducible refine gate_builtin (b:= .append) (xs:=#[.tmp 34, .tmp 39]) rfl ?_);at_builtin;refine Lib.wpList_append_run _ rfl _ _ _ _ rfl _ _ rfl rfl _ _ (RZ.out _ _ rfl) ?_)
  rw [CA.out _ _ _ _ rfl rfl]
  go_wp2_with fail
  go_region_law_o (refine step_copy rfl _ _ 24 24 rfl (.slice (some ⟨w.heap.size,(i+1)*12,none⟩) (n - i) (G - (i+1))) (.slice (some ⟨g,i*12,none⟩) (n - i) (c - i)) (by simp [Act.eval,Act.put]) (by simp [Act.eval,Act.put]) (CB.out _ _ _ _ _ _ _ rfl rfl rfl rfl) ?_)
  go_wp2_with fail
  go_ret
  exact ⟨G,R3,rfl,E1.out,E2.out,E3.out,E4.out,E5.out,E6.out⟩
theorem Below.lower_ {a w:World} {b base:Nat} (h:Below b a w) (hb:base≤b):Below base a w:=⟨h.os,h.tape,h.output,h.size,fun k hk=>h.block k (Nat.lt_of_lt_of_le hk hb)⟩
theorem sliInsert_calls (w:World) (base:Nat) (v:Value) (l:List S31) (i:Nat) (x:S31) (vb:Nat) (hr:Kd.R k31 31 w base (fun _=>True) v l) (hi:i≤l.length) (hv:w.heap[vb]?=some (.cells (shCells x).toArray 31 (0,0))) (hvb:v.ownBlock≠some vb) (hbase:base≤w.heap.size) (hlim:l.length<1000000):
    Calls Try.prog 139 #[v, .int .i64 i, .slice (some ⟨vb,0,none⟩) 1 1] w fun e w'=> ∃v',e= .returned v'∧Kd.R k31 31 w' base (fun _=>True) v' (l.take i++x::l.drop i)∧Below base w w':=by
  rcases Nat.eq_or_lt_of_le hi with rfl|hlt
  · rw [List.take_length, List.drop_length]
    exact sliInsert_end w base v l x vb hr hv hbase hlim
  obtain ⟨g,c,rfl,hg,hgl⟩:=sh_head hr (by omega)
  obtain ⟨_,_,hnc,hcm,cur,hh,hcs,ht⟩:=R_cells hr
  have h1v: ∀u∈shCells x,u.oneCell'=true:=fun u hu=>flat_one [x] u (by simpa [flat] using hu)
  have h1c: ∀u∈flat l,u.oneCell'=true:=flat_one l
  have hvg:vb≠g:=by rintro rfl;exact hvb (by simp [Value.ownBlock])
  have hll:(l.take i++x::l.drop i).length=l.length+1:=by simp;omega
  have hfl:flat (l.take i++x::l.drop i)=(flat l).take (i*12)++shCells x++(flat l).drop (i*12):=by
    rw [flat_append,flat_take l i hi,flat_drop l i hi,List.append_assoc]
    rfl
  by_cases hroom:l.length+1≤c
  rotate_left
  · refine (sliInsert_grow w g l.length c i vb (flat l) (shCells x) cur hh hcs hlt hnc (by omega) hlim ht hv rfl h1c h1v).mono ?_
    rintro e w' ⟨G,cur',rfl,h1,h2,h3,h4,h5,h6⟩
    refine ⟨_,rfl, ?_,Below.lower_ h6 hbase⟩
    have:=R_of_cells (l:=l.take i++x::l.drop i) hbase (by rw [hll];omega) h2 h3 h4 (by rw [hll,hfl,h5])
    rw [hll] at this
    exact this
  refine (sliInsert_shift w g l.length c i vb (flat l) (shCells x) cur hh hcs hlt hroom hcm hvg ht hv rfl h1c h1v).mono ?_
  rintro e w' ⟨rfl,rfl⟩
  have hlc:(l.length+1)*12≤cur.size:=by rw [hcs];exact Nat.mul_le_mul_right _ hroom
  have hl1:((flat l).drop (i*12)).length=(l.length - i)*12:=by rw [List.length_drop,flat_len];omega
  obtain ⟨cur1,h1,s1,t1⟩:=setCells_row ((flat l).drop (i*12)) ((i+1)*12) w.drew cur (blk_drew hh) (by rw [hl1];omega)
  obtain ⟨cur2,h2,s2,t2⟩:=setCells_row (shCells x) (i*12) _ cur1 h1 (by rw [s1];show _+12≤_;omega)
  refine ⟨_,rfl, ?_,Below.setCells_ (Below.setCells_ (below_drew (Below.refl _ _)) hg _ _) hg _ _⟩
  have:=R_of_cells (l:=l.take i++x::l.drop i) hg (by rw [hll];omega) hcm h2 (by rw [s2,s1,hcs]) (by
    rw [hll,hfl,t2]
    have e1:cur1.toList.take (i*12)=(flat l).take (i*12):=by
      rw [t1,List.append_assoc,List.take_append_of_le_length (by simp [Array.length_toList];omega),List.take_take,Nat.min_eq_left (by omega),←ht,List.take_take,Nat.min_eq_left (by omega)]
    have e2:(cur1.toList.drop (i*12+(shCells x).length)).take ((l.length - i)*12)=(flat l).drop (i*12):=by
      rw [t1,show i*12+(shCells x).length=(i+1)*12 by rw [shCells_len];omega,List.append_assoc,List.drop_left' (by simp [Array.length_toList];omega)]
      exact List.take_left' hl1
    have e3:(cur1.toList.take (i*12)++shCells x).length=(i+1)*12:=by
      rw [List.length_append,List.length_take,Array.length_toList,shCells_len,Nat.min_eq_left (by omega)]
      omega
    rw [List.take_append,List.take_of_length_le (by rw [e3];omega),e3,show (l.length+1)*12 - (i+1)*12=(l.length - i)*12 by omega,e1,e2])
  rw [hll] at this
  exact this
def placeL (l:List S31) (n:ByteArray):Nat:=(l.takeWhile fun y=>Op.bytesLess y.f0.toList n.toList).length
theorem placeL_le (l:List S31) (n:ByteArray):placeL l n≤l.length:=(List.takeWhile_sublist _).length_le
theorem placeL_lt: ∀(l:List S31) (n:ByteArray) (i:Nat),i<placeL l n→Op.bytesLess (rd_T31 l (i:Int)).f0.toList n.toList=true
  |[],n,i,h=>by simp [placeL] at h
  | y :: l, n, i, h => by
    unfold placeL at h
    rw [List.takeWhile_cons] at h
    split at h
    rotate_left
    · simp at h
    rename_i hy
    cases i with
    |zero=>exact hy
    | succ i =>
      have:=placeL_lt l n i (by unfold placeL;simpa using h)
      simpa [rd_T31] using this
theorem placeL_at: ∀(l:List S31) (n:ByteArray),placeL l n<l.length→Op.bytesLess (rd_T31 l (placeL l n:Int)).f0.toList n.toList=false
  |[],n,h=>by simp at h
  | y :: l, n, h => by
    by_cases hy:Op.bytesLess y.f0.toList n.toList=true
    · have e : placeL (y :: l) n = placeL l n + 1 := by unfold placeL; rw [List.takeWhile_cons, if_pos hy, List.length_cons]
      rw [e] at h ⊢
      have:=placeL_at l n (by simpa using h)
      simpa [rd_T31] using this
    have e:placeL (y::l) n=0:=by unfold placeL;rw [List.takeWhile_cons,if_neg hy,List.length_nil]
    rw [e]
    simpa [rd_T31] using hy
def shape_Create.f (l0:List (S31)) (a1:ByteArray) (a2:ByteArray) (a3_0:Int) (a3_1:Int) (a3_2:Int):Option ((List (S31))×Int):=
 (shape_made.f l0 a1).bind fun p=>if a1.toList=([]:List UInt8) then some ([],1) else if (a1.size:Int)>24 then some ([],1) else (vec_May.f a3_0 a3_1 a3_2).bind fun m=>if m=false then some ([],1) else
  if p.2≥0 then some ([],3) else (shape_change_parent.f p.1 p.2 a2).bind fun q=>if q=false then some ([],2) else if (l0.length:Int)≥120 then some ([],4) else
   some (p.1.take (placeL l0 a1)++⟨a1,a2,⟨a3_0,a3_1,a3_2⟩,⟨0,0,0⟩,⟨0,0,0⟩,1⟩::p.1.drop (placeL l0 a1),0)
set_option maxHeartbeats 8000000 in
set_option maxRecDepth 100000 in
theorem shape_Create.calls (A0:Option Addr) (c0:Nat) (l0:List (S31)) (a1:ByteArray) (a2:ByteArray) (a3_0:Int) (a3_1:Int) (a3_2:Int) (r1:List (S31)) (r2:Int) (w:World) (hr0:Kd.C k31 w A0 l0.length l0) (hc0:l0.length≤c0) (h:shape_Create.f l0 a1 a2 a3_0 a3_1 a3_2=some (r1,r2)):
    Calls Try.prog 84 #[.slice A0 l0.length c0, .string a1, .string a2, .agg #[.int .i64 a3_0, .int .i64 a3_1, .int .i64 a3_2]] w fun e w'=> ∃v0_:Value,e= .returned (.tuple #[v0_, .int .i64 r2])∧Kd.R k31 31 w' w.heap.size (fun _=>True) v0_ r1∧Below w.heap.size w w':=by
  have hu168:=Try.underlying168
  have hu166:=Try.underlying166
  have hu31:=Try.underlying31
  have hu27:=Try.underlying27
  unfold shape_Create.f at h
  obtain ⟨⟨out,j⟩,hmd,h1⟩:=Option.bind_eq_some_iff.1 h
  clear h
  have hout:out=l0∧l0.length<1256584717458:=by
    unfold shape_made.f slices_Clone_Item.f at hmd
    split at hmd
    rotate_left
    · cases hmd
    obtain ⟨_,h1,h2⟩:=Option.bind_eq_some_iff.1 hmd
    obtain ⟨_,h3,h4⟩:=Option.bind_eq_some_iff.1 h2
    cases h4
    exact ⟨(Option.some.inj h1).symm,by assumption⟩
  obtain ⟨rfl,hlim⟩:=hout
  have HR:=Aside0.mk hr0
  have HC:=Aside0.mk hc0
  have HM:=Aside0.mk hmd
  have HB:=am_ (Below.refl w.heap.size w)
  have HH:=Aside0.mk h1
  clear hr0 hc0 hmd h1 hlim
  go_enter Try.func84,Try.ntmps84
  go_wp2_with (first|((with_reducible refine gate_dst (N:=7) rfl ?_);refine bx_ (N:=7) (cs:=#[.int .i64 a3_0, .int .i64 a3_1, .int .i64 a3_2]) (t:=27) ?_;intro gb1 hg w1 hbox hb;have BK1:=am_ (hbox);have GE1:=am_ ((by rw [hg];exact below_size HB.out:w.heap.size≤gb1));replace HB:=am_ (below_step HB.out hb);have EQ1:=am_ (hg);clear hb hbox hg))
  refine (shape_made.calls _ _ _ _ _ _ _ (Kd.C_below HR.out HB.out) HC.out HM.out).mono ?_
  rintro e w3 ⟨v0,rfl,ho,hb⟩
  have HO:=am_ (Kd.R_lower ho (below_size HB.out))
  have HLT:=am_ (Kd.R_lt ho)
  have GT1:=am_ (Nat.lt_of_lt_of_le (blk_lt BK1.out) hb.size)
  replace BK1:=am_ (blk_below BK1.out hb);replace HB:=am_ (below_step HB.out hb)
  clear ho hb
  obtain ⟨A5,c5,rfl⟩: ∃A5 c5,v0= .slice A5 out.length c5:=Kd.R_slice HO.out
  have h1:=HH.out
  clear HH
  by_cases c1:a1.toList=([]:List UInt8)
  · rw [if_pos c1] at h1
    have c1b2:a1.toList.isEmpty=true:=by rw [c1];rfl
    cases h1
    clear c1
    go_wp2_with (first|((with_reducible refine gate_dst (N:=10) rfl ?_);refine bx_ (N:=10) (cs:=#[.slice none 0 0, .int .i64 0]) (t:=168) ?_;intro gb2 hg w4 hbox hb;replace HO:=am_ (Kd.R_below HO.out hb);replace BK1:=am_ (blk_below BK1.out hb);have BK2:=am_ (hbox);have GE2:=am_ ((by rw [hg];exact below_size HB.out:w.heap.size≤gb2));replace HB:=am_ (below_step HB.out hb);have EQ2:=am_ (hg);clear hb hbox hg)|((with_reducible refine gate_store (t:=168) (p:=10) (v:= .tmp 14) rfl ?_);refine store_all BK2.out 168 (.tmp 10) (.tmp 14) rfl rfl rfl (.agg #[.slice A5 out.length c5, .int .i64 j]) [.slice A5 out.length c5, .int .i64 j] rfl rfl rfl (by kernel_rfl) rfl (by intro q hq;simp only [List.mem_cons,List.not_mem_nil,or_false] at hq;rcases hq with rfl|rfl<;>rfl) ?_;intro w5 hbk hg;replace HO:=am_ (R_put HO.out BK2.out (by decide) hg);replace BK1:=am_ (blk_put_other BK1.out hg (by have:=EQ2.out;have:=GT1.out;omega));replace HB:=am_ (below_put HB.out (below_size HB.out) hg GE2.out);replace BK2:=am_ (hbk);clear hbk hg;have cgb1_0:=(blk_cell BK1.out 0).trans rfl;have cgb1_1:=(blk_cell BK1.out 1).trans rfl;have cgb1_2:=(blk_cell BK1.out 2).trans rfl;have cgb2_0:=(blk_cell BK2.out 0).trans rfl;have cgb2_1:=(blk_cell BK2.out 1).trans rfl))
    go_ret2
    exact ⟨_,rfl,Kd.R_nil _ _ _ _ _,HB.out⟩
  rw [if_neg c1] at h1
  have c1b2:a1.toList.isEmpty=false:=by simpa using c1
  clear c1
  by_cases c2:(a1.size:Int)>24
  · rw [if_pos c2] at h1
    cases h1
    have q2:=eq_true c2
    go_wp2_with (first|((with_reducible refine gate_dst (N:=10) rfl ?_);refine bx_ (N:=10) (cs:=#[.slice none 0 0, .int .i64 0]) (t:=168) ?_;intro gb2 hg w4 hbox hb;replace HO:=am_ (Kd.R_below HO.out hb);replace BK1:=am_ (blk_below BK1.out hb);have BK2:=am_ (hbox);have GE2:=am_ ((by rw [hg];exact below_size HB.out:w.heap.size≤gb2));replace HB:=am_ (below_step HB.out hb);have EQ2:=am_ (hg);clear hb hbox hg)|((with_reducible refine gate_store (t:=168) (p:=10) (v:= .tmp 14) rfl ?_);refine store_all BK2.out 168 (.tmp 10) (.tmp 14) rfl rfl rfl (.agg #[.slice A5 out.length c5, .int .i64 j]) [.slice A5 out.length c5, .int .i64 j] rfl rfl rfl (by kernel_rfl) rfl (by intro q hq;simp only [List.mem_cons,List.not_mem_nil,or_false] at hq;rcases hq with rfl|rfl<;>rfl) ?_;intro w5 hbk hg;replace HO:=am_ (R_put HO.out BK2.out (by decide) hg);replace BK1:=am_ (blk_put_other BK1.out hg (by have:=EQ2.out;have:=GT1.out;omega));replace HB:=am_ (below_put HB.out (below_size HB.out) hg GE2.out);replace BK2:=am_ (hbk);clear hbk hg;have cgb1_0:=(blk_cell BK1.out 0).trans rfl;have cgb1_1:=(blk_cell BK1.out 1).trans rfl;have cgb1_2:=(blk_cell BK1.out 2).trans rfl;have cgb2_0:=(blk_cell BK2.out 0).trans rfl;have cgb2_1:=(blk_cell BK2.out 1).trans rfl))
    go_ret2
    exact ⟨_,rfl,Kd.R_nil _ _ _ _ _,HB.out⟩
  rw [if_neg c2] at h1
  have q2:=eq_false c2
  obtain ⟨m,hm,h2⟩:=Option.bind_eq_some_iff.1 h1
  have HMAY:=Aside0.mk hm
  have HH:=Aside0.mk h2
  clear hm h1 h2 c2
  go_wp2_with (first|((with_reducible refine gate_dst (N:=10) rfl ?_);refine bx_ (N:=10) (cs:=#[.slice none 0 0, .int .i64 0]) (t:=168) ?_;intro gb2 hg w4 hbox hb;replace HO:=am_ (Kd.R_below HO.out hb);replace BK1:=am_ (blk_below BK1.out hb);have BK2:=am_ (hbox);have GE2:=am_ ((by rw [hg];exact below_size HB.out:w.heap.size≤gb2));replace HB:=am_ (below_step HB.out hb);have EQ2:=am_ (hg);clear hb hbox hg)|((with_reducible refine gate_store (t:=168) (p:=10) (v:= .tmp 14) rfl ?_);refine store_all BK2.out 168 (.tmp 10) (.tmp 14) rfl rfl rfl (.agg #[.slice A5 out.length c5, .int .i64 j]) [.slice A5 out.length c5, .int .i64 j] rfl rfl rfl (by kernel_rfl) rfl (by intro q hq;simp only [List.mem_cons,List.not_mem_nil,or_false] at hq;rcases hq with rfl|rfl<;>rfl) ?_;intro w5 hbk hg;replace HO:=am_ (R_put HO.out BK2.out (by decide) hg);replace BK1:=am_ (blk_put_other BK1.out hg (by have:=EQ2.out;have:=GT1.out;omega));replace HB:=am_ (below_put HB.out (below_size HB.out) hg GE2.out);replace BK2:=am_ (hbk);clear hbk hg;have cgb1_0:=(blk_cell BK1.out 0).trans rfl;have cgb1_1:=(blk_cell BK1.out 1).trans rfl;have cgb1_2:=(blk_cell BK1.out 2).trans rfl;have cgb2_0:=(blk_cell BK2.out 0).trans rfl;have cgb2_1:=(blk_cell BK2.out 1).trans rfl))
  refine (vec_May.calls _ _ _ _ _ HMAY.out).mono ?_
  rintro e w6 ⟨rfl,hb⟩
  clear cgb2_0 cgb2_1
  replace HO:=am_ (Kd.R_below HO.out hb);replace BK1:=am_ (blk_below BK1.out hb);replace BK2:=am_ (blk_below BK2.out hb);replace HB:=am_ (below_step HB.out hb)
  clear hb
  have cgb2_0:=(blk_cell BK2.out 0).trans rfl
  have cgb2_1:=(blk_cell BK2.out 1).trans rfl
  have h1:=HH.out
  clear HH
  cases m with
  | false =>
    rw [if_pos rfl] at h1
    cases h1
    go_wp2_with fail
    go_ret2
    exact ⟨_,rfl,Kd.R_nil _ _ _ _ _,HB.out⟩
  | true =>
    rw [if_neg (by simp)] at h1
    by_cases c3:j≥0
    · rw [if_pos c3] at h1
      cases h1
      have q3:=eq_true c3
      clear c3
      go_wp2_with fail
      go_ret2
      exact ⟨_,rfl,Kd.R_nil _ _ _ _ _,HB.out⟩
    rw [if_neg c3] at h1
    have q3:=eq_false c3
    obtain ⟨q,hq,h2⟩:=Option.bind_eq_some_iff.1 h1
    have HQ:=Aside0.mk hq
    have HH:=Aside0.mk h2
    clear hq h1 h2 c3
    go_wp2_with fail
    refine (shape_change_parent.calls _ _ _ _ _ _ _ (Kd.R_reads' HO.out).2.2 (Kd.R_reads' HO.out).2.1 HQ.out).mono ?_
    rintro e w7 ⟨rfl,hb⟩
    clear cgb2_0 cgb2_1
    replace HO:=am_ (Kd.R_below HO.out hb);replace BK1:=am_ (blk_below BK1.out hb);replace BK2:=am_ (blk_below BK2.out hb);replace HB:=am_ (below_step HB.out hb)
    clear hb
    have cgb2_0:=(blk_cell BK2.out 0).trans rfl
    have cgb2_1:=(blk_cell BK2.out 1).trans rfl
    have h1:=HH.out
    clear HH
    cases q with
    | false =>
      rw [if_pos rfl] at h1
      cases h1
      go_wp2_with fail
      go_ret2
      exact ⟨_,rfl,Kd.R_nil _ _ _ _ _,HB.out⟩
    | true =>
      rw [if_neg (by simp)] at h1
      by_cases c4:(out.length:Int)≥120
      · rw [if_pos c4] at h1
        cases h1
        have q4:=eq_true c4
        go_wp2_with fail
        go_ret2
        exact ⟨_,rfl,Kd.R_nil _ _ _ _ _,HB.out⟩
      rw [if_neg c4] at h1
      cases h1
      have q4:=eq_false c4
      have HL:=am_ (show out.length<1000000 by omega)
      have HPL:=am_ (placeL_le out a1)
      clear c4
      have cgb1_0:=(blk_cell BK1.out 0).trans rfl
      have cgb1_1:=(blk_cell BK1.out 1).trans rfl
      have cgb1_2:=(blk_cell BK1.out 2).trans rfl
      go_wp2_with fail
      go_loopg [11] (placeL out a1) (fun kq s11 wr=>wr=w7∧ ∃i:Nat,i≤placeL out a1∧placeL out a1 - i≤kq∧s11= .int .i64 i)
      case atStart=>exact ⟨rfl,0,by omega,by omega,rfl⟩
      case round=>
        obtain ⟨rfl,i,hi,hg,rfl⟩:=hrel
        have hlen:=HPL.out
        by_cases hlt:i<out.length
        rotate_left
        · have q5 : ((i : Int) < (out.length : Int)) = False := eq_false (by omega)
          obtain rfl:i=placeL out a1:=by omega
          go_wp2_with fail
          refine (sliInsert_calls _ w.heap.size _ out (placeL out a1) ⟨a1,a2,⟨a3_0,a3_1,a3_2⟩,⟨0,0,0⟩,⟨0,0,0⟩,1⟩ _ (Kd.R_below HO.out (below_alloc (Below.refl _ _) _)) HPL.out (blk_new _ _) (fun e=>absurd (Kd.R_lt HO.out _ e) (by omega)) (below_size (below_alloc HB.out _)) HL.out).mono ?_
          rintro e w9 ⟨v1,rfl,ho,hb⟩
          have HO9:=Aside0.mk ho
          have HB9:=am_ ((below_alloc HB.out _).trans hb)
          clear ho hb
          go_wp2_with fail
          go_ret2
          exact ⟨_,rfl,HO9.out,HB9.out⟩


        have q5:((i:Int)<(out.length:Int))=True:=eq_true (by omega)
        have q6:((0:Int)≤(i:Int))=True:=eq_true (by omega)
        obtain ⟨ad,e1,k0,_⟩:=at_T31 (Kd.C_below HR.out HB.out) (i:Int) (by omega) (by omega)
        cases e1
        simp only [Int.toNat_natCast] at k0
        by_cases hp:i<placeL out a1
        · have q7 := placeL_lt out a1 i hp
          go_wp2_with fail
          have hL:=HL.out
          go_roundg (placeL out a1 - (i+1))
          case measure=>omega
          case rel=>exact ⟨rfl,i+1,by omega,by omega,by rw [show wrap64 ((i:Int)+1)=((i+1:Nat):Int) from by unfold wrap64;omega]⟩
        obtain rfl:i=placeL out a1:=by omega
        have q7:=placeL_at out a1 hlt
        go_wp2_with fail
        refine (sliInsert_calls _ w.heap.size _ out (placeL out a1) ⟨a1,a2,⟨a3_0,a3_1,a3_2⟩,⟨0,0,0⟩,⟨0,0,0⟩,1⟩ _ (Kd.R_below HO.out (below_alloc (Below.refl _ _) _)) HPL.out (blk_new _ _) (fun e=>absurd (Kd.R_lt HO.out _ e) (by omega)) (below_size (below_alloc HB.out _)) HL.out).mono ?_
        rintro e w9 ⟨v1,rfl,ho,hb⟩
        have HO9:=Aside0.mk ho
        have HB9:=am_ ((below_alloc HB.out _).trans hb)
        clear ho hb
        go_wp2_with fail
        go_ret2
        exact ⟨_,rfl,HO9.out,HB9.out⟩
attribute [local go_sem high] eqA31
def law15_awake.f:Option (Bool):=(shape_Create.f ([]:List (S31)) (⟨#[97]⟩:ByteArray) (⟨#[]⟩:ByteArray) 1 0 0).bind fun bt1=>((law1_Num.f bt1.2).bind fun t5=>(if t5=0 then (if (bt1.1.length:Int)=1 then (if 0<(bt1.1.length:Int) then (some ((((rd_T31 bt1.1 0).f0).toList)==([97]:List UInt8) && ((((rd_T31 bt1.1 0).f1).toList)==([]:List UInt8) && ((((rd_T31 bt1.1 0).f2.f0)==1 && (((rd_T31 bt1.1 0).f2.f1)==0 && (((rd_T31 bt1.1 0).f2.f2)==0))) && ((((rd_T31 bt1.1 0).f3.f0)==0 && (((rd_T31 bt1.1 0).f3.f1)==0 && (((rd_T31 bt1.1 0).f3.f2)==0))) && ((((rd_T31 bt1.1 0).f4.f0)==0 && (((rd_T31 bt1.1 0).f4.f1)==0 && (((rd_T31 bt1.1 0).f4.f2)==0))) && (((rd_T31 bt1.1 0).f5)==1))))))) else (none)) else (some false)) else (some false)))
set_option maxHeartbeats 8000000 in
set_option maxRecDepth 100000 in
theorem law15_awake.calls (r:Bool) (w:World) (h:law15_awake.f=some r):
  Calls Try.prog 85 #[] w fun e w'=>e= .returned (.bool r)∧Below w.heap.size w w':=by
 have hu27:=Try.underlying27
 have hu31:=Try.underlying31
 have HB:=am_ (Below.refl w.heap.size w)
 have H:((shape_Create.f ([]:List (S31)) (⟨#[97]⟩:ByteArray) (⟨#[]⟩:ByteArray) 1 0 0).bind fun bt1=>((law1_Num.f bt1.2).bind fun t5=>(if t5=0 then (if (bt1.1.length:Int)=1 then (if 0<(bt1.1.length:Int) then (some ((((rd_T31 bt1.1 0).f0).toList)==([97]:List UInt8) && ((((rd_T31 bt1.1 0).f1).toList)==([]:List UInt8) && ((((rd_T31 bt1.1 0).f2.f0)==1 && (((rd_T31 bt1.1 0).f2.f1)==0 && (((rd_T31 bt1.1 0).f2.f2)==0))) && ((((rd_T31 bt1.1 0).f3.f0)==0 && (((rd_T31 bt1.1 0).f3.f1)==0 && (((rd_T31 bt1.1 0).f3.f2)==0))) && ((((rd_T31 bt1.1 0).f4.f0)==0 && (((rd_T31 bt1.1 0).f4.f1)==0 && (((rd_T31 bt1.1 0).f4.f2)==0))) && (((rd_T31 bt1.1 0).f5)==1))))))) else (none)) else (some false)) else (some false))))=some r:=h
 clear h
 replace H:=Option.bind_eq_some_iff.mp H
 obtain ⟨⟨t1,t4⟩,A10,H⟩:=H
 try dsimp only at H
 have A1:=Aside0.mk A10
 clear A10
 replace H:=Option.bind_eq_some_iff.mp H
 obtain ⟨t5,A20,H⟩:=H
 try dsimp only at H
 have A2:=Aside0.mk A20
 clear A20
 by_cases c3:t5=0
 rotate_left
 ·rw [if_neg c3] at H
  have c3b0:(t5==0)=false:=beq_eq_false_iff_ne.mpr c3
  have c3b1:(t5 !=0)=true:=bne_iff_ne.mpr c3
  obtain rfl:=Option.some.inj H
  go_enter Try.func85,Try.ntmps85
  go_wp2_with (first|((with_reducible refine gate_callee (f:=84) rfl ?_);refine gl_ (some 5) Try.func84 #[.slice none 0 0, .string (⟨#[97]⟩:ByteArray), .string (⟨#[]⟩:ByteArray), .agg #[.int .i64 1, .int .i64 0, .int .i64 0]] ?_;(refine (shape_Create.calls _ _ ([]:List (S31)) (⟨#[97]⟩:ByteArray) (⟨#[]⟩:ByteArray) 1 0 0 t1 t4 _ ?side1 ?side2 A1.out).mono ?_);(case side1=>exact Kd.C_nil _ _);(case side2=>exact Nat.le_refl _);rintro e w10 ⟨v2,rfl,ho0,hb⟩;refine ⟨_,rfl, ?_⟩;have HO3:=am_ (Kd.R_lower ho0 (below_size (zl0_ HB)));replace HB:=am_ (below_step (zl0_ HB) hb);(try clear hb);(try clear hb2);(try clear hk);(try clear hi);(try clear ho0))|((with_reducible refine gate_callee (f:=61) rfl ?_);refine gl_ (some 9) Try.func61 #[.int .i64 t4] ?_;(with_reducible refine (law1_Num.calls t4 t5 _ A2.out).mono ?_);rintro e w' ⟨rfl,⟨nd,rfl⟩⟩;refine ⟨_,rfl, ?_⟩))
  go_ret
  exact ⟨by first|rfl|(simp [errW_none,errW_some]<;>rfl)|(simp [*,errW_none,errW_some]<;>rfl),zl0_ HB⟩

 rw [if_pos c3] at H
 have c3b0:(t5==0)=true:=beq_iff_eq.mpr c3
 have c3b1:(t5 !=0)=false:=bne_eq_false_iff_eq.mpr c3
 clear c3
 by_cases c4:(t1.length:Int)=1
 rotate_left
 ·rw [if_neg c4] at H
  have c4b0:((t1.length:Int)==1)=false:=beq_eq_false_iff_ne.mpr c4
  have c4b1:((t1.length:Int) !=1)=true:=bne_iff_ne.mpr c4
  obtain rfl:=Option.some.inj H
  go_enter Try.func85,Try.ntmps85
  go_wp2_with (first|((with_reducible refine gate_callee (f:=84) rfl ?_);refine gl_ (some 5) Try.func84 #[.slice none 0 0, .string (⟨#[97]⟩:ByteArray), .string (⟨#[]⟩:ByteArray), .agg #[.int .i64 1, .int .i64 0, .int .i64 0]] ?_;(refine (shape_Create.calls _ _ ([]:List (S31)) (⟨#[97]⟩:ByteArray) (⟨#[]⟩:ByteArray) 1 0 0 t1 t4 _ ?side1 ?side2 A1.out).mono ?_);(case side1=>exact Kd.C_nil _ _);(case side2=>exact Nat.le_refl _);rintro e w8 ⟨v2,rfl,ho0,hb⟩;refine ⟨_,rfl, ?_⟩;have HO3:=am_ (Kd.R_lower ho0 (below_size (zl0_ HB)));replace HB:=am_ (below_step (zl0_ HB) hb);(try clear hb);(try clear hb2);(try clear hk);(try clear hi);(try clear ho0))|((with_reducible refine gate_callee (f:=61) rfl ?_);refine gl_ (some 9) Try.func61 #[.int .i64 t4] ?_;(with_reducible refine (law1_Num.calls t4 t5 _ A2.out).mono ?_);rintro e w' ⟨rfl,⟨nd,rfl⟩⟩;refine ⟨_,rfl, ?_⟩;obtain ⟨Ao9,co9,eo9⟩:=Kd.R_slice HO3.out;subst eo9))
  go_ret
  exact ⟨by first|rfl|(simp [errW_none,errW_some]<;>rfl)|(simp [*,errW_none,errW_some]<;>rfl),zl0_ HB⟩
 rw [if_pos c4] at H
 have c4b0:((t1.length:Int)==1)=true:=beq_iff_eq.mpr c4
 have c4b1:((t1.length:Int) !=1)=false:=bne_eq_false_iff_eq.mpr c4
 clear c4
 by_cases c5:0<(t1.length:Int)
 rotate_left
 ·rw [if_neg c5] at H
  exact absurd H (by simp)
 rw [if_pos c5] at H
 have c5b0:decide (0<(t1.length:Int))=true:=decide_eq_true c5
 have c5b1:decide (0<t1.length)=true:=decide_eq_true (by omega)
 clear c5
 obtain rfl:=Option.some.inj H
 go_enter Try.func85,Try.ntmps85
 go_wp2_with (first|((with_reducible refine gate_callee (f:=84) rfl ?_);refine gl_ (some 5) Try.func84 #[.slice none 0 0, .string (⟨#[97]⟩:ByteArray), .string (⟨#[]⟩:ByteArray), .agg #[.int .i64 1, .int .i64 0, .int .i64 0]] ?_;(refine (shape_Create.calls _ _ ([]:List (S31)) (⟨#[97]⟩:ByteArray) (⟨#[]⟩:ByteArray) 1 0 0 t1 t4 _ ?side1 ?side2 A1.out).mono ?_);(case side1=>exact Kd.C_nil _ _);(case side2=>exact Nat.le_refl _);rintro e w6 ⟨v2,rfl,ho0,hb⟩;refine ⟨_,rfl, ?_⟩;have HO3:=am_ (Kd.R_lower ho0 (below_size (zl0_ HB)));replace HB:=am_ (below_step (zl0_ HB) hb);(try clear hb);(try clear hb2);(try clear hk);(try clear hi);(try clear ho0))|((with_reducible refine gate_callee (f:=61) rfl ?_);refine gl_ (some 9) Try.func61 #[.int .i64 t4] ?_;(with_reducible refine (law1_Num.calls t4 t5 _ A2.out).mono ?_);rintro e w' ⟨rfl,⟨nd,rfl⟩⟩;refine ⟨_,rfl, ?_⟩;obtain ⟨Ao7,co7,eo7⟩:=Kd.R_slice HO3.out;subst eo7;have p6:0≤(0:Int):=(by omega);have q6:0<(t1.length:Int):=of_decide_eq_true zq_;obtain ⟨ad6,e6,hx6_0,hx6_1,hx6_2,hx6_3,hx6_4,hx6_5,hx6_6,hx6_7,hx6_8,hx6_9,hx6_10,hx6_11⟩:=at_T31 (Kd.R_reads' HO3.out).2.2 0 p6 q6;cases e6;have qi6:(0<t1.length)=True:=eq_true (by omega);(try rw [show ((0:Int)).toNat=0 from rfl] at hx6_0);(try rw [show 0*12=0 from rfl] at hx6_0);(try rw [Addr.add_zero'] at hx6_0);(try rw [show ((0:Int)).toNat=0 from rfl] at hx6_1);(try rw [show 0*12=0 from rfl] at hx6_1);(try rw [Addr.add_zero'] at hx6_1);(try rw [show ((0:Int)).toNat=0 from rfl] at hx6_2);(try rw [show 0*12=0 from rfl] at hx6_2);(try rw [Addr.add_zero'] at hx6_2);(try rw [show ((0:Int)).toNat=0 from rfl] at hx6_3);(try rw [show 0*12=0 from rfl] at hx6_3);(try rw [Addr.add_zero'] at hx6_3);(try rw [show ((0:Int)).toNat=0 from rfl] at hx6_4);(try rw [show 0*12=0 from rfl] at hx6_4);(try rw [Addr.add_zero'] at hx6_4);(try rw [show ((0:Int)).toNat=0 from rfl] at hx6_5);(try rw [show 0*12=0 from rfl] at hx6_5);(try rw [Addr.add_zero'] at hx6_5);(try rw [show ((0:Int)).toNat=0 from rfl] at hx6_6);(try rw [show 0*12=0 from rfl] at hx6_6);(try rw [Addr.add_zero'] at hx6_6);(try rw [show ((0:Int)).toNat=0 from rfl] at hx6_7);(try rw [show 0*12=0 from rfl] at hx6_7);(try rw [Addr.add_zero'] at hx6_7);(try rw [show ((0:Int)).toNat=0 from rfl] at hx6_8);(try rw [show 0*12=0 from rfl] at hx6_8);(try rw [Addr.add_zero'] at hx6_8);(try rw [show ((0:Int)).toNat=0 from rfl] at hx6_9);(try rw [show 0*12=0 from rfl] at hx6_9);(try rw [Addr.add_zero'] at hx6_9);(try rw [show ((0:Int)).toNat=0 from rfl] at hx6_10);(try rw [show 0*12=0 from rfl] at hx6_10);(try rw [Addr.add_zero'] at hx6_10);(try rw [show ((0:Int)).toNat=0 from rfl] at hx6_11);(try rw [show 0*12=0 from rfl] at hx6_11);(try rw [Addr.add_zero'] at hx6_11);replace p6:=eq_true p6;replace q6:=eq_true q6))
 go_ret
 exact ⟨by first|rfl|(simp [errW_none,errW_some]<;>rfl)|(simp [*,errW_none,errW_some]<;>rfl),zl0_ HB⟩
end Go.Proofs.Ytcgefpklljclgaa.Print

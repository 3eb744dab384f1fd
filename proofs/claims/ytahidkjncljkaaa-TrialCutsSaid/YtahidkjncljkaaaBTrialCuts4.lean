/- TrialCuts: a part -/
import Derived.Laws.Strings
import Derived.Test.YtahidkjncljkaaaBTrialCuts0
import Derived.Test.YtahidkjncljkaaaBTrialCuts1
import Derived.Test.YtahidkjncljkaaaBTrialCuts2
import Derived.Test.YtahidkjncljkaaaBTrialCuts3
set_option linter.unusedVariables false
set_option linter.unusedSimpArgs false
namespace Go.Proofs.Ytahidkjncljkaaa.Print
open Go.RowKit Go.Proofs.YtahidkjncljkaaaW.PrintWords Go.Proofs.YtahidkjncljkaaaW.PrintLast Go.Proofs.YtahidkjncljkaaaW.PrintMore
attribute [local go_sem] max2_int min2_int max_two min_two max_three min_three max_four min_four

def r10_Admit.l0:Nat→ByteArray→List ByteArray→List (S79)→Int→Int→Int→Int→Option ((List (S79))×Int)
 |0,_,_,_,_,_,_,_=>none
 |k+1,x1,x7,x8,x9,x2000,x2001,x2002=>if x9<(x7.length:Int) then (if 0≤x9 then ((r10_Find.f k x8 (rdOf ByteArray.empty x7 x9)).bind fun t25=>(if 0≤t25 then (if t25<(x8.length:Int) then ((r10_Add.f ((rd_T79 x8 t25).f4.f0) ((rd_T79 x8 t25).f4.f1) ((rd_T79 x8 t25).f4.f2) x2000 x2001 x2002).bind fun bt27=>((some (x8.set (t25:Int).toNat (⟨(rd_T79 x8 t25).f0,(rd_T79 x8 t25).f1,(⟨(rd_T79 x8 t25).f2.f0,(rd_T79 x8 t25).f2.f1,(rd_T79 x8 t25).f2.f2⟩:S37),(⟨(rd_T79 x8 t25).f3.f0,(rd_T79 x8 t25).f3.f1,(rd_T79 x8 t25).f3.f2⟩:S37),(⟨bt27.1,bt27.2.1,bt27.2.2⟩:S37),(rd_T79 x8 t25).f5⟩:S79):List (S79))).bind fun y30=>((r10_Le.f ((rd_T79 y30 t25).f4.f0) ((rd_T79 y30 t25).f4.f1) ((rd_T79 y30 t25).f4.f2) ((rd_T79 y30 t25).f2.f0) ((rd_T79 y30 t25).f2.f1) ((rd_T79 y30 t25).f2.f2)).bind fun t33=>(if t33=true then (r10_Admit.l0 k x1 x7 y30 (wrap64 (x9+1)) x2000 x2001 x2002) else ((r10_no.f 12).bind fun bt34=>(some (bt34.1,bt34.2))))))) else (none)) else (none))) else (none)) else ((r10_Find.f k x8 x1).bind fun t18=>(if 0≤t18 then (if t18<(x8.length:Int) then ((r10_Add.f ((rd_T79 x8 t18).f3.f0) ((rd_T79 x8 t18).f3.f1) ((rd_T79 x8 t18).f3.f2) x2000 x2001 x2002).bind fun bt20=>(some ((x8.set (t18:Int).toNat (⟨(rd_T79 x8 t18).f0,(rd_T79 x8 t18).f1,(⟨(rd_T79 x8 t18).f2.f0,(rd_T79 x8 t18).f2.f1,(rd_T79 x8 t18).f2.f2⟩:S37),(⟨bt20.1,bt20.2.1,bt20.2.2⟩:S37),(⟨(rd_T79 x8 t18).f4.f0,(rd_T79 x8 t18).f4.f1,(rd_T79 x8 t18).f4.f2⟩:S37),(rd_T79 x8 t18).f5⟩:S79)),0))) else (none)) else (none)))
def r10_Admit.f (k:Nat) (l0:List (S79)) (a1:ByteArray) (a2_0:Int) (a2_1:Int) (a2_2:Int):Option ((List (S79))×Int):=(r10_Up.f k l0 a1).bind fun t3=>((r10_MayVec.f a2_0 a2_1 a2_2).bind fun t6=>(if t6=true then (if (t3.length:Int)=0 then ((r10_no.f 2).bind fun bt11=>(some (bt11.1,bt11.2))) else ((r10_copied.f l0).bind fun t15=>(r10_Admit.l0 k a1 t3 t15 0 a2_0 a2_1 a2_2))) else ((r10_no.f 1).bind fun bt7=>(some (bt7.1,bt7.2)))))
theorem r10_Admit.mono_l: ∀k,(∀y0 y1 y2 y3 y4 y5 y6,LeO (r10_Admit.l0 k y0 y1 y2 y3 y4 y5 y6) (r10_Admit.l0 (k+1) y0 y1 y2 y3 y4 y5 y6))
 |0=>fun _ _ _ _ _ _ _ r h=>by simp [r10_Admit.l0] at h
 |k+1=>by
  have ih0:=r10_Admit.mono_l k;intro y0 y1 y2 y3 y4 y5 y6;unfold r10_Admit.l0
  repeat' with_reducible first|apply ih0|apply r10_Find.mono|apply r10_Up.mono|apply LeO.refl|apply LeO.none|apply LeO.ite|refine LeO.bind ?_ fun _=> ?_
theorem r10_Admit.mono: ∀a0 a1 a2 a3 a4 k,LeO (r10_Admit.f k a0 a1 a2 a3 a4) (r10_Admit.f (k+1) a0 a1 a2 a3 a4):=by
 intro a0 a1 a2 a3 a4 k;have ih0:=r10_Admit.mono_l k;unfold r10_Admit.f
 repeat' with_reducible first|apply ih0|apply r10_Find.mono|apply r10_Up.mono|apply LeO.refl|apply LeO.none|apply LeO.ite|refine LeO.bind ?_ fun _=> ?_
def r10_Admit.T11:Bool×List (List Nat×List Nat):=(true,[([],[]),([],[]),([],[]),([],[]),([2,3],[2,3]),([4],[4]),([5],[5]),([],[]),([6,7],[6,7]),([0,1,0,1,2,3,4,5,6,7,8],[0,1]),([9,0,1,2,3,4,5,6,7,8],[9]),([10,8,8,0,1,2,3,4,5,6,7,8],[8,10])])
def r10_Admit.B11:List Nat:=[0,0,0,0,12,28,60,0,252,511,1023,2047]
theorem r10_Admit.tab11:rtab .any (opsOf Try.f84 11)=r10_Admit.T11:=by kernel_rfl
theorem r10_Admit.bits11:waitsOk r10_Admit.T11.2 r10_Admit.B11=true:=by kernel_rfl
def r10_Admit.T12:Bool×List (List Nat×List Nat):=(true,[([],[]),([],[]),([0,1],[0,1]),([2],[2]),([3],[3]),([],[]),([],[]),([5,6],[5,6]),([7],[7]),([8],[8]),([4,9],[4,9]),([10],[10])])
def r10_Admit.B12:List Nat:=[0,0,3,7,15,0,0,96,224,480,1023,2047]
theorem r10_Admit.tab12:rtab .any (opsOf Try.f84 12)=r10_Admit.T12:=by kernel_rfl
theorem r10_Admit.bits12:waitsOk r10_Admit.T12.2 r10_Admit.B12=true:=by kernel_rfl
def r10_Admit.T15:Bool×List (List Nat×List Nat):=(true,[([],[]),([],[]),([],[]),([],[]),([2,3],[2,3]),([4],[4]),([5],[5]),([],[]),([6,7],[6,7]),([0,1,0,1,2,3,4,5,6,7,8],[0,1]),([9,0,1,2,3,4,5,6,7,8],[9]),([10,8,8,0,1,2,3,4,5,6,7,8],[8,10])])
def r10_Admit.B15:List Nat:=[0,0,0,0,12,28,60,0,252,511,1023,2047]
theorem r10_Admit.tab15:rtab .any (opsOf Try.f84 15)=r10_Admit.T15:=by kernel_rfl
theorem r10_Admit.bits15:waitsOk r10_Admit.T15.2 r10_Admit.B15=true:=by kernel_rfl
set_option maxHeartbeats 8000000 in
set_option maxRecDepth 100000 in
theorem r10_Admit.calls (k:Nat) (A0:Option Addr) (c0:Nat) (l0:List (S79)) (a1:ByteArray) (a2_0:Int) (a2_1:Int) (a2_2:Int) (r1:List (S79)) (r2:Int) (w:World) (hr0:Kd.C k79 w A0 l0.length l0) (hc0:l0.length≤c0) (h:r10_Admit.f k l0 a1 a2_0 a2_1 a2_2=some (r1,r2)):
  Calls Try.prog 84 #[.slice A0 l0.length c0, .string a1, .agg #[.int .i64 a2_0, .int .i64 a2_1, .int .i64 a2_2]] w fun e w'=> ∃v0_:Value,e= .returned (.agg #[v0_, .int .i64 r2])∧Kd.R k79 79 w' w.heap.size (fun _=>True) v0_ r1∧Below w.heap.size w w':=by
 have hu37:=Try.underlying37;have hu73:=Try.underlying73;have HR0:=Aside0.mk hr0;have HC0:=Aside0.mk hc0;clear hr0 hc0;have HB:=am_ (Below.refl w.heap.size w);have H:((r10_Up.f k l0 a1).bind fun t3=>((r10_MayVec.f a2_0 a2_1 a2_2).bind fun t6=>(if t6=true then (if (t3.length:Int)=0 then ((r10_no.f 2).bind fun bt11=>(some (bt11.1,bt11.2))) else ((r10_copied.f l0).bind fun t15=>(r10_Admit.l0 k a1 t3 t15 0 a2_0 a2_1 a2_2))) else ((r10_no.f 1).bind fun bt7=>(some (bt7.1,bt7.2))))))=some (r1,r2):=h;clear h;replace H:=zbd_ H;obtain ⟨t3,A4,H⟩:=H;try dsimp only at H
 replace H:=zbd_ H;obtain ⟨t6,A5,H⟩:=H;try dsimp only at H
 by_cases c6:t6=true;rotate_left
 ·replace c6:=Bool.eq_false_iff.mpr c6;subst c6;rw [if_neg (show¬(false=true) by decide)] at H;replace H:=zbd_ H;obtain ⟨⟨t7,t10⟩,A68,H⟩:=H;try dsimp only at H
  simp only [Option.some.injEq,Prod.mk.injEq] at H;obtain ⟨rfl,rfl⟩:=H;go_enter Try.func84,Try.ntmps84
  go_wp2_with (first|((with_reducible refine gate_dst (N:=5) rfl ?_);refine bx_ (N:=5) (cs:=#[.int .i64 a2_0, .int .i64 a2_1, .int .i64 a2_2]) (t:=37) ?_;intro gb1 hg w69 hbox hb;have BK1:=am_ (hbox);have GE1:=am_ ((zg0_ HB hg:w.heap.size≤gb1));replace HB:=am_ (below_step (zl0_ HB) hb);clear hb hbox hg)|((with_reducible refine gate_dst (N:=6) rfl ?_);refine bx_ (N:=6) (cs:=#[.slice none 0 0, .int .i64 0]) (t:=73) ?_;intro gb2 hg w70 hbox hb;have BK2:=am_ (hbox);have GE2:=am_ ((zg1_ HB GE1 hg:w.heap.size≤gb2));replace HB:=am_ (below_step (zl1_ HB GE1) hb);have NB1_2:=am_ ((zn_ BK1 hg:gb1≠gb2));have NB2_1:=am_ ((zm_ BK1 hg:gb2≠gb1));replace BK1:=bb_ BK1 hb;clear hb hbox hg)|((with_reducible refine gate_callee (f:=55) rfl ?_);refine gl_ (some 14) Try.func55 #[.slice A0 l0.length c0, .string a1] ?_;(with_reducible refine (r10_Up.calls k _ _ l0 a1 t3 _ ?side1 ?side2 A4.out).mono ?_);(case side1=>exact zc_ (Kd.C_below HR0.out HB.out));(case side2=>exact HC0.out);rintro e w71 ⟨v4,rfl,ho0,hb⟩;refine ⟨_,rfl, ?_⟩;have HO5:=am_ (Kd.R_lower ho0 (below_size (zl2_ HB GE1 GE2)));replace BK1:=bb_ BK1 hb;replace BK2:=bb_ BK2 hb;replace HB:=am_ (below_step (zl2_ HB GE1 GE2) hb);(try clear hb ho0);have hnb72:=NB1_2.out;have hnc72:=NB2_1.out;obtain ⟨hcz73_0,hcz73_1,hcz73_2⟩:=x3_ BK1;have hfz73_0:=blk_frozen BK1.out 0;have hfz73_1:=blk_frozen BK1.out 1;have hfz73_2:=blk_frozen BK1.out 2)|((with_reducible refine gate_callee (f:=68) rfl ?_);refine gl_ (some 16) Try.func68 #[.agg #[.int .i64 a2_0, .int .i64 a2_1, .int .i64 a2_2]] ?_;(with_reducible refine (r10_MayVec.calls a2_0 a2_1 a2_2 false _ A5.out).mono ?_);rintro e w74 ⟨rfl,hb⟩;refine ⟨_,rfl, ?_⟩;replace HO5:=ob_ HO5 hb;replace BK1:=bb_ BK1 hb;replace BK2:=bb_ BK2 hb;replace HB:=am_ (below_step (zl2_ HB GE1 GE2) hb);(try clear hb))|((with_reducible refine gate_callee (f:=101) rfl ?_);refine gl_ (some 18) Try.func101 #[.int .i64 1] ?_;(with_reducible refine (r10_no.calls 1 t7 t10 _ A68.out).mono ?_);rintro e w75 ⟨v8,rfl,ho0,hb⟩;refine ⟨_,rfl, ?_⟩;replace HO5:=ob_ HO5 hb;have HO9:=am_ (Kd.R_lower ho0 (below_size (zl2_ HB GE1 GE2)));replace BK1:=bb_ BK1 hb;replace BK2:=bb_ BK2 hb;replace HB:=am_ (below_step (zl2_ HB GE1 GE2) hb);(try clear hb ho0);obtain ⟨Ao76,co76,eo76⟩:=Kd.R_slice HO9.out;subst eo76;obtain ⟨hcz77_0,hcz77_1⟩:=x2_ BK2;have hfz77_0:=blk_frozen BK2.out 0;have hfz77_1:=blk_frozen BK2.out 1))
  refine bodyPost_ret (results_cell_row rfl _ _ gb2 73 #[.slice Ao76 t7.length co76, .int .i64 t10] (0,0) _ rfl (zw_ BK2) Try.underlying73 rfl (by kernel_rfl)) rfl ?_;exact ⟨_,by first|rfl|(simp [errW_none,errW_some]<;>rfl)|(simp [*,errW_none,errW_some]<;>rfl),zy_ HO9 BK2,zl2_ HB GE1 GE2⟩

 subst c6;rw [if_pos rfl] at H;by_cases c7:(t3.length:Int)=0
 ·rw [if_pos c7] at H;have c7b0:=beq_iff_eq.mpr c7;have c7b1:=bne_eq_false_iff_eq.mpr c7;clear c7;replace H:=zbd_ H;obtain ⟨⟨t11,t14⟩,A8,H⟩:=H;try dsimp only at H
  simp only [Option.some.injEq,Prod.mk.injEq] at H;obtain ⟨rfl,rfl⟩:=H;go_enter Try.func84,Try.ntmps84
  go_wp2_with (first|((with_reducible refine gate_dst (N:=5) rfl ?_);refine bx_ (N:=5) (cs:=#[.int .i64 a2_0, .int .i64 a2_1, .int .i64 a2_2]) (t:=37) ?_;intro gb1 hg w9 hbox hb;have BK1:=am_ (hbox);have GE1:=am_ ((zg0_ HB hg:w.heap.size≤gb1));replace HB:=am_ (below_step (zl0_ HB) hb);clear hb hbox hg)|((with_reducible refine gate_dst (N:=6) rfl ?_);refine bx_ (N:=6) (cs:=#[.slice none 0 0, .int .i64 0]) (t:=73) ?_;intro gb2 hg w10 hbox hb;have BK2:=am_ (hbox);have GE2:=am_ ((zg1_ HB GE1 hg:w.heap.size≤gb2));replace HB:=am_ (below_step (zl1_ HB GE1) hb);have NB1_2:=am_ ((zn_ BK1 hg:gb1≠gb2));have NB2_1:=am_ ((zm_ BK1 hg:gb2≠gb1));replace BK1:=bb_ BK1 hb;clear hb hbox hg)|((with_reducible refine gate_callee (f:=55) rfl ?_);refine gl_ (some 14) Try.func55 #[.slice A0 l0.length c0, .string a1] ?_;(with_reducible refine (r10_Up.calls k _ _ l0 a1 t3 _ ?side1 ?side2 A4.out).mono ?_);(case side1=>exact zc_ (Kd.C_below HR0.out HB.out));(case side2=>exact HC0.out);rintro e w11 ⟨v4,rfl,ho0,hb⟩;refine ⟨_,rfl, ?_⟩;have HO5:=am_ (Kd.R_lower ho0 (below_size (zl2_ HB GE1 GE2)));replace BK1:=bb_ BK1 hb;replace BK2:=bb_ BK2 hb;replace HB:=am_ (below_step (zl2_ HB GE1 GE2) hb);(try clear hb ho0);have hnb12:=NB1_2.out;have hnc12:=NB2_1.out;obtain ⟨hcz13_0,hcz13_1,hcz13_2⟩:=x3_ BK1;have hfz13_0:=blk_frozen BK1.out 0;have hfz13_1:=blk_frozen BK1.out 1;have hfz13_2:=blk_frozen BK1.out 2)|((with_reducible refine gate_callee (f:=68) rfl ?_);refine gl_ (some 16) Try.func68 #[.agg #[.int .i64 a2_0, .int .i64 a2_1, .int .i64 a2_2]] ?_;(with_reducible refine (r10_MayVec.calls a2_0 a2_1 a2_2 true _ A5.out).mono ?_);rintro e w14 ⟨rfl,hb⟩;refine ⟨_,rfl, ?_⟩;replace HO5:=ob_ HO5 hb;replace BK1:=bb_ BK1 hb;replace BK2:=bb_ BK2 hb;replace HB:=am_ (below_step (zl2_ HB GE1 GE2) hb);(try clear hb);obtain ⟨Ao15,co15,eo15⟩:=Kd.R_slice HO5.out;subst eo15)|((with_reducible refine gate_callee (f:=101) rfl ?_);refine gl_ (some 22) Try.func101 #[.int .i64 2] ?_;(with_reducible refine (r10_no.calls 2 t11 t14 _ A8.out).mono ?_);rintro e w16 ⟨v12,rfl,ho0,hb⟩;refine ⟨_,rfl, ?_⟩;replace HO5:=ob_ HO5 hb;have HO13:=am_ (Kd.R_lower ho0 (below_size (zl2_ HB GE1 GE2)));replace BK1:=bb_ BK1 hb;replace BK2:=bb_ BK2 hb;replace HB:=am_ (below_step (zl2_ HB GE1 GE2) hb);(try clear hb ho0);obtain ⟨Ao17,co17,eo17⟩:=Kd.R_slice HO13.out;subst eo17;obtain ⟨hcz18_0,hcz18_1⟩:=x2_ BK2;have hfz18_0:=blk_frozen BK2.out 0;have hfz18_1:=blk_frozen BK2.out 1))
  refine bodyPost_ret (results_cell_row rfl _ _ gb2 73 #[.slice Ao17 t11.length co17, .int .i64 t14] (0,0) _ rfl (zw_ BK2) Try.underlying73 rfl (by kernel_rfl)) rfl ?_;exact ⟨_,by first|rfl|(simp [errW_none,errW_some]<;>rfl)|(simp [*,errW_none,errW_some]<;>rfl),zy_ HO13 BK2,zl2_ HB GE1 GE2⟩
 rw [if_neg c7] at H;have c7b0:=beq_eq_false_iff_ne.mpr c7;have c7b1:=bne_iff_ne.mpr c7;have c7b2: ¬(t3=[]):=fun h_=>c7 (by rw [h_];rfl)
 replace H:=zbd_ H;obtain ⟨t15,A19,H⟩:=H;try dsimp only at H
 have H':=Aside0.mk H;clear H;go_enter Try.func84,Try.ntmps84
 go_wp2_with (first|((with_reducible refine gate_dst (N:=5) rfl ?_);refine bx_ (N:=5) (cs:=#[.int .i64 a2_0, .int .i64 a2_1, .int .i64 a2_2]) (t:=37) ?_;intro gb1 hg w20 hbox hb;have BK1:=am_ (hbox);have GE1:=am_ ((zg0_ HB hg:w.heap.size≤gb1));replace HB:=am_ (below_step (zl0_ HB) hb);clear hb hbox hg)|((with_reducible refine gate_dst (N:=6) rfl ?_);refine bx_ (N:=6) (cs:=#[.slice none 0 0, .int .i64 0]) (t:=73) ?_;intro gb2 hg w21 hbox hb;have BK2:=am_ (hbox);have GE2:=am_ ((zg1_ HB GE1 hg:w.heap.size≤gb2));replace HB:=am_ (below_step (zl1_ HB GE1) hb);have NB1_2:=am_ ((zn_ BK1 hg:gb1≠gb2));have NB2_1:=am_ ((zm_ BK1 hg:gb2≠gb1));replace BK1:=bb_ BK1 hb;clear hb hbox hg)|((with_reducible refine gate_callee (f:=55) rfl ?_);refine gl_ (some 14) Try.func55 #[.slice A0 l0.length c0, .string a1] ?_;(with_reducible refine (r10_Up.calls k _ _ l0 a1 t3 _ ?side1 ?side2 A4.out).mono ?_);(case side1=>exact zc_ (Kd.C_below HR0.out HB.out));(case side2=>exact HC0.out);rintro e w22 ⟨v4,rfl,ho0,hb⟩;refine ⟨_,rfl, ?_⟩;have HO5:=am_ (Kd.R_lower ho0 (below_size (zl2_ HB GE1 GE2)));replace BK1:=bb_ BK1 hb;replace BK2:=bb_ BK2 hb;replace HB:=am_ (below_step (zl2_ HB GE1 GE2) hb);(try clear hb ho0);have hnb23:=NB1_2.out;have hnc23:=NB2_1.out;obtain ⟨hcz24_0,hcz24_1,hcz24_2⟩:=x3_ BK1;have hfz24_0:=blk_frozen BK1.out 0;have hfz24_1:=blk_frozen BK1.out 1;have hfz24_2:=blk_frozen BK1.out 2)|((with_reducible refine gate_callee (f:=68) rfl ?_);refine gl_ (some 16) Try.func68 #[.agg #[.int .i64 a2_0, .int .i64 a2_1, .int .i64 a2_2]] ?_;(with_reducible refine (r10_MayVec.calls a2_0 a2_1 a2_2 true _ A5.out).mono ?_);rintro e w25 ⟨rfl,hb⟩;refine ⟨_,rfl, ?_⟩;replace HO5:=ob_ HO5 hb;replace BK1:=bb_ BK1 hb;replace BK2:=bb_ BK2 hb;replace HB:=am_ (below_step (zl2_ HB GE1 GE2) hb);(try clear hb);obtain ⟨Ao26,co26,eo26⟩:=Kd.R_slice HO5.out;subst eo26)|((with_reducible refine gate_callee (f:=119) rfl ?_);refine gl_ (some 24) Try.func119 #[.slice A0 l0.length c0] ?_;(with_reducible refine (r10_copied.calls _ _ l0 t15 _ ?side1 ?side2 A19.out).mono ?_);(case side1=>exact zc_ (Kd.C_below HR0.out HB.out));(case side2=>exact HC0.out);rintro e w27 ⟨v16,rfl,ho0,hb⟩;refine ⟨_,rfl, ?_⟩;replace HO5:=ob_ HO5 hb;have HO17:=am_ (Kd.R_lower ho0 (below_size (zl2_ HB GE1 GE2)));replace BK1:=bb_ BK1 hb;replace BK2:=bb_ BK2 hb;replace HB:=am_ (below_step (zl2_ HB GE1 GE2) hb);(try clear hb ho0)))
 go_loopg [9] k (fun kq v9 w'=> ∃(x8_1:List (S79)) (x9_1:Int) (x3001_1:Int),v9= .int .i64 x9_1∧Aside0 (r10_Admit.l0 kq a1 t3 x8_1 x9_1 a2_0 a2_1 a2_2=some (r1,r2))∧Aside0 (kq≤k)∧Aside0 (Kd.R Kd.string 9 w' w.heap.size (fun _=>True) (.slice Ao26 t3.length co26) t3)∧Aside0 (Kd.R k79 79 w' w.heap.size (fun _=>True) v16 x8_1)∧Aside0 (w'.heap[gb1]?=some (.cells #[.int .i64 a2_0, .int .i64 a2_1, .int .i64 a2_2] 37 (0,0)))∧Aside0 (w'.heap[gb2]?=some (.cells #[(.slice none 0 0), .int .i64 x3001_1] 73 (0,0)))∧Aside0 (Below w.heap.size w w'))
 case atStart=>exact ⟨(t15),(0),(0),rf_,H',⟨Nat.le_refl _⟩,am_ (zr_ HO5),am_ (zr_ HO17),am_ (zb_ BK1),am_ (zb_ BK2),⟨zl2_ HB GE1 GE2⟩⟩
 case round=>
  clear H';obtain ⟨x8_1,x9_1,x3001_1,rfl,HA,HK1,HO_7,HO_8,BK1,BK2,HB⟩:=hrel
  cases gk with
  |zero=>exact absurd HA.out (by simp [r10_Admit.l0])
  |succ k1=>
   have H:=HA.out;clear HA;simp only [r10_Admit.l0] at H;by_cases c28:x9_1<(t3.length:Int);rotate_left
   ·rw [if_neg c28] at H;have c28b0:=decide_eq_false c28;clear c28;replace H:=zbd_ H;obtain ⟨t18,A56,H⟩:=H;try dsimp only at H
    replace H:=zif_ H;obtain ⟨c57,H⟩:=H;have c57b0:=decide_eq_true c57;clear c57;replace H:=zif_ H;obtain ⟨c58,H⟩:=H;have c58b0:=decide_eq_true c58;clear c58;replace H:=zbd_ H;obtain ⟨⟨t20,t21,t22⟩,A59,H⟩:=H;try dsimp only at H
    obtain ⟨y23,hy23⟩: ∃y_:List (S79),y_=(x8_1.set (t18:Int).toNat (⟨(rd_T79 x8_1 t18).f0,(rd_T79 x8_1 t18).f1,(⟨(rd_T79 x8_1 t18).f2.f0,(rd_T79 x8_1 t18).f2.f1,(rd_T79 x8_1 t18).f2.f2⟩:S37),(⟨t20,t21,t22⟩:S37),(⟨(rd_T79 x8_1 t18).f4.f0,(rd_T79 x8_1 t18).f4.f1,(rd_T79 x8_1 t18).f4.f2⟩:S37),(rd_T79 x8_1 t18).f5⟩:S79)):=⟨_,rfl⟩;(first|replace H:=zsb_ hy23 H|rw [←hy23] at H);have Ny23:=Aside0.mk hy23;clear hy23;simp only [Option.some.injEq,Prod.mk.injEq] at H;obtain ⟨rfl,rfl⟩:=H;obtain ⟨Ao61,co61,eo61⟩:=Kd.R_slice HO_8.out;subst eo61;try go_wp2_with (first|((with_reducible refine gate_callee (f:=52) rfl ?_);refine gl_ (some 63) Try.func52 #[.slice Ao61 x8_1.length co61, .string a1] ?_;(with_reducible refine (r10_Find.calls k1 _ _ x8_1 a1 t18 _ ?side1 ?side2 A56.out).mono ?_);(case side1=>exact zc_ (Kd.R_reads' HO_8.out).2.2);(case side2=>exact (Kd.R_reads' HO_8.out).2.1);rintro e w' ⟨rfl,⟨nd,rfl⟩⟩;refine ⟨_,rfl, ?_⟩;(try (rw [drewN_self wr];generalize hq_:World.drewN wr _=wr;replace HO_7:=am_ (Kd.R_at hq_ HO_7.out);replace HO_8:=am_ (Kd.R_at hq_ HO_8.out);replace BK1:=am_ (blk_at hq_ BK1.out);replace BK2:=am_ (blk_at hq_ BK2.out);replace HB:=am_ (below_at hq_ HB.out);clear hq_))))
    replace HO_7:=am_ (Kd.R_drew HO_7.out);replace HO_8:=am_ (Kd.R_drew HO_8.out);replace BK1:=am_ (blk_drew BK1.out);replace BK2:=am_ (blk_drew BK2.out);replace HB:=am_ (below_drew1 HB.out);obtain ⟨p19,q19,ad19,e19,hx19_0,hx19_1,hx19_2,hx19_3,hx19_4,hx19_5,hx19_6,hx19_7,hx19_8,hx19_9,hx19_10,hx19_11⟩:=zat_ (at_T79 (Kd.R_reads' HO_8.out).2.2 t18);cases e19
    refine start_ (n:=12) (S:=fun w'=>w'.cell? ⟨gb1,0,none⟩=some (.int .i64 a2_0)∧w'.cell? ⟨gb1,1,none⟩=some (.int .i64 a2_1)∧w'.cell? ⟨gb1,2,none⟩=some (.int .i64 a2_2)∧w'.cell? (ad19.add ((t18).toNat*12))=some (.string ((rd_T79 x8_1 t18).f0))∧w'.cell? ⟨(ad19.add ((t18).toNat*12)).block,(ad19.add ((t18).toNat*12)).off+1,none⟩=some (.string ((rd_T79 x8_1 t18).f1))∧w'.cell? ⟨(ad19.add ((t18).toNat*12)).block,(ad19.add ((t18).toNat*12)).off+2,none⟩=some (.int .i64 ((rd_T79 x8_1 t18).f2.f0))∧w'.cell? ⟨(ad19.add ((t18).toNat*12)).block,(ad19.add ((t18).toNat*12)).off+3,none⟩=some (.int .i64 ((rd_T79 x8_1 t18).f2.f1))∧w'.cell? ⟨(ad19.add ((t18).toNat*12)).block,(ad19.add ((t18).toNat*12)).off+4,none⟩=some (.int .i64 ((rd_T79 x8_1 t18).f2.f2))∧w'.cell? ⟨(ad19.add ((t18).toNat*12)).block,(ad19.add ((t18).toNat*12)).off+5,none⟩=some (.int .i64 ((rd_T79 x8_1 t18).f3.f0))∧w'.cell? ⟨(ad19.add ((t18).toNat*12)).block,(ad19.add ((t18).toNat*12)).off+6,none⟩=some (.int .i64 ((rd_T79 x8_1 t18).f3.f1))∧w'.cell? ⟨(ad19.add ((t18).toNat*12)).block,(ad19.add ((t18).toNat*12)).off+7,none⟩=some (.int .i64 ((rd_T79 x8_1 t18).f3.f2))∧w'.cell? ⟨(ad19.add ((t18).toNat*12)).block,(ad19.add ((t18).toNat*12)).off+8,none⟩=some (.int .i64 ((rd_T79 x8_1 t18).f4.f0))∧w'.cell? ⟨(ad19.add ((t18).toNat*12)).block,(ad19.add ((t18).toNat*12)).off+9,none⟩=some (.int .i64 ((rd_T79 x8_1 t18).f4.f1))∧w'.cell? ⟨(ad19.add ((t18).toNat*12)).block,(ad19.add ((t18).toNat*12)).off+10,none⟩=some (.int .i64 ((rd_T79 x8_1 t18).f4.f2))∧w'.cell? ⟨(ad19.add ((t18).toNat*12)).block,(ad19.add ((t18).toNat*12)).off+11,none⟩=some (.int .i64 ((rd_T79 x8_1 t18).f5))) (ds:=[11]) (bs_ 12 0) (by kernel_rfl) rfl rfl ⟨(blk_cell BK1.out 0).trans rfl,(blk_cell BK1.out 1).trans rfl,(blk_cell BK1.out 2).trans rfl,hx19_0,hx19_1,hx19_2,hx19_3,hx19_4,hx19_5,hx19_6,hx19_7,hx19_8,hx19_9,hx19_10,hx19_11⟩ (fun hHeld=> ?_);refine with_tabW r10_Admit.tab15 r10_Admit.bits15 (fun HT_ HW_=> ?_)
    generalize wr.drew=w62 at HO_7 HO_8 BK1 BK2 HB hx19_0 hx19_1 hx19_10 hx19_11 hx19_2 hx19_3 hx19_4 hx19_5 hx19_6 hx19_7 hx19_8 hx19_9 hHeld ⊢;(iterate 6 refine qu_ HT_ ?_);(iterate 2 refine qk_ HT_ HW_ hHeld ?_);refine on_ (i:=8) (N:=some 72) (bs_ 12 9) HT_ (fun K hK=> ?_);refine gs_ Try.func70 #[.agg #[.int .i64 ((rd_T79 x8_1 t18).f3.f0), .int .i64 ((rd_T79 x8_1 t18).f3.f1), .int .i64 ((rd_T79 x8_1 t18).f3.f2)], .agg #[.int .i64 a2_0, .int .i64 a2_1, .int .i64 a2_2]] ?_
    with_reducible refine (r10_Add.calls ((rd_T79 x8_1 t18).f3.f0) ((rd_T79 x8_1 t18).f3.f1) ((rd_T79 x8_1 t18).f3.f2) a2_0 a2_1 a2_2 t20 t21 t22 _ A59.out).mono ?_
    rintro e w63 ⟨rfl,hb⟩;have HS3_:=zh_ hb (hHeld.2.2.2.1);have HS4_:=zh_ hb (hHeld.2.2.2.2.1);have HS5_:=zh_ hb (hHeld.2.2.2.2.2.1);have HS6_:=zh_ hb (hHeld.2.2.2.2.2.2.1);have HS7_:=zh_ hb (hHeld.2.2.2.2.2.2.2.1);have HS8_:=zh_ hb (hHeld.2.2.2.2.2.2.2.2.1);have HS9_:=zh_ hb (hHeld.2.2.2.2.2.2.2.2.2.1);have HS10_:=zh_ hb (hHeld.2.2.2.2.2.2.2.2.2.2.1);have HS11_:=zh_ hb (hHeld.2.2.2.2.2.2.2.2.2.2.2.1);have HS12_:=zh_ hb (hHeld.2.2.2.2.2.2.2.2.2.2.2.2.1);have HS13_:=zh_ hb (hHeld.2.2.2.2.2.2.2.2.2.2.2.2.2.1);have HS14_:=zh_ hb (hHeld.2.2.2.2.2.2.2.2.2.2.2.2.2.2);refine ⟨_,rfl, ?_⟩;replace HO_7:=ob_ HO_7 hb;replace HO_8:=ob_ HO_8 hb;replace BK1:=bb_ BK1 hb;replace BK2:=bb_ BK2 hb;replace HB:=am_ (below_step (zl2_ HB GE1 GE2) hb);(try clear hb);(try clear hb2);(try clear hk);(try clear hi);have p60:0≤(t18:Int):=of_decide_eq_true zq_;have q60:(t18:Int)<((x8_1.length:Int):Int):=of_decide_eq_true zq_;obtain ⟨go60,co60,eo60,gb60,gl60,cl60,HG60⟩:=Kd.R_form HO_8.out (by omega);(first|cases eo60|(injection eo60 with ea_ en_ ec_;(first|subst ea_|(injection ea_ with ea_;subst ea_));subst ec_;clear en_));have GB60:=Aside0.mk gb60;have GG60:=Aside0.mk HG60;clear gb60 gl60 HG60;replace hx19_0:=zv_ hx19_0;replace hx19_1:=zv_ hx19_1;replace hx19_2:=zv_ hx19_2;replace hx19_3:=zv_ hx19_3;replace hx19_4:=zv_ hx19_4;replace hx19_5:=zv_ hx19_5;replace hx19_6:=zv_ hx19_6;replace hx19_7:=zv_ hx19_7;replace hx19_8:=zv_ hx19_8;replace hx19_9:=zv_ hx19_9;replace hx19_10:=zv_ hx19_10
    replace hx19_11:=zv_ hx19_11;obtain ⟨ce60,hcl60,hM60,hcc60,hfr60⟩:=Kd.R_elem HO_8.out z79 (t18:Int) p60 q60;obtain rfl:=k79_openM hM60;obtain ⟨hx60_0,hx60_1,hx60_2,hx60_3,hx60_4,hx60_5,hx60_6,hx60_7,hx60_8,hx60_9,hx60_10,hx60_11⟩:=rc12_ (m:=(t18:Int).toNat*12) hcc60;obtain ⟨hf60_0,hf60_1,hf60_2,hf60_3,hf60_4,hf60_5,hf60_6,hf60_7,hf60_8,hf60_9,hf60_10,hf60_11⟩:=rg12_ (m:=(t18:Int).toNat*12) hfr60;clear hcl60 hcc60 hfr60 hM60;replace p60:=eq_true p60;replace q60:=eq_true q60;obtain ⟨ce64,hcl64,hM64,hcc64,hfr64⟩:=Kd.R_elem HO_8.out z79 (t18:Int) (of_decide_eq_true zq_) (by have h_:(t18:Int)<((x8_1.length:Int):Int):=of_decide_eq_true zq_;first|exact h_|(have e_:=(Kd.R_reads' HO_8.out).1;omega)|simpa using h_);obtain rfl:=k79_openM hM64
    have HP64:=(Kd.R_seg HO_8.out (t18:Int) (of_decide_eq_true zq_) (by have h_:(t18:Int)<((x8_1.length:Int):Int):=of_decide_eq_true zq_;first|exact h_|(have e_:=(Kd.R_reads' HO_8.out).1;omega)|simpa using h_) (seg:=[.int .i64 t20, .int .i64 t21, .int .i64 t22]) (j:=5) hcl64 hcc64 (show 8≤12 from by decide) (x':=(⟨(rd_T79 x8_1 t18).f0,(rd_T79 x8_1 t18).f1,(⟨(rd_T79 x8_1 t18).f2.f0,(rd_T79 x8_1 t18).f2.f1,(rd_T79 x8_1 t18).f2.f2⟩:S37),(⟨t20,t21,t22⟩:S37),(⟨(rd_T79 x8_1 t18).f4.f0,(rd_T79 x8_1 t18).f4.f1,(rd_T79 x8_1 t18).f4.f2⟩:S37),(rd_T79 x8_1 t18).f5⟩:S79)) (k79_mkM _ _ _ (⟨(rd_T79 x8_1 t18).f0,(rd_T79 x8_1 t18).f1,(⟨(rd_T79 x8_1 t18).f2.f0,(rd_T79 x8_1 t18).f2.f1,(rd_T79 x8_1 t18).f2.f2⟩:S37),(⟨t20,t21,t22⟩:S37),(⟨(rd_T79 x8_1 t18).f4.f0,(rd_T79 x8_1 t18).f4.f1,(rd_T79 x8_1 t18).f4.f2⟩:S37),(rd_T79 x8_1 t18).f5⟩:S79)) (fun _ hk=>hk)).1;rw [←Ny23.out] at HP64;have HQ64:=Aside0.mk HP64;clear hcl64 hcc64 hfr64 hM64 HP64;refine hK.out _ _ ⟨(blk_cell BK1.out 0).trans rfl,(blk_cell BK1.out 1).trans rfl,(blk_cell BK1.out 2).trans rfl,HS3_,HS4_,HS5_,HS6_,HS7_,HS8_,HS9_,HS10_,HS11_,HS12_,HS13_,HS14_⟩ (fun hHeld=> ?_);clear hK K;refine no_ (N:=some 72) ?_;(iterate 2 refine qu_ HT_ ?_);refine last_ (i:=11) (N:=none) (bs_ 12 12) rfl rfl (one_of HT_.out (by kernel_rfl)) (by decide) (fun K hK=> ?_);refine skip_ (w1:= ?_) (by rfl) rfl ?_ ?_;rotate_left
    ·go_simp
     rfl
    refine hK.out _ _ ?_;clear hK K;refine done_ (done_of HT_.out (by kernel_rfl)) ?_;have n0_:Aside0 (Kd.R Kd.string 9 (((w63.setCell ⟨go60,(t18:Int).toNat*12+5,none⟩ (.int .i64 t20)).setCell ⟨go60,(t18:Int).toNat*12+6,none⟩ (.int .i64 t21)).setCell ⟨go60,(t18:Int).toNat*12+7,none⟩ (.int .i64 t22)) w.heap.size (fun _=>True) (.slice Ao26 t3.length co26) t3):=⟨by (with_reducible repeat (first|apply Kd.R_alloc|apply Kd.R_drewN|apply Kd.R_drew));exact Kd.R_mono (Kd.R_far (p:=⟨go60,(t18:Int).toNat*12+7,none⟩) (Kd.R_far (p:=⟨go60,(t18:Int).toNat*12+6,none⟩) (Kd.R_far (p:=⟨go60,(t18:Int).toNat*12+5,none⟩) (Kd.R_types HO_7.out GG60.out (by decide)) (fun _ hk=>hk.2) (.int .i64 t20)) (fun _ hk=>hk.2) (.int .i64 t21)) (fun _ hk=>hk.2) (.int .i64 t22)) (fun _ hk=>trivial)⟩;have n1_:Aside0 (Kd.R k79 79 (((w63.setCell ⟨go60,(t18:Int).toNat*12+5,none⟩ (.int .i64 t20)).setCell ⟨go60,(t18:Int).toNat*12+6,none⟩ (.int .i64 t21)).setCell ⟨go60,(t18:Int).toNat*12+7,none⟩ (.int .i64 t22)) w.heap.size (fun _=>True) (.slice (some ⟨go60,0,none⟩) x8_1.length co61) y23):=am_ (zr_ HQ64)
    have n2_:Aside0 ((((w63.setCell ⟨go60,(t18:Int).toNat*12+5,none⟩ (.int .i64 t20)).setCell ⟨go60,(t18:Int).toNat*12+6,none⟩ (.int .i64 t21)).setCell ⟨go60,(t18:Int).toNat*12+7,none⟩ (.int .i64 t22)).heap[gb1]?=some (.cells #[.int .i64 a2_0, .int .i64 a2_1, .int .i64 a2_2] 37 (0,0))):=⟨by refine zk_ ?_;refine blk_far ?_ (by have h_:=Kd.R_ne HO_8.out BK1.out (by decide);intro e_;exact h_ (by rw [e_];rfl)) _;refine zk_ ?_;refine blk_far ?_ (by have h_:=Kd.R_ne HO_8.out BK1.out (by decide);intro e_;exact h_ (by rw [e_];rfl)) _;refine zk_ ?_;refine blk_far ?_ (by have h_:=Kd.R_ne HO_8.out BK1.out (by decide);intro e_;exact h_ (by rw [e_];rfl)) _;refine zk_ ?_;exact BK1.out⟩;have n3_:Aside0 ((((w63.setCell ⟨go60,(t18:Int).toNat*12+5,none⟩ (.int .i64 t20)).setCell ⟨go60,(t18:Int).toNat*12+6,none⟩ (.int .i64 t21)).setCell ⟨go60,(t18:Int).toNat*12+7,none⟩ (.int .i64 t22)).heap[gb2]?=some (.cells #[.slice none 0 0, .int .i64 x3001_1] 73 (0,0))):=⟨by refine zk_ ?_;refine blk_far ?_ (by have h_:=Kd.R_ne HO_8.out BK2.out (by decide);intro e_;exact h_ (by rw [e_];rfl)) _;refine zk_ ?_;refine blk_far ?_ (by have h_:=Kd.R_ne HO_8.out BK2.out (by decide);intro e_;exact h_ (by rw [e_];rfl)) _;refine zk_ ?_;refine blk_far ?_ (by have h_:=Kd.R_ne HO_8.out BK2.out (by decide);intro e_;exact h_ (by rw [e_];rfl)) _;refine zk_ ?_;exact BK2.out⟩
    have n4_:Aside0 (Below w.heap.size w (((w63.setCell ⟨go60,(t18:Int).toNat*12+5,none⟩ (.int .i64 t20)).setCell ⟨go60,(t18:Int).toNat*12+6,none⟩ (.int .i64 t21)).setCell ⟨go60,(t18:Int).toNat*12+7,none⟩ (.int .i64 t22))):=⟨by repeat (first|(with_reducible first|exact HB.out|apply below_alloc|apply pw_below_drewN|apply below_drew1|refine below_set ?_ GB60.out|refine below_set ?_ GB60.out|refine below_set ?_ GB60.out|refine below_set ?_ GE1.out|refine below_set ?_ GE2.out)|exact HB.out)⟩;(try clear HO_7);(try clear HO_8);(try clear BK1);(try clear BK2);(try clear HB);generalize (((w63.setCell ⟨go60,(t18:Int).toNat*12+5,none⟩ (.int .i64 t20)).setCell ⟨go60,(t18:Int).toNat*12+6,none⟩ (.int .i64 t21)).setCell ⟨go60,(t18:Int).toNat*12+7,none⟩ (.int .i64 t22))=w65 at n0_ n1_ n2_ n3_ n4_ ⊢;have HO_7:=n0_;have HO_8:=n1_;have BK1:=n2_;have BK2:=n3_;have HB:=n4_;clear n0_ n1_ n2_ n3_ n4_;have hnb66:=NB2_1.out;have hnc66:=NB1_2.out;obtain ⟨hcz67_0,hcz67_1,hfz67_0,hfz67_1⟩:=y2_ BK2;try go_wp2
    refine bodyPost_ret (results_cell_row rfl _ _ gb2 73 #[.slice (some ⟨go60,0,none⟩) x8_1.length co61, .int .i64 0] (0,0) _ rfl (zw_ BK2) Try.underlying73 rfl (by kernel_rfl)) rfl ?_;exact ⟨_,by first|rfl|(simp [errW_none,errW_some]<;>rfl)|(simp [*,errW_none,errW_some]<;>rfl),zy_ HO_8 BK2,zl2_ HB GE1 GE2⟩
   rw [if_pos c28] at H;have c28b0:=decide_eq_true c28;clear c28;replace H:=zif_ H;obtain ⟨c29,H⟩:=H;have c29b0:=decide_eq_true c29;clear c29;replace H:=zbd_ H;obtain ⟨t25,A30,H⟩:=H;try dsimp only at H
   replace H:=zif_ H;obtain ⟨c31,H⟩:=H;have c31b0:=decide_eq_true c31;clear c31;replace H:=zif_ H;obtain ⟨c32,H⟩:=H;have c32b0:=decide_eq_true c32;clear c32;replace H:=zbd_ H;obtain ⟨⟨t27,t28,t29⟩,A33,H⟩:=H;try dsimp only at H
   obtain ⟨y30,hy30⟩: ∃y_:List (S79),y_=(x8_1.set (t25:Int).toNat (⟨(rd_T79 x8_1 t25).f0,(rd_T79 x8_1 t25).f1,(⟨(rd_T79 x8_1 t25).f2.f0,(rd_T79 x8_1 t25).f2.f1,(rd_T79 x8_1 t25).f2.f2⟩:S37),(⟨(rd_T79 x8_1 t25).f3.f0,(rd_T79 x8_1 t25).f3.f1,(rd_T79 x8_1 t25).f3.f2⟩:S37),(⟨t27,t28,t29⟩:S37),(rd_T79 x8_1 t25).f5⟩:S79)):=⟨_,rfl⟩;(first|replace H:=zsb_ hy30 H|rw [←hy30] at H);have Ny30:=Aside0.mk hy30;clear hy30;replace H:=zbd_ H;obtain ⟨t33,A35,H⟩:=H;try dsimp only at H
   by_cases c36:t33=true
   ·subst c36;rw [if_pos rfl] at H;have H':=Aside0.mk H;clear H;obtain ⟨p24,q24,ad24,e24,hx24_0⟩:=zat_ (Kd.at_string (Kd.R_reads' HO_7.out).2.2 x9_1);cases e24;obtain ⟨Ao37,co37,eo37⟩:=Kd.R_slice HO_8.out;subst eo37;try go_wp2_with (first|((with_reducible refine gate_callee (f:=52) rfl ?_);refine gl_ (some 36) Try.func52 #[.slice Ao37 x8_1.length co37, .string (rdOf ByteArray.empty t3 x9_1)] ?_;(with_reducible refine (r10_Find.calls k1 _ _ x8_1 (rdOf ByteArray.empty t3 x9_1) t25 _ ?side1 ?side2 A30.out).mono ?_);(case side1=>exact zc_ (Kd.R_reads' HO_8.out).2.2);(case side2=>exact (Kd.R_reads' HO_8.out).2.1);rintro e w' ⟨rfl,⟨nd,rfl⟩⟩;refine ⟨_,rfl, ?_⟩;(try (rw [drewN_self wr];generalize hq_:World.drewN wr _=wr;replace HO_7:=am_ (Kd.R_at hq_ HO_7.out);replace HO_8:=am_ (Kd.R_at hq_ HO_8.out);replace BK1:=am_ (blk_at hq_ BK1.out);replace BK2:=am_ (blk_at hq_ BK2.out);replace HB:=am_ (below_at hq_ HB.out);clear hq_))))
    replace HO_7:=am_ (Kd.R_drew HO_7.out);replace HO_8:=am_ (Kd.R_drew HO_8.out);replace BK1:=am_ (blk_drew BK1.out);replace BK2:=am_ (blk_drew BK2.out);replace HB:=am_ (below_drew1 HB.out);obtain ⟨p26,q26,ad26,e26,hx26_0,hx26_1,hx26_2,hx26_3,hx26_4,hx26_5,hx26_6,hx26_7,hx26_8,hx26_9,hx26_10,hx26_11⟩:=zat_ (at_T79 (Kd.R_reads' HO_8.out).2.2 t25);cases e26
    refine start_ (n:=12) (S:=fun w'=>w'.cell? ⟨gb1,0,none⟩=some (.int .i64 a2_0)∧w'.cell? ⟨gb1,1,none⟩=some (.int .i64 a2_1)∧w'.cell? ⟨gb1,2,none⟩=some (.int .i64 a2_2)∧w'.cell? (ad26.add ((t25).toNat*12))=some (.string ((rd_T79 x8_1 t25).f0))∧w'.cell? ⟨(ad26.add ((t25).toNat*12)).block,(ad26.add ((t25).toNat*12)).off+1,none⟩=some (.string ((rd_T79 x8_1 t25).f1))∧w'.cell? ⟨(ad26.add ((t25).toNat*12)).block,(ad26.add ((t25).toNat*12)).off+2,none⟩=some (.int .i64 ((rd_T79 x8_1 t25).f2.f0))∧w'.cell? ⟨(ad26.add ((t25).toNat*12)).block,(ad26.add ((t25).toNat*12)).off+3,none⟩=some (.int .i64 ((rd_T79 x8_1 t25).f2.f1))∧w'.cell? ⟨(ad26.add ((t25).toNat*12)).block,(ad26.add ((t25).toNat*12)).off+4,none⟩=some (.int .i64 ((rd_T79 x8_1 t25).f2.f2))∧w'.cell? ⟨(ad26.add ((t25).toNat*12)).block,(ad26.add ((t25).toNat*12)).off+5,none⟩=some (.int .i64 ((rd_T79 x8_1 t25).f3.f0))∧w'.cell? ⟨(ad26.add ((t25).toNat*12)).block,(ad26.add ((t25).toNat*12)).off+6,none⟩=some (.int .i64 ((rd_T79 x8_1 t25).f3.f1))∧w'.cell? ⟨(ad26.add ((t25).toNat*12)).block,(ad26.add ((t25).toNat*12)).off+7,none⟩=some (.int .i64 ((rd_T79 x8_1 t25).f3.f2))∧w'.cell? ⟨(ad26.add ((t25).toNat*12)).block,(ad26.add ((t25).toNat*12)).off+8,none⟩=some (.int .i64 ((rd_T79 x8_1 t25).f4.f0))∧w'.cell? ⟨(ad26.add ((t25).toNat*12)).block,(ad26.add ((t25).toNat*12)).off+9,none⟩=some (.int .i64 ((rd_T79 x8_1 t25).f4.f1))∧w'.cell? ⟨(ad26.add ((t25).toNat*12)).block,(ad26.add ((t25).toNat*12)).off+10,none⟩=some (.int .i64 ((rd_T79 x8_1 t25).f4.f2))∧w'.cell? ⟨(ad26.add ((t25).toNat*12)).block,(ad26.add ((t25).toNat*12)).off+11,none⟩=some (.int .i64 ((rd_T79 x8_1 t25).f5))) (ds:=[11]) (bs_ 12 0) (by kernel_rfl) rfl rfl ⟨(blk_cell BK1.out 0).trans rfl,(blk_cell BK1.out 1).trans rfl,(blk_cell BK1.out 2).trans rfl,hx26_0,hx26_1,hx26_2,hx26_3,hx26_4,hx26_5,hx26_6,hx26_7,hx26_8,hx26_9,hx26_10,hx26_11⟩ (fun hHeld=> ?_);refine with_tabW r10_Admit.tab11 r10_Admit.bits11 (fun HT_ HW_=> ?_)
    generalize wr.drew=w38 at HO_7 HO_8 BK1 BK2 HB hx26_0 hx26_1 hx26_10 hx26_11 hx26_2 hx26_3 hx26_4 hx26_5 hx26_6 hx26_7 hx26_8 hx26_9 hHeld ⊢;(iterate 6 refine qu_ HT_ ?_);(iterate 2 refine qk_ HT_ HW_ hHeld ?_);refine on_ (i:=8) (N:=some 45) (bs_ 12 9) HT_ (fun K hK=> ?_);refine gs_ Try.func70 #[.agg #[.int .i64 ((rd_T79 x8_1 t25).f4.f0), .int .i64 ((rd_T79 x8_1 t25).f4.f1), .int .i64 ((rd_T79 x8_1 t25).f4.f2)], .agg #[.int .i64 a2_0, .int .i64 a2_1, .int .i64 a2_2]] ?_
    with_reducible refine (r10_Add.calls ((rd_T79 x8_1 t25).f4.f0) ((rd_T79 x8_1 t25).f4.f1) ((rd_T79 x8_1 t25).f4.f2) a2_0 a2_1 a2_2 t27 t28 t29 _ A33.out).mono ?_
    rintro e w39 ⟨rfl,hb⟩;have HS3_:=zh_ hb (hHeld.2.2.2.1);have HS4_:=zh_ hb (hHeld.2.2.2.2.1);have HS5_:=zh_ hb (hHeld.2.2.2.2.2.1);have HS6_:=zh_ hb (hHeld.2.2.2.2.2.2.1);have HS7_:=zh_ hb (hHeld.2.2.2.2.2.2.2.1);have HS8_:=zh_ hb (hHeld.2.2.2.2.2.2.2.2.1);have HS9_:=zh_ hb (hHeld.2.2.2.2.2.2.2.2.2.1);have HS10_:=zh_ hb (hHeld.2.2.2.2.2.2.2.2.2.2.1);have HS11_:=zh_ hb (hHeld.2.2.2.2.2.2.2.2.2.2.2.1);have HS12_:=zh_ hb (hHeld.2.2.2.2.2.2.2.2.2.2.2.2.1);have HS13_:=zh_ hb (hHeld.2.2.2.2.2.2.2.2.2.2.2.2.2.1);have HS14_:=zh_ hb (hHeld.2.2.2.2.2.2.2.2.2.2.2.2.2.2);refine ⟨_,rfl, ?_⟩;replace HO_7:=ob_ HO_7 hb;replace HO_8:=ob_ HO_8 hb;replace BK1:=bb_ BK1 hb;replace BK2:=bb_ BK2 hb;replace HB:=am_ (below_step (zl2_ HB GE1 GE2) hb);(try clear hb);(try clear hb2);(try clear hk);(try clear hi);have p34:0≤(t25:Int):=of_decide_eq_true zq_;have q34:(t25:Int)<((x8_1.length:Int):Int):=of_decide_eq_true zq_;obtain ⟨go34,co34,eo34,gb34,gl34,cl34,HG34⟩:=Kd.R_form HO_8.out (by omega);(first|cases eo34|(injection eo34 with ea_ en_ ec_;(first|subst ea_|(injection ea_ with ea_;subst ea_));subst ec_;clear en_));have GB34:=Aside0.mk gb34;have GG34:=Aside0.mk HG34;clear gb34 gl34 HG34;replace hx26_0:=zv_ hx26_0;replace hx26_1:=zv_ hx26_1;replace hx26_2:=zv_ hx26_2;replace hx26_3:=zv_ hx26_3;replace hx26_4:=zv_ hx26_4;replace hx26_5:=zv_ hx26_5;replace hx26_6:=zv_ hx26_6;replace hx26_7:=zv_ hx26_7;replace hx26_8:=zv_ hx26_8;replace hx26_9:=zv_ hx26_9;replace hx26_10:=zv_ hx26_10
    replace hx26_11:=zv_ hx26_11;obtain ⟨ce34,hcl34,hM34,hcc34,hfr34⟩:=Kd.R_elem HO_8.out z79 (t25:Int) p34 q34;obtain rfl:=k79_openM hM34;obtain ⟨hx34_0,hx34_1,hx34_2,hx34_3,hx34_4,hx34_5,hx34_6,hx34_7,hx34_8,hx34_9,hx34_10,hx34_11⟩:=rc12_ (m:=(t25:Int).toNat*12) hcc34;obtain ⟨hf34_0,hf34_1,hf34_2,hf34_3,hf34_4,hf34_5,hf34_6,hf34_7,hf34_8,hf34_9,hf34_10,hf34_11⟩:=rg12_ (m:=(t25:Int).toNat*12) hfr34;clear hcl34 hcc34 hfr34 hM34;replace p34:=eq_true p34;replace q34:=eq_true q34;obtain ⟨ce40,hcl40,hM40,hcc40,hfr40⟩:=Kd.R_elem HO_8.out z79 (t25:Int) (of_decide_eq_true zq_) (by have h_:(t25:Int)<((x8_1.length:Int):Int):=of_decide_eq_true zq_;first|exact h_|(have e_:=(Kd.R_reads' HO_8.out).1;omega)|simpa using h_);obtain rfl:=k79_openM hM40
    have HP40:=(Kd.R_seg HO_8.out (t25:Int) (of_decide_eq_true zq_) (by have h_:(t25:Int)<((x8_1.length:Int):Int):=of_decide_eq_true zq_;first|exact h_|(have e_:=(Kd.R_reads' HO_8.out).1;omega)|simpa using h_) (seg:=[.int .i64 t27, .int .i64 t28, .int .i64 t29]) (j:=8) hcl40 hcc40 (show 11≤12 from by decide) (x':=(⟨(rd_T79 x8_1 t25).f0,(rd_T79 x8_1 t25).f1,(⟨(rd_T79 x8_1 t25).f2.f0,(rd_T79 x8_1 t25).f2.f1,(rd_T79 x8_1 t25).f2.f2⟩:S37),(⟨(rd_T79 x8_1 t25).f3.f0,(rd_T79 x8_1 t25).f3.f1,(rd_T79 x8_1 t25).f3.f2⟩:S37),(⟨t27,t28,t29⟩:S37),(rd_T79 x8_1 t25).f5⟩:S79)) (k79_mkM _ _ _ (⟨(rd_T79 x8_1 t25).f0,(rd_T79 x8_1 t25).f1,(⟨(rd_T79 x8_1 t25).f2.f0,(rd_T79 x8_1 t25).f2.f1,(rd_T79 x8_1 t25).f2.f2⟩:S37),(⟨(rd_T79 x8_1 t25).f3.f0,(rd_T79 x8_1 t25).f3.f1,(rd_T79 x8_1 t25).f3.f2⟩:S37),(⟨t27,t28,t29⟩:S37),(rd_T79 x8_1 t25).f5⟩:S79)) (fun _ hk=>hk)).1;rw [←Ny30.out] at HP40;have HQ40:=Aside0.mk HP40;clear hcl40 hcc40 hfr40 hM40 HP40;refine hK.out _ _ ⟨(blk_cell BK1.out 0).trans rfl,(blk_cell BK1.out 1).trans rfl,(blk_cell BK1.out 2).trans rfl,HS3_,HS4_,HS5_,HS6_,HS7_,HS8_,HS9_,HS10_,HS11_,HS12_,HS13_,HS14_⟩ (fun hHeld=> ?_);clear hK K;refine no_ (N:=some 45) ?_;(iterate 2 refine qu_ HT_ ?_);refine last_ (i:=11) (N:=none) (bs_ 12 12) rfl rfl (one_of HT_.out (by kernel_rfl)) (by decide) (fun K hK=> ?_);refine skip_ (w1:= ?_) (by rfl) rfl ?_ ?_;rotate_left
    ·go_simp
     rfl
    refine hK.out _ _ ?_;clear hK K;refine done_ (done_of HT_.out (by kernel_rfl)) ?_;try go_wp2
    have n0_:Aside0 (Kd.R Kd.string 9 (((w39.setCell ⟨go34,(t25:Int).toNat*12+8,none⟩ (.int .i64 t27)).setCell ⟨go34,(t25:Int).toNat*12+9,none⟩ (.int .i64 t28)).setCell ⟨go34,(t25:Int).toNat*12+10,none⟩ (.int .i64 t29)) w.heap.size (fun _=>True) (.slice (some ad24) t3.length co26) t3):=⟨by (with_reducible repeat (first|apply Kd.R_alloc|apply Kd.R_drewN|apply Kd.R_drew));exact Kd.R_mono (Kd.R_far (p:=⟨go34,(t25:Int).toNat*12+10,none⟩) (Kd.R_far (p:=⟨go34,(t25:Int).toNat*12+9,none⟩) (Kd.R_far (p:=⟨go34,(t25:Int).toNat*12+8,none⟩) (Kd.R_types HO_7.out GG34.out (by decide)) (fun _ hk=>hk.2) (.int .i64 t27)) (fun _ hk=>hk.2) (.int .i64 t28)) (fun _ hk=>hk.2) (.int .i64 t29)) (fun _ hk=>trivial)⟩;have n1_:Aside0 (Kd.R k79 79 (((w39.setCell ⟨go34,(t25:Int).toNat*12+8,none⟩ (.int .i64 t27)).setCell ⟨go34,(t25:Int).toNat*12+9,none⟩ (.int .i64 t28)).setCell ⟨go34,(t25:Int).toNat*12+10,none⟩ (.int .i64 t29)) w.heap.size (fun _=>True) (.slice (some ⟨go34,0,none⟩) x8_1.length co37) y30):=am_ (zr_ HQ40)
    have n2_:Aside0 ((((w39.setCell ⟨go34,(t25:Int).toNat*12+8,none⟩ (.int .i64 t27)).setCell ⟨go34,(t25:Int).toNat*12+9,none⟩ (.int .i64 t28)).setCell ⟨go34,(t25:Int).toNat*12+10,none⟩ (.int .i64 t29)).heap[gb1]?=some (.cells #[.int .i64 a2_0, .int .i64 a2_1, .int .i64 a2_2] 37 (0,0))):=⟨by refine zk_ ?_;refine blk_far ?_ (by have h_:=Kd.R_ne HO_8.out BK1.out (by decide);intro e_;exact h_ (by rw [e_];rfl)) _;refine zk_ ?_;refine blk_far ?_ (by have h_:=Kd.R_ne HO_8.out BK1.out (by decide);intro e_;exact h_ (by rw [e_];rfl)) _;refine zk_ ?_;refine blk_far ?_ (by have h_:=Kd.R_ne HO_8.out BK1.out (by decide);intro e_;exact h_ (by rw [e_];rfl)) _;refine zk_ ?_;exact BK1.out⟩;have n3_:Aside0 ((((w39.setCell ⟨go34,(t25:Int).toNat*12+8,none⟩ (.int .i64 t27)).setCell ⟨go34,(t25:Int).toNat*12+9,none⟩ (.int .i64 t28)).setCell ⟨go34,(t25:Int).toNat*12+10,none⟩ (.int .i64 t29)).heap[gb2]?=some (.cells #[.slice none 0 0, .int .i64 x3001_1] 73 (0,0))):=⟨by refine zk_ ?_;refine blk_far ?_ (by have h_:=Kd.R_ne HO_8.out BK2.out (by decide);intro e_;exact h_ (by rw [e_];rfl)) _;refine zk_ ?_;refine blk_far ?_ (by have h_:=Kd.R_ne HO_8.out BK2.out (by decide);intro e_;exact h_ (by rw [e_];rfl)) _;refine zk_ ?_;refine blk_far ?_ (by have h_:=Kd.R_ne HO_8.out BK2.out (by decide);intro e_;exact h_ (by rw [e_];rfl)) _;refine zk_ ?_;exact BK2.out⟩
    have n4_:Aside0 (Below w.heap.size w (((w39.setCell ⟨go34,(t25:Int).toNat*12+8,none⟩ (.int .i64 t27)).setCell ⟨go34,(t25:Int).toNat*12+9,none⟩ (.int .i64 t28)).setCell ⟨go34,(t25:Int).toNat*12+10,none⟩ (.int .i64 t29))):=⟨by repeat (first|(with_reducible first|exact HB.out|apply below_alloc|apply pw_below_drewN|apply below_drew1|refine below_set ?_ GB34.out|refine below_set ?_ GB34.out|refine below_set ?_ GB34.out|refine below_set ?_ GE1.out|refine below_set ?_ GE2.out)|exact HB.out)⟩;(try clear HO_7);(try clear HO_8);(try clear BK1);(try clear BK2);(try clear HB);generalize (((w39.setCell ⟨go34,(t25:Int).toNat*12+8,none⟩ (.int .i64 t27)).setCell ⟨go34,(t25:Int).toNat*12+9,none⟩ (.int .i64 t28)).setCell ⟨go34,(t25:Int).toNat*12+10,none⟩ (.int .i64 t29))=w41 at n0_ n1_ n2_ n3_ n4_ ⊢;have HO_7:=n0_;have HO_8:=n1_;have BK1:=n2_;have BK2:=n3_;have HB:=n4_;clear n0_ n1_ n2_ n3_ n4_;replace HO_7:=am_ (Kd.R_drew HO_7.out);replace HO_8:=am_ (Kd.R_drew HO_8.out);replace BK1:=am_ (blk_drew BK1.out);replace BK2:=am_ (blk_drew BK2.out);replace HB:=am_ (below_drew1 HB.out);have p31:0≤(t25:Int):=of_decide_eq_true zq_;have q31:t25<(y30.length:Int):=(by have h_:(t25:Int)<((x8_1.length:Int):Int):=of_decide_eq_true zq_;first|(have e_:=(Kd.R_reads' HO_8.out).1;omega)|simpa only [Ny30.out,List.length_set] using h_);have ql31:((t25:Int)<((x8_1.length:Int):Int))=True:=eq_true (of_decide_eq_true zq_)
    obtain ⟨ad31,e31,hx31_0,hx31_1,hx31_2,hx31_3,hx31_4,hx31_5,hx31_6,hx31_7,hx31_8,hx31_9,hx31_10,hx31_11⟩:=at_T79 (Kd.R_reads' HO_8.out).2.2 t25 p31 q31;obtain rfl:(⟨go34,0,none⟩:Addr)=ad31:=(by injection e31);replace hx31_0:=za_ hx31_0;replace hx31_1:=za_ hx31_1;replace hx31_2:=za_ hx31_2;replace hx31_3:=za_ hx31_3;replace hx31_4:=za_ hx31_4;replace hx31_5:=za_ hx31_5;replace hx31_6:=za_ hx31_6;replace hx31_7:=za_ hx31_7;replace hx31_8:=za_ hx31_8;replace hx31_9:=za_ hx31_9;replace hx31_10:=za_ hx31_10;replace hx31_11:=za_ hx31_11;replace p31:=eq_true p31;replace q31:=eq_true q31;have p32:0≤(t25:Int):=of_decide_eq_true zq_;have q32:t25<(y30.length:Int):=(by have h_:(t25:Int)<((x8_1.length:Int):Int):=of_decide_eq_true zq_;first|(have e_:=(Kd.R_reads' HO_8.out).1;omega)|simpa only [Ny30.out,List.length_set] using h_);have ql32:((t25:Int)<((x8_1.length:Int):Int))=True:=eq_true (of_decide_eq_true zq_);obtain ⟨ad32,e32,hx32_0,hx32_1,hx32_2,hx32_3,hx32_4,hx32_5,hx32_6,hx32_7,hx32_8,hx32_9,hx32_10,hx32_11⟩:=at_T79 (Kd.R_reads' HO_8.out).2.2 t25 p32 q32;obtain rfl:(⟨go34,0,none⟩:Addr)=ad32:=(by injection e32);replace hx32_0:=za_ hx32_0;replace hx32_1:=za_ hx32_1;replace hx32_2:=za_ hx32_2;replace hx32_3:=za_ hx32_3;replace hx32_4:=za_ hx32_4;replace hx32_5:=za_ hx32_5;replace hx32_6:=za_ hx32_6;replace hx32_7:=za_ hx32_7;replace hx32_8:=za_ hx32_8;replace hx32_9:=za_ hx32_9;replace hx32_10:=za_ hx32_10;replace hx32_11:=za_ hx32_11;replace p32:=eq_true p32;replace q32:=eq_true q32
    refine start_ (n:=12) (S:=fun w'=>w'.cell? ⟨go34,(t25).toNat*12,none⟩=some (.string ((rd_T79 y30 t25).f0))∧w'.cell? ⟨go34,(t25).toNat*12+1,none⟩=some (.string ((rd_T79 y30 t25).f1))∧w'.cell? ⟨go34,(t25).toNat*12+2,none⟩=some (.int .i64 ((rd_T79 y30 t25).f2.f0))∧w'.cell? ⟨go34,(t25).toNat*12+3,none⟩=some (.int .i64 ((rd_T79 y30 t25).f2.f1))∧w'.cell? ⟨go34,(t25).toNat*12+4,none⟩=some (.int .i64 ((rd_T79 y30 t25).f2.f2))∧w'.cell? ⟨go34,(t25).toNat*12+5,none⟩=some (.int .i64 ((rd_T79 y30 t25).f3.f0))∧w'.cell? ⟨go34,(t25).toNat*12+6,none⟩=some (.int .i64 ((rd_T79 y30 t25).f3.f1))∧w'.cell? ⟨go34,(t25).toNat*12+7,none⟩=some (.int .i64 ((rd_T79 y30 t25).f3.f2))∧w'.cell? ⟨go34,(t25).toNat*12+8,none⟩=some (.int .i64 ((rd_T79 y30 t25).f4.f0))∧w'.cell? ⟨go34,(t25).toNat*12+9,none⟩=some (.int .i64 ((rd_T79 y30 t25).f4.f1))∧w'.cell? ⟨go34,(t25).toNat*12+10,none⟩=some (.int .i64 ((rd_T79 y30 t25).f4.f2))∧w'.cell? ⟨go34,(t25).toNat*12+11,none⟩=some (.int .i64 ((rd_T79 y30 t25).f5))∧w'.cell? ⟨go34,(t25).toNat*12,none⟩=some (.string ((rd_T79 y30 t25).f0))∧w'.cell? ⟨go34,(t25).toNat*12+1,none⟩=some (.string ((rd_T79 y30 t25).f1))∧w'.cell? ⟨go34,(t25).toNat*12+2,none⟩=some (.int .i64 ((rd_T79 y30 t25).f2.f0))∧w'.cell? ⟨go34,(t25).toNat*12+3,none⟩=some (.int .i64 ((rd_T79 y30 t25).f2.f1))∧w'.cell? ⟨go34,(t25).toNat*12+4,none⟩=some (.int .i64 ((rd_T79 y30 t25).f2.f2))∧w'.cell? ⟨go34,(t25).toNat*12+5,none⟩=some (.int .i64 ((rd_T79 y30 t25).f3.f0))∧w'.cell? ⟨go34,(t25).toNat*12+6,none⟩=some (.int .i64 ((rd_T79 y30 t25).f3.f1))∧w'.cell? ⟨go34,(t25).toNat*12+7,none⟩=some (.int .i64 ((rd_T79 y30 t25).f3.f2))∧w'.cell? ⟨go34,(t25).toNat*12+8,none⟩=some (.int .i64 ((rd_T79 y30 t25).f4.f0))∧w'.cell? ⟨go34,(t25).toNat*12+9,none⟩=some (.int .i64 ((rd_T79 y30 t25).f4.f1))∧w'.cell? ⟨go34,(t25).toNat*12+10,none⟩=some (.int .i64 ((rd_T79 y30 t25).f4.f2))∧w'.cell? ⟨go34,(t25).toNat*12+11,none⟩=some (.int .i64 ((rd_T79 y30 t25).f5))) (ds:=[]) (bt_ 12 0) (by kernel_rfl) rfl rfl ⟨hx31_0,hx31_1,hx31_2,hx31_3,hx31_4,hx31_5,hx31_6,hx31_7,hx31_8,hx31_9,hx31_10,hx31_11,hx32_0,hx32_1,hx32_2,hx32_3,hx32_4,hx32_5,hx32_6,hx32_7,hx32_8,hx32_9,hx32_10,hx32_11⟩ (fun hHeld=> ?_);refine with_tabW r10_Admit.tab12 r10_Admit.bits12 (fun HT_ HW_=> ?_)
    generalize w41.drew=w42 at HO_7 HO_8 BK1 BK2 HB HQ40 hx31_0 hx31_1 hx31_10 hx31_11 hx31_2 hx31_3 hx31_4 hx31_5 hx31_6 hx31_7 hx31_8 hx31_9 hx32_0 hx32_1 hx32_10 hx32_11 hx32_2 hx32_3 hx32_4 hx32_5 hx32_6 hx32_7 hx32_8 hx32_9 hHeld ⊢;refine pu_ (i:=0) (N:=some 48) (bt_ 12 1) HT_ ?_;refine pu_ (i:=1) (N:=some 49) (bt_ 12 3) HT_ ?_;refine pu_ (i:=2) (N:=some 50) (bt_ 12 7) HT_ ?_;refine pu_ (i:=3) (N:=some 51) (bt_ 12 15) HT_ ?_;refine pu_ (i:=5) (N:=some 53) (bt_ 12 47) HT_ ?_;refine pu_ (i:=6) (N:=some 54) (bt_ 12 111) HT_ ?_;refine pu_ (i:=7) (N:=some 55) (bt_ 12 239) HT_ ?_;refine pu_ (i:=8) (N:=some 56) (bt_ 12 495) HT_ ?_;refine tk_ (i:=4) (N:=some 52) (bt_ 12 511) HT_ HW_ hHeld ?_;refine tk_ (i:=9) (N:=some 57) (bt_ 12 1023) HT_ HW_ hHeld ?_;refine on_ (i:=10) (N:=some 58) (bt_ 12 2047) HT_ (fun K hK=> ?_);refine gs_ Try.func71 #[.agg #[.int .i64 ((rd_T79 y30 t25).f4.f0), .int .i64 ((rd_T79 y30 t25).f4.f1), .int .i64 ((rd_T79 y30 t25).f4.f2)], .agg #[.int .i64 ((rd_T79 y30 t25).f2.f0), .int .i64 ((rd_T79 y30 t25).f2.f1), .int .i64 ((rd_T79 y30 t25).f2.f2)]] ?_
    with_reducible refine (r10_Le.calls ((rd_T79 y30 t25).f4.f0) ((rd_T79 y30 t25).f4.f1) ((rd_T79 y30 t25).f4.f2) ((rd_T79 y30 t25).f2.f0) ((rd_T79 y30 t25).f2.f1) ((rd_T79 y30 t25).f2.f2) true _ A35.out).mono ?_
    rintro e w43 ⟨rfl,hb⟩;have HS0_:=zh_ hb (hHeld.1);have HS1_:=zh_ hb (hHeld.2.1);have HS2_:=zh_ hb (hHeld.2.2.1);have HS3_:=zh_ hb (hHeld.2.2.2.1);have HS4_:=zh_ hb (hHeld.2.2.2.2.1);have HS5_:=zh_ hb (hHeld.2.2.2.2.2.1);have HS6_:=zh_ hb (hHeld.2.2.2.2.2.2.1);have HS7_:=zh_ hb (hHeld.2.2.2.2.2.2.2.1);have HS8_:=zh_ hb (hHeld.2.2.2.2.2.2.2.2.1);have HS9_:=zh_ hb (hHeld.2.2.2.2.2.2.2.2.2.1);have HS10_:=zh_ hb (hHeld.2.2.2.2.2.2.2.2.2.2.1);have HS11_:=zh_ hb (hHeld.2.2.2.2.2.2.2.2.2.2.2.1);have HS12_:=zh_ hb (hHeld.2.2.2.2.2.2.2.2.2.2.2.2.1);have HS13_:=zh_ hb (hHeld.2.2.2.2.2.2.2.2.2.2.2.2.2.1);have HS14_:=zh_ hb (hHeld.2.2.2.2.2.2.2.2.2.2.2.2.2.2.1);have HS15_:=zh_ hb (hHeld.2.2.2.2.2.2.2.2.2.2.2.2.2.2.2.1);have HS16_:=zh_ hb (hHeld.2.2.2.2.2.2.2.2.2.2.2.2.2.2.2.2.1);have HS17_:=zh_ hb (hHeld.2.2.2.2.2.2.2.2.2.2.2.2.2.2.2.2.2.1);have HS18_:=zh_ hb (hHeld.2.2.2.2.2.2.2.2.2.2.2.2.2.2.2.2.2.2.1);have HS19_:=zh_ hb (hHeld.2.2.2.2.2.2.2.2.2.2.2.2.2.2.2.2.2.2.2.1);have HS20_:=zh_ hb (hHeld.2.2.2.2.2.2.2.2.2.2.2.2.2.2.2.2.2.2.2.2.1);have HS21_:=zh_ hb (hHeld.2.2.2.2.2.2.2.2.2.2.2.2.2.2.2.2.2.2.2.2.2.1);have HS22_:=zh_ hb (hHeld.2.2.2.2.2.2.2.2.2.2.2.2.2.2.2.2.2.2.2.2.2.2.1);have HS23_:=zh_ hb (hHeld.2.2.2.2.2.2.2.2.2.2.2.2.2.2.2.2.2.2.2.2.2.2.2);refine ⟨_,rfl, ?_⟩;replace HO_7:=ob_ HO_7 hb;replace HO_8:=ob_ HO_8 hb;replace BK1:=bb_ BK1 hb;replace BK2:=bb_ BK2 hb;replace HB:=am_ (below_step (zl2_ HB GE1 GE2) hb);(try clear hb);(try clear hb2);(try clear hk);(try clear hi)
    refine hK.out _ _ ⟨HS0_,HS1_,HS2_,HS3_,HS4_,HS5_,HS6_,HS7_,HS8_,HS9_,HS10_,HS11_,HS12_,HS13_,HS14_,HS15_,HS16_,HS17_,HS18_,HS19_,HS20_,HS21_,HS22_,HS23_⟩ (fun hHeld=> ?_);clear hK K;refine no_ (N:=some 58) ?_;refine pu_ (i:=11) (N:=some 59) (bt_ 12 4095) HT_ ?_;refine done_ (done_of HT_.out (by kernel_rfl)) ?_;try go_wp2
    go_roundg k1
    case measure=>have:=HK1.out;omega
    case rel=>exact ⟨(y30),(wrap64 (x9_1+1)),(x3001_1),rf_,H',⟨by have:=HK1.out;omega⟩,am_ (zr_ HO_7),am_ (zr_ HO_8),am_ (zb_ BK1),am_ (zb_ BK2),⟨zl2_ HB GE1 GE2⟩⟩
   replace c36:=Bool.eq_false_iff.mpr c36;subst c36;rw [if_neg (show¬(false=true) by decide)] at H;replace H:=zbd_ H;obtain ⟨⟨t34,t37⟩,A44,H⟩:=H;try dsimp only at H
   simp only [Option.some.injEq,Prod.mk.injEq] at H;obtain ⟨rfl,rfl⟩:=H;obtain ⟨p24,q24,ad24,e24,hx24_0⟩:=zat_ (Kd.at_string (Kd.R_reads' HO_7.out).2.2 x9_1);cases e24;obtain ⟨Ao45,co45,eo45⟩:=Kd.R_slice HO_8.out;subst eo45;try go_wp2_with (first|((with_reducible refine gate_callee (f:=52) rfl ?_);refine gl_ (some 36) Try.func52 #[.slice Ao45 x8_1.length co45, .string (rdOf ByteArray.empty t3 x9_1)] ?_;(with_reducible refine (r10_Find.calls k1 _ _ x8_1 (rdOf ByteArray.empty t3 x9_1) t25 _ ?side1 ?side2 A30.out).mono ?_);(case side1=>exact zc_ (Kd.R_reads' HO_8.out).2.2);(case side2=>exact (Kd.R_reads' HO_8.out).2.1);rintro e w' ⟨rfl,⟨nd,rfl⟩⟩;refine ⟨_,rfl, ?_⟩;(try (rw [drewN_self wr];generalize hq_:World.drewN wr _=wr;replace HO_7:=am_ (Kd.R_at hq_ HO_7.out);replace HO_8:=am_ (Kd.R_at hq_ HO_8.out);replace BK1:=am_ (blk_at hq_ BK1.out);replace BK2:=am_ (blk_at hq_ BK2.out);replace HB:=am_ (below_at hq_ HB.out);clear hq_))))
   replace HO_7:=am_ (Kd.R_drew HO_7.out);replace HO_8:=am_ (Kd.R_drew HO_8.out);replace BK1:=am_ (blk_drew BK1.out);replace BK2:=am_ (blk_drew BK2.out);replace HB:=am_ (below_drew1 HB.out);obtain ⟨p26,q26,ad26,e26,hx26_0,hx26_1,hx26_2,hx26_3,hx26_4,hx26_5,hx26_6,hx26_7,hx26_8,hx26_9,hx26_10,hx26_11⟩:=zat_ (at_T79 (Kd.R_reads' HO_8.out).2.2 t25);cases e26
   refine start_ (n:=12) (S:=fun w'=>w'.cell? ⟨gb1,0,none⟩=some (.int .i64 a2_0)∧w'.cell? ⟨gb1,1,none⟩=some (.int .i64 a2_1)∧w'.cell? ⟨gb1,2,none⟩=some (.int .i64 a2_2)∧w'.cell? (ad26.add ((t25).toNat*12))=some (.string ((rd_T79 x8_1 t25).f0))∧w'.cell? ⟨(ad26.add ((t25).toNat*12)).block,(ad26.add ((t25).toNat*12)).off+1,none⟩=some (.string ((rd_T79 x8_1 t25).f1))∧w'.cell? ⟨(ad26.add ((t25).toNat*12)).block,(ad26.add ((t25).toNat*12)).off+2,none⟩=some (.int .i64 ((rd_T79 x8_1 t25).f2.f0))∧w'.cell? ⟨(ad26.add ((t25).toNat*12)).block,(ad26.add ((t25).toNat*12)).off+3,none⟩=some (.int .i64 ((rd_T79 x8_1 t25).f2.f1))∧w'.cell? ⟨(ad26.add ((t25).toNat*12)).block,(ad26.add ((t25).toNat*12)).off+4,none⟩=some (.int .i64 ((rd_T79 x8_1 t25).f2.f2))∧w'.cell? ⟨(ad26.add ((t25).toNat*12)).block,(ad26.add ((t25).toNat*12)).off+5,none⟩=some (.int .i64 ((rd_T79 x8_1 t25).f3.f0))∧w'.cell? ⟨(ad26.add ((t25).toNat*12)).block,(ad26.add ((t25).toNat*12)).off+6,none⟩=some (.int .i64 ((rd_T79 x8_1 t25).f3.f1))∧w'.cell? ⟨(ad26.add ((t25).toNat*12)).block,(ad26.add ((t25).toNat*12)).off+7,none⟩=some (.int .i64 ((rd_T79 x8_1 t25).f3.f2))∧w'.cell? ⟨(ad26.add ((t25).toNat*12)).block,(ad26.add ((t25).toNat*12)).off+8,none⟩=some (.int .i64 ((rd_T79 x8_1 t25).f4.f0))∧w'.cell? ⟨(ad26.add ((t25).toNat*12)).block,(ad26.add ((t25).toNat*12)).off+9,none⟩=some (.int .i64 ((rd_T79 x8_1 t25).f4.f1))∧w'.cell? ⟨(ad26.add ((t25).toNat*12)).block,(ad26.add ((t25).toNat*12)).off+10,none⟩=some (.int .i64 ((rd_T79 x8_1 t25).f4.f2))∧w'.cell? ⟨(ad26.add ((t25).toNat*12)).block,(ad26.add ((t25).toNat*12)).off+11,none⟩=some (.int .i64 ((rd_T79 x8_1 t25).f5))) (ds:=[11]) (bs_ 12 0) (by kernel_rfl) rfl rfl ⟨(blk_cell BK1.out 0).trans rfl,(blk_cell BK1.out 1).trans rfl,(blk_cell BK1.out 2).trans rfl,hx26_0,hx26_1,hx26_2,hx26_3,hx26_4,hx26_5,hx26_6,hx26_7,hx26_8,hx26_9,hx26_10,hx26_11⟩ (fun hHeld=> ?_);refine with_tabW r10_Admit.tab11 r10_Admit.bits11 (fun HT_ HW_=> ?_)
   generalize wr.drew=w46 at HO_7 HO_8 BK1 BK2 HB hx26_0 hx26_1 hx26_10 hx26_11 hx26_2 hx26_3 hx26_4 hx26_5 hx26_6 hx26_7 hx26_8 hx26_9 hHeld ⊢;(iterate 6 refine qu_ HT_ ?_);(iterate 2 refine qk_ HT_ HW_ hHeld ?_);refine on_ (i:=8) (N:=some 45) (bs_ 12 9) HT_ (fun K hK=> ?_);refine gs_ Try.func70 #[.agg #[.int .i64 ((rd_T79 x8_1 t25).f4.f0), .int .i64 ((rd_T79 x8_1 t25).f4.f1), .int .i64 ((rd_T79 x8_1 t25).f4.f2)], .agg #[.int .i64 a2_0, .int .i64 a2_1, .int .i64 a2_2]] ?_
   with_reducible refine (r10_Add.calls ((rd_T79 x8_1 t25).f4.f0) ((rd_T79 x8_1 t25).f4.f1) ((rd_T79 x8_1 t25).f4.f2) a2_0 a2_1 a2_2 t27 t28 t29 _ A33.out).mono ?_
   rintro e w47 ⟨rfl,hb⟩;have HS3_:=zh_ hb (hHeld.2.2.2.1);have HS4_:=zh_ hb (hHeld.2.2.2.2.1);have HS5_:=zh_ hb (hHeld.2.2.2.2.2.1);have HS6_:=zh_ hb (hHeld.2.2.2.2.2.2.1);have HS7_:=zh_ hb (hHeld.2.2.2.2.2.2.2.1);have HS8_:=zh_ hb (hHeld.2.2.2.2.2.2.2.2.1);have HS9_:=zh_ hb (hHeld.2.2.2.2.2.2.2.2.2.1);have HS10_:=zh_ hb (hHeld.2.2.2.2.2.2.2.2.2.2.1);have HS11_:=zh_ hb (hHeld.2.2.2.2.2.2.2.2.2.2.2.1);have HS12_:=zh_ hb (hHeld.2.2.2.2.2.2.2.2.2.2.2.2.1);have HS13_:=zh_ hb (hHeld.2.2.2.2.2.2.2.2.2.2.2.2.2.1);have HS14_:=zh_ hb (hHeld.2.2.2.2.2.2.2.2.2.2.2.2.2.2);refine ⟨_,rfl, ?_⟩;replace HO_7:=ob_ HO_7 hb;replace HO_8:=ob_ HO_8 hb;replace BK1:=bb_ BK1 hb;replace BK2:=bb_ BK2 hb;replace HB:=am_ (below_step (zl2_ HB GE1 GE2) hb);(try clear hb);(try clear hb2);(try clear hk);(try clear hi);have p34:0≤(t25:Int):=of_decide_eq_true zq_;have q34:(t25:Int)<((x8_1.length:Int):Int):=of_decide_eq_true zq_;obtain ⟨go34,co34,eo34,gb34,gl34,cl34,HG34⟩:=Kd.R_form HO_8.out (by omega);(first|cases eo34|(injection eo34 with ea_ en_ ec_;(first|subst ea_|(injection ea_ with ea_;subst ea_));subst ec_;clear en_));have GB34:=Aside0.mk gb34;have GG34:=Aside0.mk HG34;clear gb34 gl34 HG34;replace hx26_0:=zv_ hx26_0;replace hx26_1:=zv_ hx26_1;replace hx26_2:=zv_ hx26_2;replace hx26_3:=zv_ hx26_3;replace hx26_4:=zv_ hx26_4;replace hx26_5:=zv_ hx26_5;replace hx26_6:=zv_ hx26_6;replace hx26_7:=zv_ hx26_7;replace hx26_8:=zv_ hx26_8;replace hx26_9:=zv_ hx26_9;replace hx26_10:=zv_ hx26_10
   replace hx26_11:=zv_ hx26_11;obtain ⟨ce34,hcl34,hM34,hcc34,hfr34⟩:=Kd.R_elem HO_8.out z79 (t25:Int) p34 q34;obtain rfl:=k79_openM hM34;obtain ⟨hx34_0,hx34_1,hx34_2,hx34_3,hx34_4,hx34_5,hx34_6,hx34_7,hx34_8,hx34_9,hx34_10,hx34_11⟩:=rc12_ (m:=(t25:Int).toNat*12) hcc34;obtain ⟨hf34_0,hf34_1,hf34_2,hf34_3,hf34_4,hf34_5,hf34_6,hf34_7,hf34_8,hf34_9,hf34_10,hf34_11⟩:=rg12_ (m:=(t25:Int).toNat*12) hfr34;clear hcl34 hcc34 hfr34 hM34;replace p34:=eq_true p34;replace q34:=eq_true q34;obtain ⟨ce48,hcl48,hM48,hcc48,hfr48⟩:=Kd.R_elem HO_8.out z79 (t25:Int) (of_decide_eq_true zq_) (by have h_:(t25:Int)<((x8_1.length:Int):Int):=of_decide_eq_true zq_;first|exact h_|(have e_:=(Kd.R_reads' HO_8.out).1;omega)|simpa using h_);obtain rfl:=k79_openM hM48
   have HP48:=(Kd.R_seg HO_8.out (t25:Int) (of_decide_eq_true zq_) (by have h_:(t25:Int)<((x8_1.length:Int):Int):=of_decide_eq_true zq_;first|exact h_|(have e_:=(Kd.R_reads' HO_8.out).1;omega)|simpa using h_) (seg:=[.int .i64 t27, .int .i64 t28, .int .i64 t29]) (j:=8) hcl48 hcc48 (show 11≤12 from by decide) (x':=(⟨(rd_T79 x8_1 t25).f0,(rd_T79 x8_1 t25).f1,(⟨(rd_T79 x8_1 t25).f2.f0,(rd_T79 x8_1 t25).f2.f1,(rd_T79 x8_1 t25).f2.f2⟩:S37),(⟨(rd_T79 x8_1 t25).f3.f0,(rd_T79 x8_1 t25).f3.f1,(rd_T79 x8_1 t25).f3.f2⟩:S37),(⟨t27,t28,t29⟩:S37),(rd_T79 x8_1 t25).f5⟩:S79)) (k79_mkM _ _ _ (⟨(rd_T79 x8_1 t25).f0,(rd_T79 x8_1 t25).f1,(⟨(rd_T79 x8_1 t25).f2.f0,(rd_T79 x8_1 t25).f2.f1,(rd_T79 x8_1 t25).f2.f2⟩:S37),(⟨(rd_T79 x8_1 t25).f3.f0,(rd_T79 x8_1 t25).f3.f1,(rd_T79 x8_1 t25).f3.f2⟩:S37),(⟨t27,t28,t29⟩:S37),(rd_T79 x8_1 t25).f5⟩:S79)) (fun _ hk=>hk)).1;rw [←Ny30.out] at HP48;have HQ48:=Aside0.mk HP48;clear hcl48 hcc48 hfr48 hM48 HP48;refine hK.out _ _ ⟨(blk_cell BK1.out 0).trans rfl,(blk_cell BK1.out 1).trans rfl,(blk_cell BK1.out 2).trans rfl,HS3_,HS4_,HS5_,HS6_,HS7_,HS8_,HS9_,HS10_,HS11_,HS12_,HS13_,HS14_⟩ (fun hHeld=> ?_);clear hK K;refine no_ (N:=some 45) ?_;(iterate 2 refine qu_ HT_ ?_);refine last_ (i:=11) (N:=none) (bs_ 12 12) rfl rfl (one_of HT_.out (by kernel_rfl)) (by decide) (fun K hK=> ?_);refine skip_ (w1:= ?_) (by rfl) rfl ?_ ?_;rotate_left
   ·go_simp
    rfl
   refine hK.out _ _ ?_;clear hK K;refine done_ (done_of HT_.out (by kernel_rfl)) ?_;have n0_:Aside0 (Kd.R Kd.string 9 (((w47.setCell ⟨go34,(t25:Int).toNat*12+8,none⟩ (.int .i64 t27)).setCell ⟨go34,(t25:Int).toNat*12+9,none⟩ (.int .i64 t28)).setCell ⟨go34,(t25:Int).toNat*12+10,none⟩ (.int .i64 t29)) w.heap.size (fun _=>True) (.slice (some ad24) t3.length co26) t3):=⟨by (with_reducible repeat (first|apply Kd.R_alloc|apply Kd.R_drewN|apply Kd.R_drew));exact Kd.R_mono (Kd.R_far (p:=⟨go34,(t25:Int).toNat*12+10,none⟩) (Kd.R_far (p:=⟨go34,(t25:Int).toNat*12+9,none⟩) (Kd.R_far (p:=⟨go34,(t25:Int).toNat*12+8,none⟩) (Kd.R_types HO_7.out GG34.out (by decide)) (fun _ hk=>hk.2) (.int .i64 t27)) (fun _ hk=>hk.2) (.int .i64 t28)) (fun _ hk=>hk.2) (.int .i64 t29)) (fun _ hk=>trivial)⟩;have n1_:Aside0 (Kd.R k79 79 (((w47.setCell ⟨go34,(t25:Int).toNat*12+8,none⟩ (.int .i64 t27)).setCell ⟨go34,(t25:Int).toNat*12+9,none⟩ (.int .i64 t28)).setCell ⟨go34,(t25:Int).toNat*12+10,none⟩ (.int .i64 t29)) w.heap.size (fun _=>True) (.slice (some ⟨go34,0,none⟩) x8_1.length co45) y30):=am_ (zr_ HQ48)
   have n2_:Aside0 ((((w47.setCell ⟨go34,(t25:Int).toNat*12+8,none⟩ (.int .i64 t27)).setCell ⟨go34,(t25:Int).toNat*12+9,none⟩ (.int .i64 t28)).setCell ⟨go34,(t25:Int).toNat*12+10,none⟩ (.int .i64 t29)).heap[gb1]?=some (.cells #[.int .i64 a2_0, .int .i64 a2_1, .int .i64 a2_2] 37 (0,0))):=⟨by refine zk_ ?_;refine blk_far ?_ (by have h_:=Kd.R_ne HO_8.out BK1.out (by decide);intro e_;exact h_ (by rw [e_];rfl)) _;refine zk_ ?_;refine blk_far ?_ (by have h_:=Kd.R_ne HO_8.out BK1.out (by decide);intro e_;exact h_ (by rw [e_];rfl)) _;refine zk_ ?_;refine blk_far ?_ (by have h_:=Kd.R_ne HO_8.out BK1.out (by decide);intro e_;exact h_ (by rw [e_];rfl)) _;refine zk_ ?_;exact BK1.out⟩;have n3_:Aside0 ((((w47.setCell ⟨go34,(t25:Int).toNat*12+8,none⟩ (.int .i64 t27)).setCell ⟨go34,(t25:Int).toNat*12+9,none⟩ (.int .i64 t28)).setCell ⟨go34,(t25:Int).toNat*12+10,none⟩ (.int .i64 t29)).heap[gb2]?=some (.cells #[.slice none 0 0, .int .i64 x3001_1] 73 (0,0))):=⟨by refine zk_ ?_;refine blk_far ?_ (by have h_:=Kd.R_ne HO_8.out BK2.out (by decide);intro e_;exact h_ (by rw [e_];rfl)) _;refine zk_ ?_;refine blk_far ?_ (by have h_:=Kd.R_ne HO_8.out BK2.out (by decide);intro e_;exact h_ (by rw [e_];rfl)) _;refine zk_ ?_;refine blk_far ?_ (by have h_:=Kd.R_ne HO_8.out BK2.out (by decide);intro e_;exact h_ (by rw [e_];rfl)) _;refine zk_ ?_;exact BK2.out⟩
   have n4_:Aside0 (Below w.heap.size w (((w47.setCell ⟨go34,(t25:Int).toNat*12+8,none⟩ (.int .i64 t27)).setCell ⟨go34,(t25:Int).toNat*12+9,none⟩ (.int .i64 t28)).setCell ⟨go34,(t25:Int).toNat*12+10,none⟩ (.int .i64 t29))):=⟨by repeat (first|(with_reducible first|exact HB.out|apply below_alloc|apply pw_below_drewN|apply below_drew1|refine below_set ?_ GB34.out|refine below_set ?_ GB34.out|refine below_set ?_ GB34.out|refine below_set ?_ GE1.out|refine below_set ?_ GE2.out)|exact HB.out)⟩;(try clear HO_7);(try clear HO_8);(try clear BK1);(try clear BK2);(try clear HB);generalize (((w47.setCell ⟨go34,(t25:Int).toNat*12+8,none⟩ (.int .i64 t27)).setCell ⟨go34,(t25:Int).toNat*12+9,none⟩ (.int .i64 t28)).setCell ⟨go34,(t25:Int).toNat*12+10,none⟩ (.int .i64 t29))=w49 at n0_ n1_ n2_ n3_ n4_ ⊢;have HO_7:=n0_;have HO_8:=n1_;have BK1:=n2_;have BK2:=n3_;have HB:=n4_;clear n0_ n1_ n2_ n3_ n4_;try go_wp2
   replace HO_7:=am_ (Kd.R_drew HO_7.out);replace HO_8:=am_ (Kd.R_drew HO_8.out);replace BK1:=am_ (blk_drew BK1.out);replace BK2:=am_ (blk_drew BK2.out);replace HB:=am_ (below_drew1 HB.out);have p31:0≤(t25:Int):=of_decide_eq_true zq_;have q31:t25<(y30.length:Int):=(by have h_:(t25:Int)<((x8_1.length:Int):Int):=of_decide_eq_true zq_;first|(have e_:=(Kd.R_reads' HO_8.out).1;omega)|simpa only [Ny30.out,List.length_set] using h_);have ql31:((t25:Int)<((x8_1.length:Int):Int))=True:=eq_true (of_decide_eq_true zq_);obtain ⟨ad31,e31,hx31_0,hx31_1,hx31_2,hx31_3,hx31_4,hx31_5,hx31_6,hx31_7,hx31_8,hx31_9,hx31_10,hx31_11⟩:=at_T79 (Kd.R_reads' HO_8.out).2.2 t25 p31 q31;obtain rfl:(⟨go34,0,none⟩:Addr)=ad31:=(by injection e31);replace hx31_0:=za_ hx31_0;replace hx31_1:=za_ hx31_1;replace hx31_2:=za_ hx31_2;replace hx31_3:=za_ hx31_3;replace hx31_4:=za_ hx31_4;replace hx31_5:=za_ hx31_5;replace hx31_6:=za_ hx31_6;replace hx31_7:=za_ hx31_7;replace hx31_8:=za_ hx31_8;replace hx31_9:=za_ hx31_9;replace hx31_10:=za_ hx31_10;replace hx31_11:=za_ hx31_11;replace p31:=eq_true p31;replace q31:=eq_true q31;have p32:0≤(t25:Int):=of_decide_eq_true zq_;have q32:t25<(y30.length:Int):=(by have h_:(t25:Int)<((x8_1.length:Int):Int):=of_decide_eq_true zq_;first|(have e_:=(Kd.R_reads' HO_8.out).1;omega)|simpa only [Ny30.out,List.length_set] using h_);have ql32:((t25:Int)<((x8_1.length:Int):Int))=True:=eq_true (of_decide_eq_true zq_)
   obtain ⟨ad32,e32,hx32_0,hx32_1,hx32_2,hx32_3,hx32_4,hx32_5,hx32_6,hx32_7,hx32_8,hx32_9,hx32_10,hx32_11⟩:=at_T79 (Kd.R_reads' HO_8.out).2.2 t25 p32 q32;obtain rfl:(⟨go34,0,none⟩:Addr)=ad32:=(by injection e32);replace hx32_0:=za_ hx32_0;replace hx32_1:=za_ hx32_1;replace hx32_2:=za_ hx32_2;replace hx32_3:=za_ hx32_3;replace hx32_4:=za_ hx32_4;replace hx32_5:=za_ hx32_5;replace hx32_6:=za_ hx32_6;replace hx32_7:=za_ hx32_7;replace hx32_8:=za_ hx32_8;replace hx32_9:=za_ hx32_9;replace hx32_10:=za_ hx32_10;replace hx32_11:=za_ hx32_11;replace p32:=eq_true p32;replace q32:=eq_true q32
   refine start_ (n:=12) (S:=fun w'=>w'.cell? ⟨go34,(t25).toNat*12,none⟩=some (.string ((rd_T79 y30 t25).f0))∧w'.cell? ⟨go34,(t25).toNat*12+1,none⟩=some (.string ((rd_T79 y30 t25).f1))∧w'.cell? ⟨go34,(t25).toNat*12+2,none⟩=some (.int .i64 ((rd_T79 y30 t25).f2.f0))∧w'.cell? ⟨go34,(t25).toNat*12+3,none⟩=some (.int .i64 ((rd_T79 y30 t25).f2.f1))∧w'.cell? ⟨go34,(t25).toNat*12+4,none⟩=some (.int .i64 ((rd_T79 y30 t25).f2.f2))∧w'.cell? ⟨go34,(t25).toNat*12+5,none⟩=some (.int .i64 ((rd_T79 y30 t25).f3.f0))∧w'.cell? ⟨go34,(t25).toNat*12+6,none⟩=some (.int .i64 ((rd_T79 y30 t25).f3.f1))∧w'.cell? ⟨go34,(t25).toNat*12+7,none⟩=some (.int .i64 ((rd_T79 y30 t25).f3.f2))∧w'.cell? ⟨go34,(t25).toNat*12+8,none⟩=some (.int .i64 ((rd_T79 y30 t25).f4.f0))∧w'.cell? ⟨go34,(t25).toNat*12+9,none⟩=some (.int .i64 ((rd_T79 y30 t25).f4.f1))∧w'.cell? ⟨go34,(t25).toNat*12+10,none⟩=some (.int .i64 ((rd_T79 y30 t25).f4.f2))∧w'.cell? ⟨go34,(t25).toNat*12+11,none⟩=some (.int .i64 ((rd_T79 y30 t25).f5))∧w'.cell? ⟨go34,(t25).toNat*12,none⟩=some (.string ((rd_T79 y30 t25).f0))∧w'.cell? ⟨go34,(t25).toNat*12+1,none⟩=some (.string ((rd_T79 y30 t25).f1))∧w'.cell? ⟨go34,(t25).toNat*12+2,none⟩=some (.int .i64 ((rd_T79 y30 t25).f2.f0))∧w'.cell? ⟨go34,(t25).toNat*12+3,none⟩=some (.int .i64 ((rd_T79 y30 t25).f2.f1))∧w'.cell? ⟨go34,(t25).toNat*12+4,none⟩=some (.int .i64 ((rd_T79 y30 t25).f2.f2))∧w'.cell? ⟨go34,(t25).toNat*12+5,none⟩=some (.int .i64 ((rd_T79 y30 t25).f3.f0))∧w'.cell? ⟨go34,(t25).toNat*12+6,none⟩=some (.int .i64 ((rd_T79 y30 t25).f3.f1))∧w'.cell? ⟨go34,(t25).toNat*12+7,none⟩=some (.int .i64 ((rd_T79 y30 t25).f3.f2))∧w'.cell? ⟨go34,(t25).toNat*12+8,none⟩=some (.int .i64 ((rd_T79 y30 t25).f4.f0))∧w'.cell? ⟨go34,(t25).toNat*12+9,none⟩=some (.int .i64 ((rd_T79 y30 t25).f4.f1))∧w'.cell? ⟨go34,(t25).toNat*12+10,none⟩=some (.int .i64 ((rd_T79 y30 t25).f4.f2))∧w'.cell? ⟨go34,(t25).toNat*12+11,none⟩=some (.int .i64 ((rd_T79 y30 t25).f5))) (ds:=[]) (bt_ 12 0) (by kernel_rfl) rfl rfl ⟨hx31_0,hx31_1,hx31_2,hx31_3,hx31_4,hx31_5,hx31_6,hx31_7,hx31_8,hx31_9,hx31_10,hx31_11,hx32_0,hx32_1,hx32_2,hx32_3,hx32_4,hx32_5,hx32_6,hx32_7,hx32_8,hx32_9,hx32_10,hx32_11⟩ (fun hHeld=> ?_);refine with_tabW r10_Admit.tab12 r10_Admit.bits12 (fun HT_ HW_=> ?_)
   generalize w49.drew=w50 at HO_7 HO_8 BK1 BK2 HB hx31_0 hx31_1 hx31_10 hx31_11 hx31_2 hx31_3 hx31_4 hx31_5 hx31_6 hx31_7 hx31_8 hx31_9 hx32_0 hx32_1 hx32_10 hx32_11 hx32_2 hx32_3 hx32_4 hx32_5 hx32_6 hx32_7 hx32_8 hx32_9 hHeld ⊢;refine pu_ (i:=0) (N:=some 48) (bt_ 12 1) HT_ ?_;refine pu_ (i:=1) (N:=some 49) (bt_ 12 3) HT_ ?_;refine pu_ (i:=2) (N:=some 50) (bt_ 12 7) HT_ ?_;refine pu_ (i:=3) (N:=some 51) (bt_ 12 15) HT_ ?_;refine pu_ (i:=5) (N:=some 53) (bt_ 12 47) HT_ ?_;refine pu_ (i:=6) (N:=some 54) (bt_ 12 111) HT_ ?_;refine pu_ (i:=7) (N:=some 55) (bt_ 12 239) HT_ ?_;refine pu_ (i:=8) (N:=some 56) (bt_ 12 495) HT_ ?_;refine tk_ (i:=4) (N:=some 52) (bt_ 12 511) HT_ HW_ hHeld ?_;refine tk_ (i:=9) (N:=some 57) (bt_ 12 1023) HT_ HW_ hHeld ?_;refine on_ (i:=10) (N:=some 58) (bt_ 12 2047) HT_ (fun K hK=> ?_);refine gs_ Try.func71 #[.agg #[.int .i64 ((rd_T79 y30 t25).f4.f0), .int .i64 ((rd_T79 y30 t25).f4.f1), .int .i64 ((rd_T79 y30 t25).f4.f2)], .agg #[.int .i64 ((rd_T79 y30 t25).f2.f0), .int .i64 ((rd_T79 y30 t25).f2.f1), .int .i64 ((rd_T79 y30 t25).f2.f2)]] ?_
   with_reducible refine (r10_Le.calls ((rd_T79 y30 t25).f4.f0) ((rd_T79 y30 t25).f4.f1) ((rd_T79 y30 t25).f4.f2) ((rd_T79 y30 t25).f2.f0) ((rd_T79 y30 t25).f2.f1) ((rd_T79 y30 t25).f2.f2) false _ A35.out).mono ?_
   rintro e w51 ⟨rfl,hb⟩;have HS0_:=zh_ hb (hHeld.1);have HS1_:=zh_ hb (hHeld.2.1);have HS2_:=zh_ hb (hHeld.2.2.1);have HS3_:=zh_ hb (hHeld.2.2.2.1);have HS4_:=zh_ hb (hHeld.2.2.2.2.1);have HS5_:=zh_ hb (hHeld.2.2.2.2.2.1);have HS6_:=zh_ hb (hHeld.2.2.2.2.2.2.1);have HS7_:=zh_ hb (hHeld.2.2.2.2.2.2.2.1);have HS8_:=zh_ hb (hHeld.2.2.2.2.2.2.2.2.1);have HS9_:=zh_ hb (hHeld.2.2.2.2.2.2.2.2.2.1);have HS10_:=zh_ hb (hHeld.2.2.2.2.2.2.2.2.2.2.1);have HS11_:=zh_ hb (hHeld.2.2.2.2.2.2.2.2.2.2.2.1);have HS12_:=zh_ hb (hHeld.2.2.2.2.2.2.2.2.2.2.2.2.1);have HS13_:=zh_ hb (hHeld.2.2.2.2.2.2.2.2.2.2.2.2.2.1);have HS14_:=zh_ hb (hHeld.2.2.2.2.2.2.2.2.2.2.2.2.2.2.1);have HS15_:=zh_ hb (hHeld.2.2.2.2.2.2.2.2.2.2.2.2.2.2.2.1);have HS16_:=zh_ hb (hHeld.2.2.2.2.2.2.2.2.2.2.2.2.2.2.2.2.1);have HS17_:=zh_ hb (hHeld.2.2.2.2.2.2.2.2.2.2.2.2.2.2.2.2.2.1);have HS18_:=zh_ hb (hHeld.2.2.2.2.2.2.2.2.2.2.2.2.2.2.2.2.2.2.1);have HS19_:=zh_ hb (hHeld.2.2.2.2.2.2.2.2.2.2.2.2.2.2.2.2.2.2.2.1);have HS20_:=zh_ hb (hHeld.2.2.2.2.2.2.2.2.2.2.2.2.2.2.2.2.2.2.2.2.1);have HS21_:=zh_ hb (hHeld.2.2.2.2.2.2.2.2.2.2.2.2.2.2.2.2.2.2.2.2.2.1);have HS22_:=zh_ hb (hHeld.2.2.2.2.2.2.2.2.2.2.2.2.2.2.2.2.2.2.2.2.2.2.1);have HS23_:=zh_ hb (hHeld.2.2.2.2.2.2.2.2.2.2.2.2.2.2.2.2.2.2.2.2.2.2.2);refine ⟨_,rfl, ?_⟩;replace HO_7:=ob_ HO_7 hb;replace HO_8:=ob_ HO_8 hb;replace BK1:=bb_ BK1 hb;replace BK2:=bb_ BK2 hb;replace HB:=am_ (below_step (zl2_ HB GE1 GE2) hb);(try clear hb);(try clear hb2);(try clear hk);(try clear hi)
   refine hK.out _ _ ⟨HS0_,HS1_,HS2_,HS3_,HS4_,HS5_,HS6_,HS7_,HS8_,HS9_,HS10_,HS11_,HS12_,HS13_,HS14_,HS15_,HS16_,HS17_,HS18_,HS19_,HS20_,HS21_,HS22_,HS23_⟩ (fun hHeld=> ?_);clear hK K;refine no_ (N:=some 58) ?_;refine pu_ (i:=11) (N:=some 59) (bt_ 12 4095) HT_ ?_;refine done_ (done_of HT_.out (by kernel_rfl)) ?_;try go_wp2_with (first|((with_reducible refine gate_callee (f:=101) rfl ?_);refine gl_ (some 60) Try.func101 #[.int .i64 12] ?_;(with_reducible refine (r10_no.calls 12 t34 t37 _ A44.out).mono ?_);rintro e w52 ⟨v35,rfl,ho0,hb⟩;refine ⟨_,rfl, ?_⟩;replace HO_7:=ob_ HO_7 hb;have HO36:=am_ (Kd.R_lower (Kd.R_new' ho0 (Kd.R_lt (zr_ HO_8))) (below_size (zl2_ HB GE1 GE2)));replace HO_8:=am_ (Kd.R_elder' (zr_ HO_8) (Kd.R_base ho0) hb);replace BK1:=bb_ BK1 hb;replace BK2:=bb_ BK2 hb;replace HB:=am_ (below_step (zl2_ HB GE1 GE2) hb);(try clear hb ho0);obtain ⟨Ao53,co53,eo53⟩:=Kd.R_slice HO36.out;subst eo53;have hnb54:=NB2_1.out;have hnc54:=NB1_2.out;obtain ⟨hcz55_0,hcz55_1⟩:=x2_ BK2;have hfz55_0:=blk_frozen BK2.out 0;have hfz55_1:=blk_frozen BK2.out 1))
   refine bodyPost_ret (results_cell_row rfl _ _ gb2 73 #[.slice Ao53 t34.length co53, .int .i64 t37] (0,0) _ rfl (zw_ BK2) Try.underlying73 rfl (by kernel_rfl)) rfl ?_;exact ⟨_,by first|rfl|(simp [errW_none,errW_some]<;>rfl)|(simp [*,errW_none,errW_some]<;>rfl),zy_ HO36 BK2,zl2_ HB GE1 GE2⟩
mutual
def law12_Make.l0:Nat→List Int→List (S79)→Int→Option ((List (S79)))
 |0,_,_,_=>none
 |k+1,x0,x3,x4=>if (wrap64 (x4+2))<(x0.length:Int) then (law12_Make.j1 k x0 x3 x4 (decide ((x3.length:Int)<24))) else (law12_Make.j1 k x0 x3 x4 false)
def law12_Make.j1:Nat→List Int→List (S79)→Int→Bool→Option ((List (S79)))
 |0,_,_,_,_=>none
 |k+1,x0,x3,x4,x21=>if x21=true then (if 0≤x4 then (if x4<(x0.length:Int) then (if (x3.length:Int)>0 then (law12_Make.j2 k x0 x3 x4 (wrap64 (rd x0 x4)) (⟨#[]⟩:ByteArray) (decide ((Int.tmod (wrap64 (rd x0 x4)) 3)>0))) else (law12_Make.j2 k x0 x3 x4 (wrap64 (rd x0 x4)) (⟨#[]⟩:ByteArray) false)) else (none)) else (none)) else (some x3)
def law12_Make.j2:Nat→List Int→List (S79)→Int→Int→ByteArray→Bool→Option ((List (S79)))
 |0,_,_,_,_,_,_=>none
 |k+1,x0,x3,x4,x5,x6,x36=>if x36=true then (if (x3.length:Int)=0 then (none) else (if 0≤(Int.tmod (wrap64 (Int.tdiv x5 3)) (x3.length:Int)) then (if (Int.tmod (wrap64 (Int.tdiv x5 3)) (x3.length:Int))<(x3.length:Int) then (law12_Make.j3 k x0 x3 x4 ((rd_T79 x3 (Int.tmod (wrap64 (Int.tdiv x5 3)) (x3.length:Int))).f0)) else (none)) else (none))) else (law12_Make.j3 k x0 x3 x4 x6)
def law12_Make.j3:Nat→List Int→List (S79)→Int→ByteArray→Option ((List (S79)))
 |0,_,_,_,_=>none
 |k+1,x0,x3,x4,x6=>if 0≤(wrap64 (x4+1)) then (if (wrap64 (x4+1))<(x0.length:Int) then ((r10_Create.f k x3 (strOfNums (([(wrap64 (97+(Int.tmod (wrap64 ((x3.length:Int)*5)) 24))) % 256]:List Int))) x6 (wrap64 (20+(wrap64 (rd x0 (wrap64 (x4+1)))))) (wrap64 (20+(wrap64 (rd x0 (wrap64 (x4+1)))))) (wrap64 (20+(wrap64 (rd x0 (wrap64 (x4+1))))))).bind fun bt7=>(if bt7.2=0 then (if 0≤(wrap64 (x4+2)) then (if (wrap64 (x4+2))<(x0.length:Int) then (if (bt7.1.length:Int)=0 then (none) else (if 0≤(Int.tmod (wrap64 (Int.tdiv (wrap64 (rd x0 (wrap64 (x4+2)))) 16)) (bt7.1.length:Int)) then (if (Int.tmod (wrap64 (Int.tdiv (wrap64 (rd x0 (wrap64 (x4+2)))) 16)) (bt7.1.length:Int))<(bt7.1.length:Int) then ((r10_Admit.f k bt7.1 ((rd_T79 bt7.1 (Int.tmod (wrap64 (Int.tdiv (wrap64 (rd x0 (wrap64 (x4+2)))) 16)) (bt7.1.length:Int))).f0) (Int.tmod (wrap64 (rd x0 (wrap64 (x4+2)))) 16) (wrap64 (Int.tdiv (Int.tmod (wrap64 (rd x0 (wrap64 (x4+2)))) 16) 2)) (Int.tmod (Int.tmod (wrap64 (rd x0 (wrap64 (x4+2)))) 16) 3)).bind fun bt15=>(if bt15.2=0 then (law12_Make.l0 k x0 bt15.1 (wrap64 (x4+3))) else (law12_Make.l0 k x0 bt7.1 (wrap64 (x4+3))))) else (none)) else (none))) else (none)) else (none)) else (law12_Make.l0 k x0 x3 (wrap64 (x4+3))))) else (none)) else (none)
end
def law12_Make.f (k:Nat) (l0:List Int):Option ((List (S79))):=law12_Make.l0 k l0 ([]:List (S79)) 0
theorem law12_Make.mono_l: ∀k,(∀y0 y1 y2,LeO (law12_Make.l0 k y0 y1 y2) (law12_Make.l0 (k+1) y0 y1 y2))∧(∀y0 y1 y2 y3,LeO (law12_Make.j1 k y0 y1 y2 y3) (law12_Make.j1 (k+1) y0 y1 y2 y3))∧(∀y0 y1 y2 y3 y4 y5,LeO (law12_Make.j2 k y0 y1 y2 y3 y4 y5) (law12_Make.j2 (k+1) y0 y1 y2 y3 y4 y5))∧(∀y0 y1 y2 y3,LeO (law12_Make.j3 k y0 y1 y2 y3) (law12_Make.j3 (k+1) y0 y1 y2 y3))
 |0=>⟨fun _ _ _ r h=>by simp [law12_Make.l0] at h,fun _ _ _ _ r h=>by simp [law12_Make.j1] at h,fun _ _ _ _ _ _ r h=>by simp [law12_Make.j2] at h,fun _ _ _ _ r h=>by simp [law12_Make.j3] at h⟩
 |k+1=>by
  obtain ⟨ih0,ih1,ih2,ih3⟩:=law12_Make.mono_l k;refine ⟨?_, ?_, ?_, ?_⟩<;>(intros;first|unfold law12_Make.l0|unfold law12_Make.j1|unfold law12_Make.j2|unfold law12_Make.j3)<;>repeat' with_reducible first|apply ih0|apply ih1|apply ih2|apply ih3|apply r10_Admit.mono|apply r10_Create.mono|apply LeO.refl|apply LeO.none|apply LeO.ite|refine LeO.bind ?_ fun _=> ?_
theorem law12_Make.mono: ∀a0 k,LeO (law12_Make.f k a0) (law12_Make.f (k+1) a0):=by
 intro a0 k;obtain ⟨ih0,ih1,ih2,ih3⟩:=law12_Make.mono_l k;unfold law12_Make.f
 repeat' with_reducible first|apply ih0|apply ih1|apply ih2|apply ih3|apply r10_Admit.mono|apply r10_Create.mono|apply LeO.refl|apply LeO.none|apply LeO.ite|refine LeO.bind ?_ fun _=> ?_
set_option maxHeartbeats 8000000 in
set_option maxRecDepth 100000 in
theorem law12_Make.calls (k:Nat) (A0:Option Addr) (c0:Nat) (l0:List Int) (r:List (S79)) (w:World) (hr0:Kd.C (Kd.int .u8) w A0 l0.length l0) (hc0:l0.length≤c0) (h:law12_Make.f k l0=some r):
  Calls Try.prog 38 #[.slice A0 l0.length c0] w fun e w'=> ∃v0_:Value,e= .returned (v0_)∧Kd.R k79 79 w' w.heap.size (fun _=>True) v0_ r∧Below w.heap.size w w':=by
 have hu37:=Try.underlying37;have hu73:=Try.underlying73;have HR0:=Aside0.mk hr0;have HC0:=Aside0.mk hc0;clear hr0 hc0;have HB:=am_ (Below.refl w.heap.size w);have H:(law12_Make.l0 k l0 ([]:List (S79)) 0)=some r:=h;clear h;have H':=Aside0.mk H;clear H;go_enter Try.func38,Try.ntmps38;go_wp2
 go_loopg [3,4] k (fun kq v3 v4 w'=> ∃(x3_1:List (S79)) (x4_1:Int),v4= .int .i64 x4_1∧Aside0 (law12_Make.l0 kq l0 x3_1 x4_1=some r)∧Aside0 (kq≤k)∧Aside0 (Kd.R k79 79 w' w.heap.size (fun _=>True) v3 x3_1)∧Aside0 (Below w.heap.size w w'))
 case atStart=>exact ⟨(([]:List (S79))),(0),rf_,H',⟨Nat.le_refl _⟩,⟨by first|exact Kd.R_nil _ _ _ _ _|exact Kd.N_nil _ _ _ _ _|exact Kd.V_nil _ _ _ _ _|exact Kd.Q_nil _ _ _ _ _|exact Kd.S_nil _ _ _ _ _⟩,⟨zl0_ HB⟩⟩
 case round=>
  clear H';obtain ⟨x3_1,x4_1,rfl,HA,HK1,HO_3,HB⟩:=hrel
  cases gk with
  |zero=>exact absurd HA.out (by simp [law12_Make.l0])
  |succ k1=>
   have H:=HA.out;clear HA;simp only [law12_Make.l0] at H;have HC2:=Aside0.mk H;clear H;go_upto_region 3 with (fail)
   go_cut [21] (fun v21 wc=> ∃(kq:Nat) (x21_1:Bool),v21= .bool x21_1∧Aside0 (law12_Make.j1 kq l0 x3_1 x4_1 x21_1=some r)∧Aside0 (kq≤k1)∧Aside0 (Kd.R k79 79 wc w.heap.size (fun _=>True) u3 x3_1)∧Aside0 (Below w.heap.size w wc))
   case first=>
    have H:=HC2.out;clear HC2;by_cases c3:(wrap64 (x4_1+2))<(l0.length:Int);rotate_left
    ·rw [if_neg c3] at H;have c3b0:=decide_eq_false c3;clear c3;(first|rw [c3b0]|(simp only [i64_w,i32_w];rw [c3b0])|skip);have H':=Aside0.mk H;clear H;go_wp2
     go_meet
     case rel=>exact ⟨_,(false),rf_,H',⟨by have:=HK1.out;first|omega|exact Nat.le_refl _⟩,am_ (zr_ HO_3),⟨zl0_ HB⟩⟩
    rw [if_pos c3] at H;have c3b0:=decide_eq_true c3;clear c3;(first|rw [c3b0]|(simp only [i64_w,i32_w];rw [c3b0])|skip);have H':=Aside0.mk H;clear H;obtain ⟨Ao4,co4,eo4⟩:=Kd.R_slice HO_3.out;subst eo4;go_wp2
    go_meet
    case rel=>exact ⟨_,(decide ((x3_1.length:Int)<24)),rf_,H',⟨by have:=HK1.out;first|omega|exact Nat.le_refl _⟩,am_ (zr_ HO_3),⟨zl0_ HB⟩⟩
   case rest=>
    clear HC2;obtain ⟨kq,x21_1,rfl,HA,HJ1,HO_3,HB⟩:=hcut
    cases kq with
    |zero=>exact absurd HA.out (by simp [law12_Make.j1])
    |succ kj1=>
     have H:=HA.out;clear HA;simp only [law12_Make.j1] at H;by_cases c5:x21_1=true;rotate_left
     ·replace c5:=Bool.eq_false_iff.mpr c5;subst c5;rw [if_neg (show¬(false=true) by decide)] at H;obtain rfl:=Option.some.inj H;go_wp2
      go_ret
      exact ⟨_,by first|rfl|(simp [errW_none,errW_some]<;>rfl)|(simp [*,errW_none,errW_some]<;>rfl),zr_ HO_3,zl0_ HB⟩

     subst c5;rw [if_pos rfl] at H;replace H:=zif_ H;obtain ⟨c6,H⟩:=H;have c6b0:=decide_eq_true c6;clear c6;replace H:=zif_ H;obtain ⟨c7,H⟩:=H;have c7b0:=decide_eq_true c7;clear c7;have HC8:=Aside0.mk H;clear H;obtain ⟨p1,q1,ad1,e1,hx1_0⟩:=zat_ (Kd.at_int HR0.out x4_1);cases e1;replace hx1_0:=zx_ HB hx1_0;go_upto_region 7 with (fail)
     go_cut [36] (fun v36 wc=> ∃(kq:Nat) (x36_7:Bool),v36= .bool x36_7∧Aside0 (law12_Make.j2 kq l0 x3_1 x4_1 (wrap64 (rd l0 x4_1)) (⟨#[]⟩:ByteArray) x36_7=some r)∧Aside0 (kq≤kj1)∧Aside0 (Kd.R k79 79 wc w.heap.size (fun _=>True) u3 x3_1)∧Aside0 (Below w.heap.size w wc))
     case first=>
      have H:=HC8.out;clear HC8;by_cases c9:(x3_1.length:Int)>0
      ·rw [if_pos c9] at H;have c9b0:decide (0<(x3_1.length:Int))=true:=decide_eq_true c9;have c9b1:decide (0<x3_1.length)=true:=decide_eq_true (by omega);clear c9;(first|rw [c9b0]|(simp only [i64_w,i32_w];rw [c9b0])|skip);have H':=Aside0.mk H;clear H;obtain ⟨Ao10,co10,eo10⟩:=Kd.R_slice HO_3.out;subst eo10;go_wp2
       go_meet
       case rel=>exact ⟨_,(decide ((Int.tmod (wrap64 (rd l0 x4_1)) 3)>0)),rf_,H',⟨by have:=HK1.out;have:=HJ1.out;first|omega|exact Nat.le_refl _⟩,am_ (zr_ HO_3),⟨zl0_ HB⟩⟩
      rw [if_neg c9] at H;have c9b0:decide (0<(x3_1.length:Int))=false:=decide_eq_false c9;have c9b1:decide (0<x3_1.length)=false:=decide_eq_false (by omega);clear c9;(first|rw [c9b0]|(simp only [i64_w,i32_w];rw [c9b0])|skip);have H':=Aside0.mk H;clear H;obtain ⟨Ao11,co11,eo11⟩:=Kd.R_slice HO_3.out;subst eo11;go_wp2
      go_meet
      case rel=>exact ⟨_,(false),rf_,H',⟨by have:=HK1.out;have:=HJ1.out;first|omega|exact Nat.le_refl _⟩,am_ (zr_ HO_3),⟨zl0_ HB⟩⟩
     case rest=>
      clear HC8;obtain ⟨kq,x36_7,rfl,HA,HJ7,HO_3,HB⟩:=hcut
      cases kq with
      |zero=>exact absurd HA.out (by simp [law12_Make.j2])
      |succ kj7=>
       have H:=HA.out;clear HA;simp only [law12_Make.j2] at H;have HC12:=Aside0.mk H;clear H;go_upto_if 36 with (fail)
       go_cut [6] (fun v6 wc=> ∃(kq:Nat) (x6_11:ByteArray),v6= .string x6_11∧Aside0 (law12_Make.j3 kq l0 x3_1 x4_1 x6_11=some r)∧Aside0 (kq≤kj7)∧Aside0 (Kd.R k79 79 wc w.heap.size (fun _=>True) u3 x3_1)∧Aside0 (Below w.heap.size w wc))
       case first=>
        have H:=HC12.out;clear HC12;by_cases c13:x36_7=true;rotate_left
        ·replace c13:=Bool.eq_false_iff.mpr c13;subst c13;rw [if_neg (show¬(false=true) by decide)] at H;have H':=Aside0.mk H;clear H;go_wp2
         go_meet
         case rel=>exact ⟨_,((⟨#[]⟩:ByteArray)),rf_,H',⟨by have:=HK1.out;have:=HJ1.out;have:=HJ7.out;first|omega|exact Nat.le_refl _⟩,am_ (zr_ HO_3),⟨zl0_ HB⟩⟩
        subst c13;rw [if_pos rfl] at H;by_cases c14:(x3_1.length:Int)=0
        ·rw [if_pos c14] at H;exact absurd H (by simp)
        rw [if_neg c14] at H;have c14b0:=beq_eq_false_iff_ne.mpr c14;have c14b1:=bne_iff_ne.mpr c14;have c14b2: ¬(x3_1=[]):=fun h_=>c14 (by rw [h_];rfl)
        (first|rw [c14b0]|(simp only [i64_w,i32_w];rw [c14b0])|skip);obtain ⟨ji15,hji15⟩: ∃j_:Int,(Int.tmod (wrap64 (Int.tdiv (wrap64 (rd l0 x4_1)) 3)) (x3_1.length:Int))=j_:=⟨_,rfl⟩;replace H:(if 0≤(ji15) then (if (ji15)<(x3_1.length:Int) then (law12_Make.j3 kj7 l0 x3_1 x4_1 ((rd_T79 x3_1 (ji15)).f0)) else (none)) else (none))=some r:=by first|(rw [hji15] at H;exact H)|(simp only [hji15] at H ⊢;exact H)
        replace H:=zif_ H;obtain ⟨c16,H⟩:=H;have c16b0:=decide_eq_true c16;clear c16;replace H:=zif_ H;obtain ⟨c17,H⟩:=H;have c17b0:=decide_eq_true c17;clear c17;have H':=Aside0.mk H;clear H;obtain ⟨Ao18,co18,eo18⟩:=Kd.R_slice HO_3.out;subst eo18;obtain ⟨p2,q2,ad2,e2,hx2_0,hx2_1,hx2_2,hx2_3,hx2_4,hx2_5,hx2_6,hx2_7,hx2_8,hx2_9,hx2_10,hx2_11⟩:=zat_ (at_T79 (Kd.R_reads' HO_3.out).2.2 (ji15));cases e2;go_wp2
        go_meet
        case rel=>exact ⟨_,((rd_T79 x3_1 (ji15)).f0),(by first|rfl|(simp;done)|(simp only [←hji15]<;>(first|rfl|simp))|(simp [*];done)),H',⟨by have:=HK1.out;have:=HJ1.out;have:=HJ7.out;first|omega|exact Nat.le_refl _⟩,am_ (zr_ HO_3),⟨zl0_ HB⟩⟩
       case rest=>
        clear HC12;obtain ⟨kq,x6_11,rfl,HA,HJ11,HO_3,HB⟩:=hcut
        cases kq with
        |zero=>exact absurd HA.out (by simp [law12_Make.j3])
        |succ kj11=>
         have H:=HA.out;clear HA;simp only [law12_Make.j3] at H;obtain ⟨ji19,hji19⟩: ∃j_:Int,(wrap64 (x4_1+1))=j_:=⟨_,rfl⟩;replace H:(if 0≤(ji19) then (if (ji19)<(l0.length:Int) then ((r10_Create.f kj11 x3_1 (strOfNums (([(wrap64 (97+(Int.tmod (wrap64 ((x3_1.length:Int)*5)) 24))) % 256]:List Int))) x6_11 (wrap64 (20+(wrap64 (rd l0 (ji19))))) (wrap64 (20+(wrap64 (rd l0 (ji19))))) (wrap64 (20+(wrap64 (rd l0 (ji19)))))).bind fun bt7=>(if bt7.2=0 then (if 0≤(wrap64 (x4_1+2)) then (if (wrap64 (x4_1+2))<(l0.length:Int) then (if (bt7.1.length:Int)=0 then (none) else (if 0≤(Int.tmod (wrap64 (Int.tdiv (wrap64 (rd l0 (wrap64 (x4_1+2)))) 16)) (bt7.1.length:Int)) then (if (Int.tmod (wrap64 (Int.tdiv (wrap64 (rd l0 (wrap64 (x4_1+2)))) 16)) (bt7.1.length:Int))<(bt7.1.length:Int) then ((r10_Admit.f kj11 bt7.1 ((rd_T79 bt7.1 (Int.tmod (wrap64 (Int.tdiv (wrap64 (rd l0 (wrap64 (x4_1+2)))) 16)) (bt7.1.length:Int))).f0) (Int.tmod (wrap64 (rd l0 (wrap64 (x4_1+2)))) 16) (wrap64 (Int.tdiv (Int.tmod (wrap64 (rd l0 (wrap64 (x4_1+2)))) 16) 2)) (Int.tmod (Int.tmod (wrap64 (rd l0 (wrap64 (x4_1+2)))) 16) 3)).bind fun bt15=>(if bt15.2=0 then (law12_Make.l0 kj11 l0 bt15.1 (wrap64 (x4_1+3))) else (law12_Make.l0 kj11 l0 bt7.1 (wrap64 (x4_1+3))))) else (none)) else (none))) else (none)) else (none)) else (law12_Make.l0 kj11 l0 x3_1 (wrap64 (x4_1+3))))) else (none)) else (none))=some r:=by first|(rw [hji19] at H;exact H)|(simp only [hji19] at H ⊢;exact H)
         have hji19w:(IntKind.i64.wrap (x4_1+1))=ji19:=(i64_w _).trans hji19;replace H:=zif_ H;obtain ⟨c20,H⟩:=H;have c20b0:=decide_eq_true c20;clear c20;replace H:=zif_ H;obtain ⟨c21,H⟩:=H;have c21b0:=decide_eq_true c21;clear c21;obtain ⟨y4,hy4⟩: ∃y_:List Int,y_=(([(wrap64 (97+(Int.tmod (wrap64 ((x3_1.length:Int)*5)) 24))) % 256]:List Int)):=⟨_,rfl⟩;(first|replace H:=zsb_ hy4 H|rw [←hy4] at H);have Ny4:=Aside0.mk hy4;clear hy4;replace H:=zbd_ H;obtain ⟨⟨t7,t10⟩,A22,H⟩:=H;try dsimp only at H
         by_cases c23:t10=0;rotate_left
         ·rw [if_neg c23] at H;have c23b0:=beq_eq_false_iff_ne.mpr c23;have c23b1:=bne_iff_ne.mpr c23;have H':=Aside0.mk H;clear H;obtain ⟨p3,q3,ad3,e3,hx3_0⟩:=zat_ (Kd.at_int HR0.out (ji19));obtain rfl:ad1=ad3:=(by injection e3);replace hx3_0:=zx_ HB hx3_0;obtain ⟨Ao59,co59,eo59⟩:=Kd.R_slice HO_3.out;subst eo59
          go_wp2_with (first|((with_reducible refine gate_dst (N:=60) rfl ?_);(try (refine gate_guard (by rfl) ?_;dsimp only));refine Kd.R_lit (Kd.int .u8) _ 5 ?hg (N:=60) ?hd (xs:=([(wrap64 (97+(Int.tmod (wrap64 ((x3_1.length:Int)*5)) 24))) % 256]:List Int)) (inner:=[.int .u8 ((wrap64 (97+(Int.tmod (wrap64 ((x3_1.length:Int)*5)) 24))) % 256)]) (ok:=fun _=>True) (okp:=fun _=>True) ?hr ?hp (fun _ hk=>hk) trivial (Below.refl _ _) (Nat.le_refl _) (by simp) ?_;(case hd=>rfl);(case hg=>rfl);(case hr=>first|(go_simp;done)|(go_simp;rfl));(case hp=>exact (Reps.one (show Kd.M (Kd.int .u8) _ _ _ ((wrap64 (97+(Int.tmod (wrap64 ((x3_1.length:Int)*5)) 24))) % 256) [.int .u8 ((wrap64 (97+(Int.tmod (wrap64 ((x3_1.length:Int)*5)) 24))) % 256)] from rfl) (Reps.none _ _)));intro v5 w60 ho61 hb hg_ hnew_;clear hg_ hnew_;(first|rw [←Ny4.out] at ho61|(simp only [Int.reduceToNat] at ho61;rw [←Ny4.out] at ho61));replace HO_3:=ob_ HO_3 hb;have HO6:=am_ (Kd.R_lower ho61 (below_size (zl0_ HB)));replace HB:=am_ (below_step (zl0_ HB) hb);clear hb ho61;have hcv62:=own_string (P:=Try.prog) Try.underlying33 Try.underlying5 Try.underlying9 (Kd.own_of_R HO6.out))|((with_reducible refine gate_callee (f:=83) rfl ?_);refine goesL_ (some 67) rfl rfl Try.func83 (by kernel_rfl) rfl #[.slice Ao59 x3_1.length co59, .string (strOfNums y4), .string x6_11, .agg #[.int .i64 (wrap64 (20+(wrap64 (rd l0 (ji19))))), .int .i64 (wrap64 (20+(wrap64 (rd l0 (ji19))))), .int .i64 (wrap64 (20+(wrap64 (rd l0 (ji19)))))]] rfl (by (try simp only [List.map_toArray,List.map_cons,List.map_nil]);first|done|(simp only [hji19];rfl)|rfl|(simp only [List.length_drop,List.length_take];rfl)) ?_;(with_reducible refine (r10_Create.calls kj11 _ _ x3_1 (strOfNums y4) x6_11 (wrap64 (20+(wrap64 (rd l0 (ji19))))) (wrap64 (20+(wrap64 (rd l0 (ji19))))) (wrap64 (20+(wrap64 (rd l0 (ji19))))) t7 t10 _ ?side1 ?side2 A22.out).mono ?_);(case side1=>exact zc_ (Kd.R_reads' HO_3.out).2.2);(case side2=>exact (Kd.R_reads' HO_3.out).2.1);rintro e w63 ⟨v8,rfl,ho0,hb⟩;refine ⟨_,rfl, ?_⟩;replace HO6:=ob_ HO6 hb;have HO9:=am_ (Kd.R_lower (Kd.R_new' ho0 (Kd.R_lt (zr_ HO_3))) (below_size (zl0_ HB)));replace HO_3:=am_ (Kd.R_elder' (zr_ HO_3) (Kd.R_base ho0) hb);replace HB:=am_ (below_step (zl0_ HB) hb);(try clear hb ho0))|((with_reducible refine gate_dst (N:=8) rfl ?_);(try (refine gate_guard (by rfl) ?_;dsimp only));refine bx_ (N:=8) (cs:=#[.slice none 0 0, .int .i64 0]) (t:=73) ?_;intro gb11 hg w64 hbox hb;replace HO_3:=ob_ HO_3 hb;replace HO6:=ob_ HO6 hb;replace HO9:=ob_ HO9 hb;have BK11:=am_ (hbox);have GW11:=am_ ((zg0_ HB hg:w.heap.size≤gb11));have GE11:=am_ ((zg0_ HB hg:w.heap.size≤gb11));replace HB:=am_ (below_step (zl0_ HB) hb);clear hb hbox hg;obtain ⟨Ao65,co65,eo65⟩:=Kd.R_slice HO9.out;subst eo65;obtain ⟨hcz66_0,hcz66_1⟩:=x2_ BK11;have hfz66_0:=blk_frozen BK11.out 0;have hfz66_1:=blk_frozen BK11.out 1))
          go_roundg kj11
          case measure=>have:=HK1.out;have:=HJ1.out;have:=HJ7.out;have:=HJ11.out;omega
          case rel=>exact ⟨(x3_1),(wrap64 (x4_1+3)),rf_,H',⟨by have:=HK1.out;have:=HJ1.out;have:=HJ7.out;have:=HJ11.out;omega⟩,⟨zy_ HO_3 BK11⟩,⟨zl1_ HB GE11⟩⟩
         rw [if_pos c23] at H;have c23b0:=beq_iff_eq.mpr c23;have c23b1:=bne_eq_false_iff_eq.mpr c23;clear c23;obtain ⟨ji24,hji24⟩: ∃j_:Int,(wrap64 (x4_1+2))=j_:=⟨_,rfl⟩;replace H:(if 0≤(ji24) then (if (ji24)<(l0.length:Int) then (if (t7.length:Int)=0 then (none) else (if 0≤(Int.tmod (wrap64 (Int.tdiv (wrap64 (rd l0 (ji24))) 16)) (t7.length:Int)) then (if (Int.tmod (wrap64 (Int.tdiv (wrap64 (rd l0 (ji24))) 16)) (t7.length:Int))<(t7.length:Int) then ((r10_Admit.f kj11 t7 ((rd_T79 t7 (Int.tmod (wrap64 (Int.tdiv (wrap64 (rd l0 (ji24))) 16)) (t7.length:Int))).f0) (Int.tmod (wrap64 (rd l0 (ji24))) 16) (wrap64 (Int.tdiv (Int.tmod (wrap64 (rd l0 (ji24))) 16) 2)) (Int.tmod (Int.tmod (wrap64 (rd l0 (ji24))) 16) 3)).bind fun bt15=>(if bt15.2=0 then (law12_Make.l0 kj11 l0 bt15.1 (wrap64 (x4_1+3))) else (law12_Make.l0 kj11 l0 t7 (wrap64 (x4_1+3))))) else (none)) else (none))) else (none)) else (none))=some r:=by first|(rw [hji24] at H;exact H)|(simp only [hji24] at H ⊢;exact H)
         (try rw [hji24] at A22);have hji24w:(IntKind.i64.wrap (x4_1+2))=ji24:=(i64_w _).trans hji24;replace H:=zif_ H;obtain ⟨c25,H⟩:=H;have c25b0:=decide_eq_true c25;clear c25;replace H:=zif_ H;obtain ⟨c26,H⟩:=H;have c26b0:=decide_eq_true c26;clear c26;by_cases c27:(t7.length:Int)=0
         ·rw [if_pos c27] at H;exact absurd H (by simp)
         rw [if_neg c27] at H;have c27b0:=beq_eq_false_iff_ne.mpr c27;have c27b1:=bne_iff_ne.mpr c27;have c27b2: ¬(t7=[]):=fun h_=>c27 (by rw [h_];rfl)
         obtain ⟨ji28,hji28⟩: ∃j_:Int,(Int.tmod (wrap64 (Int.tdiv (wrap64 (rd l0 (ji24))) 16)) (t7.length:Int))=j_:=⟨_,rfl⟩;replace H:(if 0≤(ji28) then (if (ji28)<(t7.length:Int) then ((r10_Admit.f kj11 t7 ((rd_T79 t7 (ji28)).f0) (Int.tmod (wrap64 (rd l0 (ji24))) 16) (wrap64 (Int.tdiv (Int.tmod (wrap64 (rd l0 (ji24))) 16) 2)) (Int.tmod (Int.tmod (wrap64 (rd l0 (ji24))) 16) 3)).bind fun bt15=>(if bt15.2=0 then (law12_Make.l0 kj11 l0 bt15.1 (wrap64 (x4_1+3))) else (law12_Make.l0 kj11 l0 t7 (wrap64 (x4_1+3))))) else (none)) else (none))=some r:=by first|(rw [hji28] at H;exact H)|(simp only [hji28] at H ⊢;exact H)
         (try rw [hji28] at A22);replace H:=zif_ H;obtain ⟨c29,H⟩:=H;have c29b0:=decide_eq_true c29;clear c29;replace H:=zif_ H;obtain ⟨c30,H⟩:=H;have c30b0:=decide_eq_true c30;clear c30;replace H:=zbd_ H;obtain ⟨⟨t15,t18⟩,A31,H⟩:=H;try dsimp only at H
         by_cases c32:t18=0
         ·rw [if_pos c32] at H;have c32b0:=beq_iff_eq.mpr c32;have c32b1:=bne_eq_false_iff_eq.mpr c32;clear c32;have H':=Aside0.mk H;clear H;obtain ⟨p3,q3,ad3,e3,hx3_0⟩:=zat_ (Kd.at_int HR0.out (ji19));obtain rfl:ad1=ad3:=(by injection e3);replace hx3_0:=zx_ HB hx3_0;obtain ⟨Ao33,co33,eo33⟩:=Kd.R_slice HO_3.out;subst eo33
          go_wp2_with (first|((with_reducible refine gate_dst (N:=60) rfl ?_);(try (refine gate_guard (by rfl) ?_;dsimp only));refine Kd.R_lit (Kd.int .u8) _ 5 ?hg (N:=60) ?hd (xs:=([(wrap64 (97+(Int.tmod (wrap64 ((x3_1.length:Int)*5)) 24))) % 256]:List Int)) (inner:=[.int .u8 ((wrap64 (97+(Int.tmod (wrap64 ((x3_1.length:Int)*5)) 24))) % 256)]) (ok:=fun _=>True) (okp:=fun _=>True) ?hr ?hp (fun _ hk=>hk) trivial (Below.refl _ _) (Nat.le_refl _) (by simp) ?_;(case hd=>rfl);(case hg=>rfl);(case hr=>first|(go_simp;done)|(go_simp;rfl));(case hp=>exact (Reps.one (show Kd.M (Kd.int .u8) _ _ _ ((wrap64 (97+(Int.tmod (wrap64 ((x3_1.length:Int)*5)) 24))) % 256) [.int .u8 ((wrap64 (97+(Int.tmod (wrap64 ((x3_1.length:Int)*5)) 24))) % 256)] from rfl) (Reps.none _ _)));intro v5 w34 ho35 hb hg_ hnew_;clear hg_ hnew_;(first|rw [←Ny4.out] at ho35|(simp only [Int.reduceToNat] at ho35;rw [←Ny4.out] at ho35));replace HO_3:=ob_ HO_3 hb;have HO6:=am_ (Kd.R_lower ho35 (below_size (zl0_ HB)));replace HB:=am_ (below_step (zl0_ HB) hb);clear hb ho35;have hcv36:=own_string (P:=Try.prog) Try.underlying33 Try.underlying5 Try.underlying9 (Kd.own_of_R HO6.out))|((with_reducible refine gate_callee (f:=83) rfl ?_);refine goesL_ (some 67) rfl rfl Try.func83 (by kernel_rfl) rfl #[.slice Ao33 x3_1.length co33, .string (strOfNums y4), .string x6_11, .agg #[.int .i64 (wrap64 (20+(wrap64 (rd l0 (ji19))))), .int .i64 (wrap64 (20+(wrap64 (rd l0 (ji19))))), .int .i64 (wrap64 (20+(wrap64 (rd l0 (ji19)))))]] rfl (by (try simp only [List.map_toArray,List.map_cons,List.map_nil]);first|done|(simp only [hji19];rfl)|rfl|(simp only [List.length_drop,List.length_take];rfl)) ?_;(with_reducible refine (r10_Create.calls kj11 _ _ x3_1 (strOfNums y4) x6_11 (wrap64 (20+(wrap64 (rd l0 (ji19))))) (wrap64 (20+(wrap64 (rd l0 (ji19))))) (wrap64 (20+(wrap64 (rd l0 (ji19))))) t7 t10 _ ?side1 ?side2 A22.out).mono ?_);(case side1=>exact zc_ (Kd.R_reads' HO_3.out).2.2);(case side2=>exact (Kd.R_reads' HO_3.out).2.1);rintro e w37 ⟨v8,rfl,ho0,hb⟩;refine ⟨_,rfl, ?_⟩;replace HO6:=ob_ HO6 hb;have HO9:=am_ (Kd.R_lower (Kd.R_new' ho0 (Kd.R_lt (zr_ HO_3))) (below_size (zl0_ HB)));replace HO_3:=am_ (Kd.R_elder' (zr_ HO_3) (Kd.R_base ho0) hb);replace HB:=am_ (below_step (zl0_ HB) hb);(try clear hb ho0))|((with_reducible refine gate_dst (N:=8) rfl ?_);(try (refine gate_guard (by rfl) ?_;dsimp only));refine bx_ (N:=8) (cs:=#[.slice none 0 0, .int .i64 0]) (t:=73) ?_;intro gb11 hg w38 hbox hb;replace HO_3:=ob_ HO_3 hb;replace HO6:=ob_ HO6 hb;replace HO9:=ob_ HO9 hb;have BK11:=am_ (hbox);have GW11:=am_ ((zg0_ HB hg:w.heap.size≤gb11));have GE11:=am_ ((zg0_ HB hg:w.heap.size≤gb11));replace HB:=am_ (below_step (zl0_ HB) hb);clear hb hbox hg;obtain ⟨Ao39,co39,eo39⟩:=Kd.R_slice HO9.out;subst eo39;obtain ⟨hcz40_0,hcz40_1,hfz40_0,hfz40_1⟩:=y2_ BK11;have p12:0≤((ji24):Int):=of_decide_eq_true zq_;have q12:(ji24)<(l0.length:Int):=of_decide_eq_true zq_;obtain ⟨ad12,e12,hx12_0⟩:=Kd.at_int HR0.out (ji24) p12 q12;obtain rfl:ad1=ad12:=(by injection e12);have hn12_0:ad1.block≠gb11:=Nat.ne_of_lt (Nat.lt_of_lt_of_le (by have:=World.block_lt_of_cell? _ _ hx12_0;first|rwa [add_block] at this|exact this) GW11.out);have hn12_1:ad1.block≠gb11:=Nat.ne_of_lt (Nat.lt_of_lt_of_le (by have:=World.block_lt_of_cell? _ _ hx12_0;first|rwa [add_block] at this|exact this) GW11.out);replace hx12_0:=zx_ HB hx12_0;replace hx12_0:=(cell_far (p:=⟨gb11,0,none⟩) (by first|(rw [add_block];exact hn12_0)|(show (Addr.add _ _).block≠_;rw [add_block];exact hn12_0)|exact hn12_0) (.slice Ao39 t7.length co39)).trans hx12_0;replace hx12_0:=(cell_far (p:=⟨gb11,1,none⟩) (by first|(rw [add_block];exact hn12_1)|(show (Addr.add _ _).block≠_;rw [add_block];exact hn12_1)|exact hn12_1) (.int .i64 t10)).trans hx12_0;clear hn12_0;clear hn12_1;replace p12:=eq_true p12;replace q12:=eq_true q12;have p13:0≤((ji24):Int):=of_decide_eq_true zq_;have q13:(ji24)<(l0.length:Int):=of_decide_eq_true zq_;obtain ⟨ad13,e13,hx13_0⟩:=Kd.at_int HR0.out (ji24) p13 q13;obtain rfl:ad1=ad13:=(by injection e13);have hn13_0:ad1.block≠gb11:=Nat.ne_of_lt (Nat.lt_of_lt_of_le (by have:=World.block_lt_of_cell? _ _ hx13_0;first|rwa [add_block] at this|exact this) GW11.out);have hn13_1:ad1.block≠gb11:=Nat.ne_of_lt (Nat.lt_of_lt_of_le (by have:=World.block_lt_of_cell? _ _ hx13_0;first|rwa [add_block] at this|exact this) GW11.out);replace hx13_0:=zx_ HB hx13_0;replace hx13_0:=(cell_far (p:=⟨gb11,0,none⟩) (by first|(rw [add_block];exact hn13_0)|(show (Addr.add _ _).block≠_;rw [add_block];exact hn13_0)|exact hn13_0) (.slice Ao39 t7.length co39)).trans hx13_0;replace hx13_0:=(cell_far (p:=⟨gb11,1,none⟩) (by first|(rw [add_block];exact hn13_1)|(show (Addr.add _ _).block≠_;rw [add_block];exact hn13_1)|exact hn13_1) (.int .i64 t10)).trans hx13_0;clear hn13_0;clear hn13_1;replace p13:=eq_true p13;replace q13:=eq_true q13;have p14:0≤((ji28):Int):=of_decide_eq_true zq_;have q14:(ji28)<(t7.length:Int):=of_decide_eq_true zq_;obtain ⟨ad14,e14,hx14_0,hx14_1,hx14_2,hx14_3,hx14_4,hx14_5,hx14_6,hx14_7,hx14_8,hx14_9,hx14_10,hx14_11⟩:=at_T79 (Kd.R_reads' HO9.out).2.2 (ji28) p14 q14;cases e14;have hn14_0:ad14.block≠gb11:=Kd.own_blk (Kd.R_ne HO9.out BK11.out (by decide));have hn14_1:ad14.block≠gb11:=Kd.own_blk (Kd.R_ne HO9.out BK11.out (by decide));replace hx14_0:=(cell_far (p:=⟨gb11,0,none⟩) (by first|(rw [add_block];exact hn14_0)|(show (Addr.add _ _).block≠_;rw [add_block];exact hn14_0)|exact hn14_0) (.slice (some ad14) t7.length co39)).trans hx14_0;replace hx14_1:=(cell_far (p:=⟨gb11,0,none⟩) (by first|(rw [add_block];exact hn14_0)|(show (Addr.add _ _).block≠_;rw [add_block];exact hn14_0)|exact hn14_0) (.slice (some ad14) t7.length co39)).trans hx14_1;replace hx14_2:=(cell_far (p:=⟨gb11,0,none⟩) (by first|(rw [add_block];exact hn14_0)|(show (Addr.add _ _).block≠_;rw [add_block];exact hn14_0)|exact hn14_0) (.slice (some ad14) t7.length co39)).trans hx14_2;replace hx14_3:=(cell_far (p:=⟨gb11,0,none⟩) (by first|(rw [add_block];exact hn14_0)|(show (Addr.add _ _).block≠_;rw [add_block];exact hn14_0)|exact hn14_0) (.slice (some ad14) t7.length co39)).trans hx14_3;replace hx14_4:=(cell_far (p:=⟨gb11,0,none⟩) (by first|(rw [add_block];exact hn14_0)|(show (Addr.add _ _).block≠_;rw [add_block];exact hn14_0)|exact hn14_0) (.slice (some ad14) t7.length co39)).trans hx14_4;replace hx14_5:=(cell_far (p:=⟨gb11,0,none⟩) (by first|(rw [add_block];exact hn14_0)|(show (Addr.add _ _).block≠_;rw [add_block];exact hn14_0)|exact hn14_0) (.slice (some ad14) t7.length co39)).trans hx14_5;replace hx14_6:=(cell_far (p:=⟨gb11,0,none⟩) (by first|(rw [add_block];exact hn14_0)|(show (Addr.add _ _).block≠_;rw [add_block];exact hn14_0)|exact hn14_0) (.slice (some ad14) t7.length co39)).trans hx14_6;replace hx14_7:=(cell_far (p:=⟨gb11,0,none⟩) (by first|(rw [add_block];exact hn14_0)|(show (Addr.add _ _).block≠_;rw [add_block];exact hn14_0)|exact hn14_0) (.slice (some ad14) t7.length co39)).trans hx14_7;replace hx14_8:=(cell_far (p:=⟨gb11,0,none⟩) (by first|(rw [add_block];exact hn14_0)|(show (Addr.add _ _).block≠_;rw [add_block];exact hn14_0)|exact hn14_0) (.slice (some ad14) t7.length co39)).trans hx14_8;replace hx14_9:=(cell_far (p:=⟨gb11,0,none⟩) (by first|(rw [add_block];exact hn14_0)|(show (Addr.add _ _).block≠_;rw [add_block];exact hn14_0)|exact hn14_0) (.slice (some ad14) t7.length co39)).trans hx14_9;replace hx14_10:=(cell_far (p:=⟨gb11,0,none⟩) (by first|(rw [add_block];exact hn14_0)|(show (Addr.add _ _).block≠_;rw [add_block];exact hn14_0)|exact hn14_0) (.slice (some ad14) t7.length co39)).trans hx14_10;replace hx14_11:=(cell_far (p:=⟨gb11,0,none⟩) (by first|(rw [add_block];exact hn14_0)|(show (Addr.add _ _).block≠_;rw [add_block];exact hn14_0)|exact hn14_0) (.slice (some ad14) t7.length co39)).trans hx14_11;replace hx14_0:=(cell_far (p:=⟨gb11,1,none⟩) (by first|(rw [add_block];exact hn14_1)|(show (Addr.add _ _).block≠_;rw [add_block];exact hn14_1)|exact hn14_1) (.int .i64 t10)).trans hx14_0;replace hx14_1:=(cell_far (p:=⟨gb11,1,none⟩) (by first|(rw [add_block];exact hn14_1)|(show (Addr.add _ _).block≠_;rw [add_block];exact hn14_1)|exact hn14_1) (.int .i64 t10)).trans hx14_1;replace hx14_2:=(cell_far (p:=⟨gb11,1,none⟩) (by first|(rw [add_block];exact hn14_1)|(show (Addr.add _ _).block≠_;rw [add_block];exact hn14_1)|exact hn14_1) (.int .i64 t10)).trans hx14_2;replace hx14_3:=(cell_far (p:=⟨gb11,1,none⟩) (by first|(rw [add_block];exact hn14_1)|(show (Addr.add _ _).block≠_;rw [add_block];exact hn14_1)|exact hn14_1) (.int .i64 t10)).trans hx14_3;replace hx14_4:=(cell_far (p:=⟨gb11,1,none⟩) (by first|(rw [add_block];exact hn14_1)|(show (Addr.add _ _).block≠_;rw [add_block];exact hn14_1)|exact hn14_1) (.int .i64 t10)).trans hx14_4;replace hx14_5:=(cell_far (p:=⟨gb11,1,none⟩) (by first|(rw [add_block];exact hn14_1)|(show (Addr.add _ _).block≠_;rw [add_block];exact hn14_1)|exact hn14_1) (.int .i64 t10)).trans hx14_5;replace hx14_6:=(cell_far (p:=⟨gb11,1,none⟩) (by first|(rw [add_block];exact hn14_1)|(show (Addr.add _ _).block≠_;rw [add_block];exact hn14_1)|exact hn14_1) (.int .i64 t10)).trans hx14_6;replace hx14_7:=(cell_far (p:=⟨gb11,1,none⟩) (by first|(rw [add_block];exact hn14_1)|(show (Addr.add _ _).block≠_;rw [add_block];exact hn14_1)|exact hn14_1) (.int .i64 t10)).trans hx14_7;replace hx14_8:=(cell_far (p:=⟨gb11,1,none⟩) (by first|(rw [add_block];exact hn14_1)|(show (Addr.add _ _).block≠_;rw [add_block];exact hn14_1)|exact hn14_1) (.int .i64 t10)).trans hx14_8;replace hx14_9:=(cell_far (p:=⟨gb11,1,none⟩) (by first|(rw [add_block];exact hn14_1)|(show (Addr.add _ _).block≠_;rw [add_block];exact hn14_1)|exact hn14_1) (.int .i64 t10)).trans hx14_9;replace hx14_10:=(cell_far (p:=⟨gb11,1,none⟩) (by first|(rw [add_block];exact hn14_1)|(show (Addr.add _ _).block≠_;rw [add_block];exact hn14_1)|exact hn14_1) (.int .i64 t10)).trans hx14_10;replace hx14_11:=(cell_far (p:=⟨gb11,1,none⟩) (by first|(rw [add_block];exact hn14_1)|(show (Addr.add _ _).block≠_;rw [add_block];exact hn14_1)|exact hn14_1) (.int .i64 t10)).trans hx14_11;clear hn14_0;clear hn14_1;replace p14:=eq_true p14;replace q14:=eq_true q14)|((with_reducible refine gate_callee (f:=84) rfl ?_);refine goesL_ (some 102) rfl rfl Try.func84 (by kernel_rfl) rfl #[.slice (some ad14) t7.length co39, .string ((rd_T79 t7 (ji28)).f0), .agg #[.int .i64 (Int.tmod (wrap64 (rd l0 (ji24))) 16), .int .i64 (wrap64 (Int.tdiv (Int.tmod (wrap64 (rd l0 (ji24))) 16) 2)), .int .i64 (Int.tmod (Int.tmod (wrap64 (rd l0 (ji24))) 16) 3)]] rfl (by (try simp only [List.map_toArray,List.map_cons,List.map_nil]);first|done|(simp only [hji24,hji28];rfl)|rfl|(simp only [List.length_drop,List.length_take];rfl)) ?_;(with_reducible refine (r10_Admit.calls kj11 _ _ t7 ((rd_T79 t7 (ji28)).f0) (Int.tmod (wrap64 (rd l0 (ji24))) 16) (wrap64 (Int.tdiv (Int.tmod (wrap64 (rd l0 (ji24))) 16) 2)) (Int.tmod (Int.tmod (wrap64 (rd l0 (ji24))) 16) 3) t15 t18 _ ?side1 ?side2 A31.out).mono ?_);(case side1=>refine (Kd.R_reads' (e:=79) (base:=w.heap.size) (ok:=fun k_=>(True∧some k_≠(.slice Ao33 x3_1.length co33:Value).ownBlock)) (n:=t7.length) (c:=co39) ?_).2.2;exact (by refine zt_ ?_;exact (Kd.R_mono (Kd.R_far (p:=⟨gb11,1,none⟩) (Kd.R_far (p:=⟨gb11,0,none⟩) (Kd.R_types HO9.out BK11.out (by decide)) (fun _ hk=>hk.2) (.slice (some ad14) t7.length co39)) (fun _ hk=>hk.2) (.int .i64 t10)) (fun _ h_=>h_.1))));(case side2=>exact (Kd.R_reads' HO9.out).2.1);rintro e w41 ⟨v16,rfl,ho0,hb⟩;refine ⟨_,rfl, ?_⟩;replace HO6:=am_ (Kd.R_below (by refine zt_ ?_;exact (Kd.R_mono (Kd.R_far (p:=⟨gb11,1,none⟩) (Kd.R_far (p:=⟨gb11,0,none⟩) (Kd.R_types HO6.out BK11.out (by decide)) (fun _ hk=>hk.2) (.slice (some ad14) t7.length co39)) (fun _ hk=>hk.2) (.int .i64 t10)) (fun _ h_=>h_.1))) hb);have HO17:=am_ (Kd.R_lower (Kd.R_new' (Kd.R_new' ho0 (Kd.R_lt (by refine zt_ ?_;exact (Kd.R_mono (Kd.R_far (p:=⟨gb11,1,none⟩) (Kd.R_far (p:=⟨gb11,0,none⟩) (Kd.R_types HO_3.out BK11.out (by decide)) (fun _ hk=>hk.2) (.slice (some ad14) t7.length co39)) (fun _ hk=>hk.2) (.int .i64 t10)) (fun _ h_=>h_.1))))) (Kd.R_lt (by refine zt_ ?_;exact (Kd.R_mono (Kd.R_far (p:=⟨gb11,1,none⟩) (Kd.R_far (p:=⟨gb11,0,none⟩) (Kd.R_types HO9.out BK11.out (by decide)) (fun _ hk=>hk.2) (.slice (some ad14) t7.length co39)) (fun _ hk=>hk.2) (.int .i64 t10)) (fun _ h_=>h_.1))))) (below_size (zl1_ HB GE11)));replace HO_3:=am_ (Kd.R_elder' (by refine zt_ ?_;exact (Kd.R_mono (Kd.R_far (p:=⟨gb11,1,none⟩) (Kd.R_far (p:=⟨gb11,0,none⟩) (Kd.R_types HO_3.out BK11.out (by decide)) (fun _ hk=>hk.2) (.slice (some ad14) t7.length co39)) (fun _ hk=>hk.2) (.int .i64 t10)) (fun _ h_=>h_.1))) (Kd.R_base ho0) hb);replace HO9:=am_ (Kd.R_elder' (by refine zt_ ?_;exact (Kd.R_mono (Kd.R_far (p:=⟨gb11,1,none⟩) (Kd.R_far (p:=⟨gb11,0,none⟩) (Kd.R_types HO9.out BK11.out (by decide)) (fun _ hk=>hk.2) (.slice (some ad14) t7.length co39)) (fun _ hk=>hk.2) (.int .i64 t10)) (fun _ h_=>h_.1))) (Kd.R_base ho0) hb);replace BK11:=am_ (blk_below (g:=gb11) (o:= .cells #[.slice (some ad14) t7.length co39, .int .i64 t10] 73 (0,0)) (zw_ BK11) hb);replace HB:=am_ (below_step (zl1_ HB GE11) hb);(try clear hb ho0))|((with_reducible refine gate_dst (N:=11) rfl ?_);(try (refine gate_guard (by rfl) ?_;dsimp only));refine bx_ (N:=11) (cs:=#[.slice none 0 0, .int .i64 0]) (t:=73) ?_;intro gb19 hg w42 hbox hb;replace HO_3:=ob_ HO_3 hb;replace HO6:=ob_ HO6 hb;replace HO9:=ob_ HO9 hb;replace HO17:=ob_ HO17 hb;have BK19:=am_ (hbox);have GE19:=am_ ((zg1_ HB GE11 hg:w.heap.size≤gb19));replace HB:=am_ (below_step (zl1_ HB GE11) hb);have NB11_19:=am_ ((zn_ BK11 hg:gb11≠gb19));have NB19_11:=am_ ((zm_ BK11 hg:gb19≠gb11));replace BK11:=bb_ BK11 hb;clear hb hbox hg;obtain ⟨Ao43,co43,eo43⟩:=Kd.R_slice HO17.out;subst eo43;have hnb44:=NB19_11.out;have hnc44:=NB11_19.out;obtain ⟨hcz45_0,hcz45_1⟩:=x2_ BK19;have hfz45_0:=blk_frozen BK19.out 0;have hfz45_1:=blk_frozen BK19.out 1))
          go_roundg kj11
          case measure=>have:=HK1.out;have:=HJ1.out;have:=HJ7.out;have:=HJ11.out;omega
          case rel=>exact ⟨(t15),(wrap64 (x4_1+3)),rf_,H',⟨by have:=HK1.out;have:=HJ1.out;have:=HJ7.out;have:=HJ11.out;omega⟩,⟨zy_ HO17 BK19⟩,⟨zl2_ HB GE11 GE19⟩⟩
         rw [if_neg c32] at H;have c32b0:=beq_eq_false_iff_ne.mpr c32;have c32b1:=bne_iff_ne.mpr c32;have H':=Aside0.mk H;clear H;obtain ⟨p3,q3,ad3,e3,hx3_0⟩:=zat_ (Kd.at_int HR0.out (ji19));obtain rfl:ad1=ad3:=(by injection e3);replace hx3_0:=zx_ HB hx3_0;obtain ⟨Ao46,co46,eo46⟩:=Kd.R_slice HO_3.out;subst eo46
         go_wp2_with (first|((with_reducible refine gate_dst (N:=60) rfl ?_);(try (refine gate_guard (by rfl) ?_;dsimp only));refine Kd.R_lit (Kd.int .u8) _ 5 ?hg (N:=60) ?hd (xs:=([(wrap64 (97+(Int.tmod (wrap64 ((x3_1.length:Int)*5)) 24))) % 256]:List Int)) (inner:=[.int .u8 ((wrap64 (97+(Int.tmod (wrap64 ((x3_1.length:Int)*5)) 24))) % 256)]) (ok:=fun _=>True) (okp:=fun _=>True) ?hr ?hp (fun _ hk=>hk) trivial (Below.refl _ _) (Nat.le_refl _) (by simp) ?_;(case hd=>rfl);(case hg=>rfl);(case hr=>first|(go_simp;done)|(go_simp;rfl));(case hp=>exact (Reps.one (show Kd.M (Kd.int .u8) _ _ _ ((wrap64 (97+(Int.tmod (wrap64 ((x3_1.length:Int)*5)) 24))) % 256) [.int .u8 ((wrap64 (97+(Int.tmod (wrap64 ((x3_1.length:Int)*5)) 24))) % 256)] from rfl) (Reps.none _ _)));intro v5 w47 ho48 hb hg_ hnew_;clear hg_ hnew_;(first|rw [←Ny4.out] at ho48|(simp only [Int.reduceToNat] at ho48;rw [←Ny4.out] at ho48));replace HO_3:=ob_ HO_3 hb;have HO6:=am_ (Kd.R_lower ho48 (below_size (zl0_ HB)));replace HB:=am_ (below_step (zl0_ HB) hb);clear hb ho48;have hcv49:=own_string (P:=Try.prog) Try.underlying33 Try.underlying5 Try.underlying9 (Kd.own_of_R HO6.out))|((with_reducible refine gate_callee (f:=83) rfl ?_);refine goesL_ (some 67) rfl rfl Try.func83 (by kernel_rfl) rfl #[.slice Ao46 x3_1.length co46, .string (strOfNums y4), .string x6_11, .agg #[.int .i64 (wrap64 (20+(wrap64 (rd l0 (ji19))))), .int .i64 (wrap64 (20+(wrap64 (rd l0 (ji19))))), .int .i64 (wrap64 (20+(wrap64 (rd l0 (ji19)))))]] rfl (by (try simp only [List.map_toArray,List.map_cons,List.map_nil]);first|done|(simp only [hji19];rfl)|rfl|(simp only [List.length_drop,List.length_take];rfl)) ?_;(with_reducible refine (r10_Create.calls kj11 _ _ x3_1 (strOfNums y4) x6_11 (wrap64 (20+(wrap64 (rd l0 (ji19))))) (wrap64 (20+(wrap64 (rd l0 (ji19))))) (wrap64 (20+(wrap64 (rd l0 (ji19))))) t7 t10 _ ?side1 ?side2 A22.out).mono ?_);(case side1=>exact zc_ (Kd.R_reads' HO_3.out).2.2);(case side2=>exact (Kd.R_reads' HO_3.out).2.1);rintro e w50 ⟨v8,rfl,ho0,hb⟩;refine ⟨_,rfl, ?_⟩;replace HO6:=ob_ HO6 hb;have HO9:=am_ (Kd.R_lower (Kd.R_new' ho0 (Kd.R_lt (zr_ HO_3))) (below_size (zl0_ HB)));replace HO_3:=am_ (Kd.R_elder' (zr_ HO_3) (Kd.R_base ho0) hb);replace HB:=am_ (below_step (zl0_ HB) hb);(try clear hb ho0))|((with_reducible refine gate_dst (N:=8) rfl ?_);(try (refine gate_guard (by rfl) ?_;dsimp only));refine bx_ (N:=8) (cs:=#[.slice none 0 0, .int .i64 0]) (t:=73) ?_;intro gb11 hg w51 hbox hb;replace HO_3:=ob_ HO_3 hb;replace HO6:=ob_ HO6 hb;replace HO9:=ob_ HO9 hb;have BK11:=am_ (hbox);have GW11:=am_ ((zg0_ HB hg:w.heap.size≤gb11));have GE11:=am_ ((zg0_ HB hg:w.heap.size≤gb11));replace HB:=am_ (below_step (zl0_ HB) hb);clear hb hbox hg;obtain ⟨Ao52,co52,eo52⟩:=Kd.R_slice HO9.out;subst eo52;obtain ⟨hcz53_0,hcz53_1,hfz53_0,hfz53_1⟩:=y2_ BK11;have p12:0≤((ji24):Int):=of_decide_eq_true zq_;have q12:(ji24)<(l0.length:Int):=of_decide_eq_true zq_;obtain ⟨ad12,e12,hx12_0⟩:=Kd.at_int HR0.out (ji24) p12 q12;obtain rfl:ad1=ad12:=(by injection e12);have hn12_0:ad1.block≠gb11:=Nat.ne_of_lt (Nat.lt_of_lt_of_le (by have:=World.block_lt_of_cell? _ _ hx12_0;first|rwa [add_block] at this|exact this) GW11.out);have hn12_1:ad1.block≠gb11:=Nat.ne_of_lt (Nat.lt_of_lt_of_le (by have:=World.block_lt_of_cell? _ _ hx12_0;first|rwa [add_block] at this|exact this) GW11.out);replace hx12_0:=zx_ HB hx12_0;replace hx12_0:=(cell_far (p:=⟨gb11,0,none⟩) (by first|(rw [add_block];exact hn12_0)|(show (Addr.add _ _).block≠_;rw [add_block];exact hn12_0)|exact hn12_0) (.slice Ao52 t7.length co52)).trans hx12_0;replace hx12_0:=(cell_far (p:=⟨gb11,1,none⟩) (by first|(rw [add_block];exact hn12_1)|(show (Addr.add _ _).block≠_;rw [add_block];exact hn12_1)|exact hn12_1) (.int .i64 t10)).trans hx12_0;clear hn12_0;clear hn12_1;replace p12:=eq_true p12;replace q12:=eq_true q12;have p13:0≤((ji24):Int):=of_decide_eq_true zq_;have q13:(ji24)<(l0.length:Int):=of_decide_eq_true zq_;obtain ⟨ad13,e13,hx13_0⟩:=Kd.at_int HR0.out (ji24) p13 q13;obtain rfl:ad1=ad13:=(by injection e13);have hn13_0:ad1.block≠gb11:=Nat.ne_of_lt (Nat.lt_of_lt_of_le (by have:=World.block_lt_of_cell? _ _ hx13_0;first|rwa [add_block] at this|exact this) GW11.out);have hn13_1:ad1.block≠gb11:=Nat.ne_of_lt (Nat.lt_of_lt_of_le (by have:=World.block_lt_of_cell? _ _ hx13_0;first|rwa [add_block] at this|exact this) GW11.out);replace hx13_0:=zx_ HB hx13_0;replace hx13_0:=(cell_far (p:=⟨gb11,0,none⟩) (by first|(rw [add_block];exact hn13_0)|(show (Addr.add _ _).block≠_;rw [add_block];exact hn13_0)|exact hn13_0) (.slice Ao52 t7.length co52)).trans hx13_0;replace hx13_0:=(cell_far (p:=⟨gb11,1,none⟩) (by first|(rw [add_block];exact hn13_1)|(show (Addr.add _ _).block≠_;rw [add_block];exact hn13_1)|exact hn13_1) (.int .i64 t10)).trans hx13_0;clear hn13_0;clear hn13_1;replace p13:=eq_true p13;replace q13:=eq_true q13;have p14:0≤((ji28):Int):=of_decide_eq_true zq_;have q14:(ji28)<(t7.length:Int):=of_decide_eq_true zq_;obtain ⟨ad14,e14,hx14_0,hx14_1,hx14_2,hx14_3,hx14_4,hx14_5,hx14_6,hx14_7,hx14_8,hx14_9,hx14_10,hx14_11⟩:=at_T79 (Kd.R_reads' HO9.out).2.2 (ji28) p14 q14;cases e14;have hn14_0:ad14.block≠gb11:=Kd.own_blk (Kd.R_ne HO9.out BK11.out (by decide));have hn14_1:ad14.block≠gb11:=Kd.own_blk (Kd.R_ne HO9.out BK11.out (by decide));replace hx14_0:=(cell_far (p:=⟨gb11,0,none⟩) (by first|(rw [add_block];exact hn14_0)|(show (Addr.add _ _).block≠_;rw [add_block];exact hn14_0)|exact hn14_0) (.slice (some ad14) t7.length co52)).trans hx14_0;replace hx14_1:=(cell_far (p:=⟨gb11,0,none⟩) (by first|(rw [add_block];exact hn14_0)|(show (Addr.add _ _).block≠_;rw [add_block];exact hn14_0)|exact hn14_0) (.slice (some ad14) t7.length co52)).trans hx14_1;replace hx14_2:=(cell_far (p:=⟨gb11,0,none⟩) (by first|(rw [add_block];exact hn14_0)|(show (Addr.add _ _).block≠_;rw [add_block];exact hn14_0)|exact hn14_0) (.slice (some ad14) t7.length co52)).trans hx14_2;replace hx14_3:=(cell_far (p:=⟨gb11,0,none⟩) (by first|(rw [add_block];exact hn14_0)|(show (Addr.add _ _).block≠_;rw [add_block];exact hn14_0)|exact hn14_0) (.slice (some ad14) t7.length co52)).trans hx14_3;replace hx14_4:=(cell_far (p:=⟨gb11,0,none⟩) (by first|(rw [add_block];exact hn14_0)|(show (Addr.add _ _).block≠_;rw [add_block];exact hn14_0)|exact hn14_0) (.slice (some ad14) t7.length co52)).trans hx14_4;replace hx14_5:=(cell_far (p:=⟨gb11,0,none⟩) (by first|(rw [add_block];exact hn14_0)|(show (Addr.add _ _).block≠_;rw [add_block];exact hn14_0)|exact hn14_0) (.slice (some ad14) t7.length co52)).trans hx14_5;replace hx14_6:=(cell_far (p:=⟨gb11,0,none⟩) (by first|(rw [add_block];exact hn14_0)|(show (Addr.add _ _).block≠_;rw [add_block];exact hn14_0)|exact hn14_0) (.slice (some ad14) t7.length co52)).trans hx14_6;replace hx14_7:=(cell_far (p:=⟨gb11,0,none⟩) (by first|(rw [add_block];exact hn14_0)|(show (Addr.add _ _).block≠_;rw [add_block];exact hn14_0)|exact hn14_0) (.slice (some ad14) t7.length co52)).trans hx14_7;replace hx14_8:=(cell_far (p:=⟨gb11,0,none⟩) (by first|(rw [add_block];exact hn14_0)|(show (Addr.add _ _).block≠_;rw [add_block];exact hn14_0)|exact hn14_0) (.slice (some ad14) t7.length co52)).trans hx14_8;replace hx14_9:=(cell_far (p:=⟨gb11,0,none⟩) (by first|(rw [add_block];exact hn14_0)|(show (Addr.add _ _).block≠_;rw [add_block];exact hn14_0)|exact hn14_0) (.slice (some ad14) t7.length co52)).trans hx14_9;replace hx14_10:=(cell_far (p:=⟨gb11,0,none⟩) (by first|(rw [add_block];exact hn14_0)|(show (Addr.add _ _).block≠_;rw [add_block];exact hn14_0)|exact hn14_0) (.slice (some ad14) t7.length co52)).trans hx14_10;replace hx14_11:=(cell_far (p:=⟨gb11,0,none⟩) (by first|(rw [add_block];exact hn14_0)|(show (Addr.add _ _).block≠_;rw [add_block];exact hn14_0)|exact hn14_0) (.slice (some ad14) t7.length co52)).trans hx14_11;replace hx14_0:=(cell_far (p:=⟨gb11,1,none⟩) (by first|(rw [add_block];exact hn14_1)|(show (Addr.add _ _).block≠_;rw [add_block];exact hn14_1)|exact hn14_1) (.int .i64 t10)).trans hx14_0;replace hx14_1:=(cell_far (p:=⟨gb11,1,none⟩) (by first|(rw [add_block];exact hn14_1)|(show (Addr.add _ _).block≠_;rw [add_block];exact hn14_1)|exact hn14_1) (.int .i64 t10)).trans hx14_1;replace hx14_2:=(cell_far (p:=⟨gb11,1,none⟩) (by first|(rw [add_block];exact hn14_1)|(show (Addr.add _ _).block≠_;rw [add_block];exact hn14_1)|exact hn14_1) (.int .i64 t10)).trans hx14_2;replace hx14_3:=(cell_far (p:=⟨gb11,1,none⟩) (by first|(rw [add_block];exact hn14_1)|(show (Addr.add _ _).block≠_;rw [add_block];exact hn14_1)|exact hn14_1) (.int .i64 t10)).trans hx14_3;replace hx14_4:=(cell_far (p:=⟨gb11,1,none⟩) (by first|(rw [add_block];exact hn14_1)|(show (Addr.add _ _).block≠_;rw [add_block];exact hn14_1)|exact hn14_1) (.int .i64 t10)).trans hx14_4;replace hx14_5:=(cell_far (p:=⟨gb11,1,none⟩) (by first|(rw [add_block];exact hn14_1)|(show (Addr.add _ _).block≠_;rw [add_block];exact hn14_1)|exact hn14_1) (.int .i64 t10)).trans hx14_5;replace hx14_6:=(cell_far (p:=⟨gb11,1,none⟩) (by first|(rw [add_block];exact hn14_1)|(show (Addr.add _ _).block≠_;rw [add_block];exact hn14_1)|exact hn14_1) (.int .i64 t10)).trans hx14_6;replace hx14_7:=(cell_far (p:=⟨gb11,1,none⟩) (by first|(rw [add_block];exact hn14_1)|(show (Addr.add _ _).block≠_;rw [add_block];exact hn14_1)|exact hn14_1) (.int .i64 t10)).trans hx14_7;replace hx14_8:=(cell_far (p:=⟨gb11,1,none⟩) (by first|(rw [add_block];exact hn14_1)|(show (Addr.add _ _).block≠_;rw [add_block];exact hn14_1)|exact hn14_1) (.int .i64 t10)).trans hx14_8;replace hx14_9:=(cell_far (p:=⟨gb11,1,none⟩) (by first|(rw [add_block];exact hn14_1)|(show (Addr.add _ _).block≠_;rw [add_block];exact hn14_1)|exact hn14_1) (.int .i64 t10)).trans hx14_9;replace hx14_10:=(cell_far (p:=⟨gb11,1,none⟩) (by first|(rw [add_block];exact hn14_1)|(show (Addr.add _ _).block≠_;rw [add_block];exact hn14_1)|exact hn14_1) (.int .i64 t10)).trans hx14_10;replace hx14_11:=(cell_far (p:=⟨gb11,1,none⟩) (by first|(rw [add_block];exact hn14_1)|(show (Addr.add _ _).block≠_;rw [add_block];exact hn14_1)|exact hn14_1) (.int .i64 t10)).trans hx14_11;clear hn14_0;clear hn14_1;replace p14:=eq_true p14;replace q14:=eq_true q14)|((with_reducible refine gate_callee (f:=84) rfl ?_);refine goesL_ (some 102) rfl rfl Try.func84 (by kernel_rfl) rfl #[.slice (some ad14) t7.length co52, .string ((rd_T79 t7 (ji28)).f0), .agg #[.int .i64 (Int.tmod (wrap64 (rd l0 (ji24))) 16), .int .i64 (wrap64 (Int.tdiv (Int.tmod (wrap64 (rd l0 (ji24))) 16) 2)), .int .i64 (Int.tmod (Int.tmod (wrap64 (rd l0 (ji24))) 16) 3)]] rfl (by (try simp only [List.map_toArray,List.map_cons,List.map_nil]);first|done|(simp only [hji24,hji28];rfl)|rfl|(simp only [List.length_drop,List.length_take];rfl)) ?_;(with_reducible refine (r10_Admit.calls kj11 _ _ t7 ((rd_T79 t7 (ji28)).f0) (Int.tmod (wrap64 (rd l0 (ji24))) 16) (wrap64 (Int.tdiv (Int.tmod (wrap64 (rd l0 (ji24))) 16) 2)) (Int.tmod (Int.tmod (wrap64 (rd l0 (ji24))) 16) 3) t15 t18 _ ?side1 ?side2 A31.out).mono ?_);(case side1=>refine (Kd.R_reads' (e:=79) (base:=w.heap.size) (ok:=fun k_=>(True∧some k_≠(.slice Ao46 x3_1.length co46:Value).ownBlock)) (n:=t7.length) (c:=co52) ?_).2.2;exact (by refine zt_ ?_;exact (Kd.R_mono (Kd.R_far (p:=⟨gb11,1,none⟩) (Kd.R_far (p:=⟨gb11,0,none⟩) (Kd.R_types HO9.out BK11.out (by decide)) (fun _ hk=>hk.2) (.slice (some ad14) t7.length co52)) (fun _ hk=>hk.2) (.int .i64 t10)) (fun _ h_=>h_.1))));(case side2=>exact (Kd.R_reads' HO9.out).2.1);rintro e w54 ⟨v16,rfl,ho0,hb⟩;refine ⟨_,rfl, ?_⟩;replace HO6:=am_ (Kd.R_below (by refine zt_ ?_;exact (Kd.R_mono (Kd.R_far (p:=⟨gb11,1,none⟩) (Kd.R_far (p:=⟨gb11,0,none⟩) (Kd.R_types HO6.out BK11.out (by decide)) (fun _ hk=>hk.2) (.slice (some ad14) t7.length co52)) (fun _ hk=>hk.2) (.int .i64 t10)) (fun _ h_=>h_.1))) hb);have HO17:=am_ (Kd.R_lower (Kd.R_new' (Kd.R_new' ho0 (Kd.R_lt (by refine zt_ ?_;exact (Kd.R_mono (Kd.R_far (p:=⟨gb11,1,none⟩) (Kd.R_far (p:=⟨gb11,0,none⟩) (Kd.R_types HO_3.out BK11.out (by decide)) (fun _ hk=>hk.2) (.slice (some ad14) t7.length co52)) (fun _ hk=>hk.2) (.int .i64 t10)) (fun _ h_=>h_.1))))) (Kd.R_lt (by refine zt_ ?_;exact (Kd.R_mono (Kd.R_far (p:=⟨gb11,1,none⟩) (Kd.R_far (p:=⟨gb11,0,none⟩) (Kd.R_types HO9.out BK11.out (by decide)) (fun _ hk=>hk.2) (.slice (some ad14) t7.length co52)) (fun _ hk=>hk.2) (.int .i64 t10)) (fun _ h_=>h_.1))))) (below_size (zl1_ HB GE11)));replace HO_3:=am_ (Kd.R_elder' (by refine zt_ ?_;exact (Kd.R_mono (Kd.R_far (p:=⟨gb11,1,none⟩) (Kd.R_far (p:=⟨gb11,0,none⟩) (Kd.R_types HO_3.out BK11.out (by decide)) (fun _ hk=>hk.2) (.slice (some ad14) t7.length co52)) (fun _ hk=>hk.2) (.int .i64 t10)) (fun _ h_=>h_.1))) (Kd.R_base ho0) hb);replace HO9:=am_ (Kd.R_elder' (by refine zt_ ?_;exact (Kd.R_mono (Kd.R_far (p:=⟨gb11,1,none⟩) (Kd.R_far (p:=⟨gb11,0,none⟩) (Kd.R_types HO9.out BK11.out (by decide)) (fun _ hk=>hk.2) (.slice (some ad14) t7.length co52)) (fun _ hk=>hk.2) (.int .i64 t10)) (fun _ h_=>h_.1))) (Kd.R_base ho0) hb);replace BK11:=am_ (blk_below (g:=gb11) (o:= .cells #[.slice (some ad14) t7.length co52, .int .i64 t10] 73 (0,0)) (zw_ BK11) hb);replace HB:=am_ (below_step (zl1_ HB GE11) hb);(try clear hb ho0))|((with_reducible refine gate_dst (N:=11) rfl ?_);(try (refine gate_guard (by rfl) ?_;dsimp only));refine bx_ (N:=11) (cs:=#[.slice none 0 0, .int .i64 0]) (t:=73) ?_;intro gb19 hg w55 hbox hb;replace HO_3:=ob_ HO_3 hb;replace HO6:=ob_ HO6 hb;replace HO9:=ob_ HO9 hb;replace HO17:=ob_ HO17 hb;have BK19:=am_ (hbox);have GE19:=am_ ((zg1_ HB GE11 hg:w.heap.size≤gb19));replace HB:=am_ (below_step (zl1_ HB GE11) hb);have NB11_19:=am_ ((zn_ BK11 hg:gb11≠gb19));have NB19_11:=am_ ((zm_ BK11 hg:gb19≠gb11));replace BK11:=bb_ BK11 hb;clear hb hbox hg;obtain ⟨Ao56,co56,eo56⟩:=Kd.R_slice HO17.out;subst eo56;have hnb57:=NB19_11.out;have hnc57:=NB11_19.out;obtain ⟨hcz58_0,hcz58_1⟩:=x2_ BK19;have hfz58_0:=blk_frozen BK19.out 0;have hfz58_1:=blk_frozen BK19.out 1))
         go_roundg kj11
         case measure=>have:=HK1.out;have:=HJ1.out;have:=HJ7.out;have:=HJ11.out;omega
         case rel=>exact ⟨(t7),(wrap64 (x4_1+3)),rf_,H',⟨by have:=HK1.out;have:=HJ1.out;have:=HJ7.out;have:=HJ11.out;omega⟩,⟨zy_ HO9 BK19⟩,⟨zl2_ HB GE11 GE19⟩⟩
def law18_Loose.l0:Nat→List (S79)→List (S84)→Int→Option ((List (S84)))
 |0,_,_,_=>none
 |k+1,x0,x3,x4=>if x4<(x0.length:Int) then (if 0≤x4 then (if x3.length<2199023255552 then (law18_Loose.l0 k x0 (x3++ [(⟨(rd_T79 x0 x4).f0,(rd_T79 x0 x4).f1,(⟨(rd_T79 x0 x4).f2.f0,(rd_T79 x0 x4).f2.f1,(rd_T79 x0 x4).f2.f2⟩:S37),(rd_T79 x0 x4).f5⟩:S84)]) (wrap64 (x4+1))) else (none)) else (none)) else (some x3)
def law18_Loose.f (k:Nat) (l0:List (S79)):Option ((List (S84))):=law18_Loose.l0 k l0 ([]:List (S84)) 0
theorem law18_Loose.mono_l: ∀k,(∀y0 y1 y2,LeO (law18_Loose.l0 k y0 y1 y2) (law18_Loose.l0 (k+1) y0 y1 y2))
 |0=>fun _ _ _ r h=>by simp [law18_Loose.l0] at h
 |k+1=>by
  have ih0:=law18_Loose.mono_l k;intro y0 y1 y2;unfold law18_Loose.l0
  repeat' with_reducible first|apply ih0|apply LeO.refl|apply LeO.none|apply LeO.ite|refine LeO.bind ?_ fun _=> ?_
theorem law18_Loose.mono: ∀a0 k,LeO (law18_Loose.f k a0) (law18_Loose.f (k+1) a0):=by
 intro a0 k;have ih0:=law18_Loose.mono_l k;unfold law18_Loose.f
 repeat' with_reducible first|apply ih0|apply LeO.refl|apply LeO.none|apply LeO.ite|refine LeO.bind ?_ fun _=> ?_
def law18_Loose.T5:Bool×List (List Nat×List Nat):=(true,[([],[]),([],[]),([],[]),([1,2],[1,2]),([3],[3]),([4],[4]),([],[]),([],[]),([6,7],[6,7]),([8],[8]),([9],[9]),([],[]),([],[]),([11,12],[11,12]),([13],[13]),([14],[14]),([],[]),([],[]),([16,17],[16,17]),([18],[18]),([19],[19]),([5,10,15,20],[5,10,15,20]),([21],[21]),([0,22],[0,22]),([23,23,0,1,2,3,4,5,6,7,8,9,10,11,12,13,14,15,16,17,18,19,20,21,22,23],[0,23])])
def law18_Loose.B5:List Nat:=[0,0,0,6,14,30,0,0,192,448,960,0,0,6144,14336,30720,0,0,196608,458752,983040,2097150,4194302,8388607,16777215]
theorem law18_Loose.tab5:rtab .any (opsOf Try.f40 5)=law18_Loose.T5:=by kernel_rfl
theorem law18_Loose.bits5:waitsOk law18_Loose.T5.2 law18_Loose.B5=true:=by kernel_rfl
set_option maxHeartbeats 8000000 in
set_option maxRecDepth 100000 in
theorem law18_Loose.calls (k:Nat) (A0:Option Addr) (c0:Nat) (l0:List (S79)) (r:List (S84)) (w:World) (hr0:Kd.C k79 w A0 l0.length l0) (hc0:l0.length≤c0) (h:law18_Loose.f k l0=some r):
  Calls Try.prog 40 #[.slice A0 l0.length c0] w fun e w'=> ∃v0_:Value,e= .returned (v0_)∧Kd.R k84 84 w' w.heap.size (fun _=>True) v0_ r∧Below w.heap.size w w':=by
 have hu37:=Try.underlying37;have hu84:=Try.underlying84;have HR0:=Aside0.mk hr0;have HC0:=Aside0.mk hc0;clear hr0 hc0;have HB:=am_ (Below.refl w.heap.size w);have H:(law18_Loose.l0 k l0 ([]:List (S84)) 0)=some r:=h;clear h;have H':=Aside0.mk H;clear H;go_enter Try.func40,Try.ntmps40;go_wp2
 go_loopg [3,4] k (fun kq v3 v4 w'=> ∃(x3_1:List (S84)) (x4_1:Int),v4= .int .i64 x4_1∧Aside0 (law18_Loose.l0 kq l0 x3_1 x4_1=some r)∧Aside0 (kq≤k)∧Aside0 (Kd.R k84 84 w' w.heap.size (fun _=>True) v3 x3_1)∧Aside0 (Below w.heap.size w w'))
 case atStart=>exact ⟨(([]:List (S84))),(0),rf_,H',⟨Nat.le_refl _⟩,⟨by first|exact Kd.R_nil _ _ _ _ _|exact Kd.N_nil _ _ _ _ _|exact Kd.V_nil _ _ _ _ _|exact Kd.Q_nil _ _ _ _ _|exact Kd.S_nil _ _ _ _ _⟩,⟨zl0_ HB⟩⟩
 case round=>
  clear H';obtain ⟨x3_1,x4_1,rfl,HA,HK1,HO_3,HB⟩:=hrel
  cases gk with
  |zero=>exact absurd HA.out (by simp [law18_Loose.l0])
  |succ k1=>
   have H:=HA.out;clear HA;simp only [law18_Loose.l0] at H;by_cases c2:x4_1<(l0.length:Int);rotate_left
   ·rw [if_neg c2] at H;have c2b0:=decide_eq_false c2;clear c2;obtain rfl:=Option.some.inj H;go_wp2
    go_ret
    exact ⟨_,by first|rfl|(simp [errW_none,errW_some]<;>rfl)|(simp [*,errW_none,errW_some]<;>rfl),zr_ HO_3,zl0_ HB⟩

   rw [if_pos c2] at H;have c2b0:=decide_eq_true c2;clear c2;replace H:=zif_ H;obtain ⟨c3,H⟩:=H;have c3b0:=decide_eq_true c3;clear c3;replace H:=zif_ H;obtain ⟨c4,H⟩:=H;have LMc4:=Aside0.mk c4;clear c4;obtain ⟨y5,hy5⟩: ∃y_:List (S84),y_=(x3_1++ [(⟨(rd_T79 l0 x4_1).f0,(rd_T79 l0 x4_1).f1,(⟨(rd_T79 l0 x4_1).f2.f0,(rd_T79 l0 x4_1).f2.f1,(rd_T79 l0 x4_1).f2.f2⟩:S37),(rd_T79 l0 x4_1).f5⟩:S84)]):=⟨_,rfl⟩;(first|replace H:=zsb_ hy5 H|rw [←hy5] at H);have Ny5:=Aside0.mk hy5;clear hy5;have H':=Aside0.mk H;clear H;try go_wp2
   replace HO_3:=am_ (Kd.R_drew HO_3.out);replace HB:=am_ (below_drew1 HB.out);have p1:0≤(x4_1:Int):=of_decide_eq_true zq_;have q1:x4_1<(l0.length:Int):=of_decide_eq_true zq_;obtain ⟨ad1,e1,hx1_0,hx1_1,hx1_2,hx1_3,hx1_4,hx1_5,hx1_6,hx1_7,hx1_8,hx1_9,hx1_10,hx1_11⟩:=at_T79 HR0.out x4_1 p1 q1;have hw1_11:=hx1_11;have hw1_10:=hx1_10;have hw1_9:=hx1_9;have hw1_8:=hx1_8;have hw1_7:=hx1_7;have hw1_6:=hx1_6;have hw1_5:=hx1_5;have hw1_4:=hx1_4;have hw1_3:=hx1_3;have hw1_2:=hx1_2;have hw1_1:=hx1_1;have hw1_0:=hx1_0;cases e1;replace hx1_0:=zx12_ HB hx1_0 hx1_1 hx1_2 hx1_3 hx1_4 hx1_5 hx1_6 hx1_7 hx1_8 hx1_9 hx1_10 hx1_11;clear hx1_1 hx1_2 hx1_3 hx1_4 hx1_5 hx1_6 hx1_7 hx1_8 hx1_9 hx1_10 hx1_11;obtain ⟨hx1_0,hx1_1,hx1_2,hx1_3,hx1_4,hx1_5,hx1_6,hx1_7,hx1_8,hx1_9,hx1_10,hx1_11⟩:=hx1_0;replace p1:=eq_true p1;replace q1:=eq_true q1;have p2:0≤(x4_1:Int):=of_decide_eq_true zq_;have q2:x4_1<(l0.length:Int):=of_decide_eq_true zq_;obtain ⟨ad2,e2,hx2_0,hx2_1,hx2_2,hx2_3,hx2_4,hx2_5,hx2_6,hx2_7,hx2_8,hx2_9,hx2_10,hx2_11⟩:=at_T79 HR0.out x4_1 p2 q2;have hw2_11:=hx2_11;have hw2_10:=hx2_10;have hw2_9:=hx2_9;have hw2_8:=hx2_8;have hw2_7:=hx2_7;have hw2_6:=hx2_6;have hw2_5:=hx2_5;have hw2_4:=hx2_4;have hw2_3:=hx2_3;have hw2_2:=hx2_2;have hw2_1:=hx2_1;have hw2_0:=hx2_0;obtain rfl:ad1=ad2:=(by injection e2)
   replace hx2_0:=zx12_ HB hx2_0 hx2_1 hx2_2 hx2_3 hx2_4 hx2_5 hx2_6 hx2_7 hx2_8 hx2_9 hx2_10 hx2_11;clear hx2_1 hx2_2 hx2_3 hx2_4 hx2_5 hx2_6 hx2_7 hx2_8 hx2_9 hx2_10 hx2_11;obtain ⟨hx2_0,hx2_1,hx2_2,hx2_3,hx2_4,hx2_5,hx2_6,hx2_7,hx2_8,hx2_9,hx2_10,hx2_11⟩:=hx2_0;replace p2:=eq_true p2;replace q2:=eq_true q2;have p3:0≤(x4_1:Int):=of_decide_eq_true zq_;have q3:x4_1<(l0.length:Int):=of_decide_eq_true zq_;obtain ⟨ad3,e3,hx3_0,hx3_1,hx3_2,hx3_3,hx3_4,hx3_5,hx3_6,hx3_7,hx3_8,hx3_9,hx3_10,hx3_11⟩:=at_T79 HR0.out x4_1 p3 q3;have hw3_11:=hx3_11;have hw3_10:=hx3_10;have hw3_9:=hx3_9;have hw3_8:=hx3_8;have hw3_7:=hx3_7;have hw3_6:=hx3_6;have hw3_5:=hx3_5;have hw3_4:=hx3_4;have hw3_3:=hx3_3;have hw3_2:=hx3_2;have hw3_1:=hx3_1;have hw3_0:=hx3_0;obtain rfl:ad1=ad3:=(by injection e3);replace hx3_0:=zx12_ HB hx3_0 hx3_1 hx3_2 hx3_3 hx3_4 hx3_5 hx3_6 hx3_7 hx3_8 hx3_9 hx3_10 hx3_11;clear hx3_1 hx3_2 hx3_3 hx3_4 hx3_5 hx3_6 hx3_7 hx3_8 hx3_9 hx3_10 hx3_11;obtain ⟨hx3_0,hx3_1,hx3_2,hx3_3,hx3_4,hx3_5,hx3_6,hx3_7,hx3_8,hx3_9,hx3_10,hx3_11⟩:=hx3_0;replace p3:=eq_true p3;replace q3:=eq_true q3;have p4:0≤(x4_1:Int):=of_decide_eq_true zq_;have q4:x4_1<(l0.length:Int):=of_decide_eq_true zq_;obtain ⟨ad4,e4,hx4_0,hx4_1,hx4_2,hx4_3,hx4_4,hx4_5,hx4_6,hx4_7,hx4_8,hx4_9,hx4_10,hx4_11⟩:=at_T79 HR0.out x4_1 p4 q4;have hw4_11:=hx4_11;have hw4_10:=hx4_10;have hw4_9:=hx4_9;have hw4_8:=hx4_8;have hw4_7:=hx4_7;have hw4_6:=hx4_6;have hw4_5:=hx4_5;have hw4_4:=hx4_4;have hw4_3:=hx4_3;have hw4_2:=hx4_2
   have hw4_1:=hx4_1;have hw4_0:=hx4_0;obtain rfl:ad1=ad4:=(by injection e4);replace hx4_0:=zx12_ HB hx4_0 hx4_1 hx4_2 hx4_3 hx4_4 hx4_5 hx4_6 hx4_7 hx4_8 hx4_9 hx4_10 hx4_11;clear hx4_1 hx4_2 hx4_3 hx4_4 hx4_5 hx4_6 hx4_7 hx4_8 hx4_9 hx4_10 hx4_11;obtain ⟨hx4_0,hx4_1,hx4_2,hx4_3,hx4_4,hx4_5,hx4_6,hx4_7,hx4_8,hx4_9,hx4_10,hx4_11⟩:=hx4_0;replace p4:=eq_true p4;replace q4:=eq_true q4
   refine start_ (n:=25) (S:=fun w'=>w'.cell? (ad1.add ((x4_1).toNat*12))=some (.string ((rd_T79 l0 x4_1).f0))∧w'.cell? ⟨(ad1.add ((x4_1).toNat*12)).block,(ad1.add ((x4_1).toNat*12)).off+1,none⟩=some (.string ((rd_T79 l0 x4_1).f1))∧w'.cell? ⟨(ad1.add ((x4_1).toNat*12)).block,(ad1.add ((x4_1).toNat*12)).off+2,none⟩=some (.int .i64 ((rd_T79 l0 x4_1).f2.f0))∧w'.cell? ⟨(ad1.add ((x4_1).toNat*12)).block,(ad1.add ((x4_1).toNat*12)).off+3,none⟩=some (.int .i64 ((rd_T79 l0 x4_1).f2.f1))∧w'.cell? ⟨(ad1.add ((x4_1).toNat*12)).block,(ad1.add ((x4_1).toNat*12)).off+4,none⟩=some (.int .i64 ((rd_T79 l0 x4_1).f2.f2))∧w'.cell? ⟨(ad1.add ((x4_1).toNat*12)).block,(ad1.add ((x4_1).toNat*12)).off+5,none⟩=some (.int .i64 ((rd_T79 l0 x4_1).f3.f0))∧w'.cell? ⟨(ad1.add ((x4_1).toNat*12)).block,(ad1.add ((x4_1).toNat*12)).off+6,none⟩=some (.int .i64 ((rd_T79 l0 x4_1).f3.f1))∧w'.cell? ⟨(ad1.add ((x4_1).toNat*12)).block,(ad1.add ((x4_1).toNat*12)).off+7,none⟩=some (.int .i64 ((rd_T79 l0 x4_1).f3.f2))∧w'.cell? ⟨(ad1.add ((x4_1).toNat*12)).block,(ad1.add ((x4_1).toNat*12)).off+8,none⟩=some (.int .i64 ((rd_T79 l0 x4_1).f4.f0))∧w'.cell? ⟨(ad1.add ((x4_1).toNat*12)).block,(ad1.add ((x4_1).toNat*12)).off+9,none⟩=some (.int .i64 ((rd_T79 l0 x4_1).f4.f1))∧w'.cell? ⟨(ad1.add ((x4_1).toNat*12)).block,(ad1.add ((x4_1).toNat*12)).off+10,none⟩=some (.int .i64 ((rd_T79 l0 x4_1).f4.f2))∧w'.cell? ⟨(ad1.add ((x4_1).toNat*12)).block,(ad1.add ((x4_1).toNat*12)).off+11,none⟩=some (.int .i64 ((rd_T79 l0 x4_1).f5))∧w'.cell? (ad1.add ((x4_1).toNat*12))=some (.string ((rd_T79 l0 x4_1).f0))∧w'.cell? ⟨(ad1.add ((x4_1).toNat*12)).block,(ad1.add ((x4_1).toNat*12)).off+1,none⟩=some (.string ((rd_T79 l0 x4_1).f1))∧w'.cell? ⟨(ad1.add ((x4_1).toNat*12)).block,(ad1.add ((x4_1).toNat*12)).off+2,none⟩=some (.int .i64 ((rd_T79 l0 x4_1).f2.f0))∧w'.cell? ⟨(ad1.add ((x4_1).toNat*12)).block,(ad1.add ((x4_1).toNat*12)).off+3,none⟩=some (.int .i64 ((rd_T79 l0 x4_1).f2.f1))∧w'.cell? ⟨(ad1.add ((x4_1).toNat*12)).block,(ad1.add ((x4_1).toNat*12)).off+4,none⟩=some (.int .i64 ((rd_T79 l0 x4_1).f2.f2))∧w'.cell? ⟨(ad1.add ((x4_1).toNat*12)).block,(ad1.add ((x4_1).toNat*12)).off+5,none⟩=some (.int .i64 ((rd_T79 l0 x4_1).f3.f0))∧w'.cell? ⟨(ad1.add ((x4_1).toNat*12)).block,(ad1.add ((x4_1).toNat*12)).off+6,none⟩=some (.int .i64 ((rd_T79 l0 x4_1).f3.f1))∧w'.cell? ⟨(ad1.add ((x4_1).toNat*12)).block,(ad1.add ((x4_1).toNat*12)).off+7,none⟩=some (.int .i64 ((rd_T79 l0 x4_1).f3.f2))∧w'.cell? ⟨(ad1.add ((x4_1).toNat*12)).block,(ad1.add ((x4_1).toNat*12)).off+8,none⟩=some (.int .i64 ((rd_T79 l0 x4_1).f4.f0))∧w'.cell? ⟨(ad1.add ((x4_1).toNat*12)).block,(ad1.add ((x4_1).toNat*12)).off+9,none⟩=some (.int .i64 ((rd_T79 l0 x4_1).f4.f1))∧w'.cell? ⟨(ad1.add ((x4_1).toNat*12)).block,(ad1.add ((x4_1).toNat*12)).off+10,none⟩=some (.int .i64 ((rd_T79 l0 x4_1).f4.f2))∧w'.cell? ⟨(ad1.add ((x4_1).toNat*12)).block,(ad1.add ((x4_1).toNat*12)).off+11,none⟩=some (.int .i64 ((rd_T79 l0 x4_1).f5))∧w'.cell? (ad1.add ((x4_1).toNat*12))=some (.string ((rd_T79 l0 x4_1).f0))∧w'.cell? ⟨(ad1.add ((x4_1).toNat*12)).block,(ad1.add ((x4_1).toNat*12)).off+1,none⟩=some (.string ((rd_T79 l0 x4_1).f1))∧w'.cell? ⟨(ad1.add ((x4_1).toNat*12)).block,(ad1.add ((x4_1).toNat*12)).off+2,none⟩=some (.int .i64 ((rd_T79 l0 x4_1).f2.f0))∧w'.cell? ⟨(ad1.add ((x4_1).toNat*12)).block,(ad1.add ((x4_1).toNat*12)).off+3,none⟩=some (.int .i64 ((rd_T79 l0 x4_1).f2.f1))∧w'.cell? ⟨(ad1.add ((x4_1).toNat*12)).block,(ad1.add ((x4_1).toNat*12)).off+4,none⟩=some (.int .i64 ((rd_T79 l0 x4_1).f2.f2))∧w'.cell? ⟨(ad1.add ((x4_1).toNat*12)).block,(ad1.add ((x4_1).toNat*12)).off+5,none⟩=some (.int .i64 ((rd_T79 l0 x4_1).f3.f0))∧w'.cell? ⟨(ad1.add ((x4_1).toNat*12)).block,(ad1.add ((x4_1).toNat*12)).off+6,none⟩=some (.int .i64 ((rd_T79 l0 x4_1).f3.f1))∧w'.cell? ⟨(ad1.add ((x4_1).toNat*12)).block,(ad1.add ((x4_1).toNat*12)).off+7,none⟩=some (.int .i64 ((rd_T79 l0 x4_1).f3.f2))∧w'.cell? ⟨(ad1.add ((x4_1).toNat*12)).block,(ad1.add ((x4_1).toNat*12)).off+8,none⟩=some (.int .i64 ((rd_T79 l0 x4_1).f4.f0))∧w'.cell? ⟨(ad1.add ((x4_1).toNat*12)).block,(ad1.add ((x4_1).toNat*12)).off+9,none⟩=some (.int .i64 ((rd_T79 l0 x4_1).f4.f1))∧w'.cell? ⟨(ad1.add ((x4_1).toNat*12)).block,(ad1.add ((x4_1).toNat*12)).off+10,none⟩=some (.int .i64 ((rd_T79 l0 x4_1).f4.f2))∧w'.cell? ⟨(ad1.add ((x4_1).toNat*12)).block,(ad1.add ((x4_1).toNat*12)).off+11,none⟩=some (.int .i64 ((rd_T79 l0 x4_1).f5))∧w'.cell? (ad1.add ((x4_1).toNat*12))=some (.string ((rd_T79 l0 x4_1).f0))∧w'.cell? ⟨(ad1.add ((x4_1).toNat*12)).block,(ad1.add ((x4_1).toNat*12)).off+1,none⟩=some (.string ((rd_T79 l0 x4_1).f1))∧w'.cell? ⟨(ad1.add ((x4_1).toNat*12)).block,(ad1.add ((x4_1).toNat*12)).off+2,none⟩=some (.int .i64 ((rd_T79 l0 x4_1).f2.f0))∧w'.cell? ⟨(ad1.add ((x4_1).toNat*12)).block,(ad1.add ((x4_1).toNat*12)).off+3,none⟩=some (.int .i64 ((rd_T79 l0 x4_1).f2.f1))∧w'.cell? ⟨(ad1.add ((x4_1).toNat*12)).block,(ad1.add ((x4_1).toNat*12)).off+4,none⟩=some (.int .i64 ((rd_T79 l0 x4_1).f2.f2))∧w'.cell? ⟨(ad1.add ((x4_1).toNat*12)).block,(ad1.add ((x4_1).toNat*12)).off+5,none⟩=some (.int .i64 ((rd_T79 l0 x4_1).f3.f0))∧w'.cell? ⟨(ad1.add ((x4_1).toNat*12)).block,(ad1.add ((x4_1).toNat*12)).off+6,none⟩=some (.int .i64 ((rd_T79 l0 x4_1).f3.f1))∧w'.cell? ⟨(ad1.add ((x4_1).toNat*12)).block,(ad1.add ((x4_1).toNat*12)).off+7,none⟩=some (.int .i64 ((rd_T79 l0 x4_1).f3.f2))∧w'.cell? ⟨(ad1.add ((x4_1).toNat*12)).block,(ad1.add ((x4_1).toNat*12)).off+8,none⟩=some (.int .i64 ((rd_T79 l0 x4_1).f4.f0))∧w'.cell? ⟨(ad1.add ((x4_1).toNat*12)).block,(ad1.add ((x4_1).toNat*12)).off+9,none⟩=some (.int .i64 ((rd_T79 l0 x4_1).f4.f1))∧w'.cell? ⟨(ad1.add ((x4_1).toNat*12)).block,(ad1.add ((x4_1).toNat*12)).off+10,none⟩=some (.int .i64 ((rd_T79 l0 x4_1).f4.f2))∧w'.cell? ⟨(ad1.add ((x4_1).toNat*12)).block,(ad1.add ((x4_1).toNat*12)).off+11,none⟩=some (.int .i64 ((rd_T79 l0 x4_1).f5))) (ds:=[]) (bt_ 25 0) (by kernel_rfl) rfl rfl ⟨(zx_ HB hw1_0:),(zx_ HB hw1_1:),(zx_ HB hw1_2:),(zx_ HB hw1_3:),(zx_ HB hw1_4:),(zx_ HB hw1_5:),(zx_ HB hw1_6:),(zx_ HB hw1_7:),(zx_ HB hw1_8:),(zx_ HB hw1_9:),(zx_ HB hw1_10:),(zx_ HB hw1_11:),(zx_ HB hw2_0:),(zx_ HB hw2_1:),(zx_ HB hw2_2:),(zx_ HB hw2_3:),(zx_ HB hw2_4:),(zx_ HB hw2_5:),(zx_ HB hw2_6:),(zx_ HB hw2_7:),(zx_ HB hw2_8:),(zx_ HB hw2_9:),(zx_ HB hw2_10:),(zx_ HB hw2_11:),(zx_ HB hw3_0:),(zx_ HB hw3_1:),(zx_ HB hw3_2:),(zx_ HB hw3_3:),(zx_ HB hw3_4:),(zx_ HB hw3_5:),(zx_ HB hw3_6:),(zx_ HB hw3_7:),(zx_ HB hw3_8:),(zx_ HB hw3_9:),(zx_ HB hw3_10:),(zx_ HB hw3_11:),(zx_ HB hw4_0:),(zx_ HB hw4_1:),(zx_ HB hw4_2:),(zx_ HB hw4_3:),(zx_ HB hw4_4:),(zx_ HB hw4_5:),(zx_ HB hw4_6:),(zx_ HB hw4_7:),(zx_ HB hw4_8:),(zx_ HB hw4_9:),(zx_ HB hw4_10:),(zx_ HB hw4_11:)⟩ (fun hHeld=> ?_);refine with_tabW law18_Loose.tab5 law18_Loose.bits5 (fun HT_ HW_=> ?_)
   generalize wr.drew=w5 at HO_3 HB hx1_0 hx1_1 hx1_10 hx1_11 hx1_2 hx1_3 hx1_4 hx1_5 hx1_6 hx1_7 hx1_8 hx1_9 hx2_0 hx2_1 hx2_10 hx2_11 hx2_2 hx2_3 hx2_4 hx2_5 hx2_6 hx2_7 hx2_8 hx2_9 hx3_0 hx3_1 hx3_10 hx3_11 hx3_2 hx3_3 hx3_4 hx3_5 hx3_6 hx3_7 hx3_8 hx3_9 hx4_0 hx4_1 hx4_10 hx4_11 hx4_2 hx4_3 hx4_4 hx4_5 hx4_6 hx4_7 hx4_8 hx4_9 hHeld ⊢;refine pu_ (i:=0) (N:=some 11) (bt_ 25 1) HT_ ?_;refine pu_ (i:=1) (N:=some 12) (bt_ 25 3) HT_ ?_;refine pu_ (i:=2) (N:=some 13) (bt_ 25 7) HT_ ?_;refine pu_ (i:=3) (N:=some 14) (bt_ 25 15) HT_ ?_;refine pu_ (i:=4) (N:=some 15) (bt_ 25 31) HT_ ?_;refine pu_ (i:=6) (N:=some 17) (bt_ 25 95) HT_ ?_;refine pu_ (i:=7) (N:=some 18) (bt_ 25 223) HT_ ?_;refine pu_ (i:=8) (N:=some 19) (bt_ 25 479) HT_ ?_;refine pu_ (i:=9) (N:=some 20) (bt_ 25 991) HT_ ?_;refine pu_ (i:=11) (N:=some 22) (bt_ 25 3039) HT_ ?_;refine pu_ (i:=12) (N:=some 23) (bt_ 25 7135) HT_ ?_;refine pu_ (i:=13) (N:=some 24) (bt_ 25 15327) HT_ ?_;refine pu_ (i:=14) (N:=some 25) (bt_ 25 31711) HT_ ?_;refine pu_ (i:=16) (N:=some 27) (bt_ 25 97247) HT_ ?_;refine pu_ (i:=17) (N:=some 28) (bt_ 25 228319) HT_ ?_;refine pu_ (i:=18) (N:=some 29) (bt_ 25 490463) HT_ ?_;refine pu_ (i:=19) (N:=some 30) (bt_ 25 1014751) HT_ ?_;refine tk_ (i:=5) (N:=some 16) (bt_ 25 1014783) HT_ HW_ hHeld ?_;refine tk_ (i:=10) (N:=some 21) (bt_ 25 1015807) HT_ HW_ hHeld ?_;refine tk_ (i:=15) (N:=some 26) (bt_ 25 1048575) HT_ HW_ hHeld ?_;refine tk_ (i:=20) (N:=some 31) (bt_ 25 2097151) HT_ HW_ hHeld ?_
   refine pu_ (i:=21) (N:=some 32) (bt_ 25 4194303) HT_ ?_;refine on_ (i:=22) (N:=some 33) (bt_ 25 8388607) HT_ (fun K hK=> ?_);refine value_ (w1:= ?_) (v:= ?_) (by rfl) rfl ?_ ?_
   rotate_left 2
   ·go_simp
    constructor
    ·rfl
    rfl
   refine hK.out _ _ ⟨(World.cell?_alloc_lt _ _ _ (World.block_lt_of_cell? _ _ ((zx_ HB hw1_0)))).trans ((zx_ HB hw1_0)),(World.cell?_alloc_lt _ _ _ (World.block_lt_of_cell? _ _ ((zx_ HB hw1_1)))).trans ((zx_ HB hw1_1)),(World.cell?_alloc_lt _ _ _ (World.block_lt_of_cell? _ _ ((zx_ HB hw1_2)))).trans ((zx_ HB hw1_2)),(World.cell?_alloc_lt _ _ _ (World.block_lt_of_cell? _ _ ((zx_ HB hw1_3)))).trans ((zx_ HB hw1_3)),(World.cell?_alloc_lt _ _ _ (World.block_lt_of_cell? _ _ ((zx_ HB hw1_4)))).trans ((zx_ HB hw1_4)),(World.cell?_alloc_lt _ _ _ (World.block_lt_of_cell? _ _ ((zx_ HB hw1_5)))).trans ((zx_ HB hw1_5)),(World.cell?_alloc_lt _ _ _ (World.block_lt_of_cell? _ _ ((zx_ HB hw1_6)))).trans ((zx_ HB hw1_6)),(World.cell?_alloc_lt _ _ _ (World.block_lt_of_cell? _ _ ((zx_ HB hw1_7)))).trans ((zx_ HB hw1_7)),(World.cell?_alloc_lt _ _ _ (World.block_lt_of_cell? _ _ ((zx_ HB hw1_8)))).trans ((zx_ HB hw1_8)),(World.cell?_alloc_lt _ _ _ (World.block_lt_of_cell? _ _ ((zx_ HB hw1_9)))).trans ((zx_ HB hw1_9)),(World.cell?_alloc_lt _ _ _ (World.block_lt_of_cell? _ _ ((zx_ HB hw1_10)))).trans ((zx_ HB hw1_10)),(World.cell?_alloc_lt _ _ _ (World.block_lt_of_cell? _ _ ((zx_ HB hw1_11)))).trans ((zx_ HB hw1_11)),(World.cell?_alloc_lt _ _ _ (World.block_lt_of_cell? _ _ ((zx_ HB hw2_0)))).trans ((zx_ HB hw2_0)),(World.cell?_alloc_lt _ _ _ (World.block_lt_of_cell? _ _ ((zx_ HB hw2_1)))).trans ((zx_ HB hw2_1)),(World.cell?_alloc_lt _ _ _ (World.block_lt_of_cell? _ _ ((zx_ HB hw2_2)))).trans ((zx_ HB hw2_2)),(World.cell?_alloc_lt _ _ _ (World.block_lt_of_cell? _ _ ((zx_ HB hw2_3)))).trans ((zx_ HB hw2_3)),(World.cell?_alloc_lt _ _ _ (World.block_lt_of_cell? _ _ ((zx_ HB hw2_4)))).trans ((zx_ HB hw2_4)),(World.cell?_alloc_lt _ _ _ (World.block_lt_of_cell? _ _ ((zx_ HB hw2_5)))).trans ((zx_ HB hw2_5)),(World.cell?_alloc_lt _ _ _ (World.block_lt_of_cell? _ _ ((zx_ HB hw2_6)))).trans ((zx_ HB hw2_6)),(World.cell?_alloc_lt _ _ _ (World.block_lt_of_cell? _ _ ((zx_ HB hw2_7)))).trans ((zx_ HB hw2_7)),(World.cell?_alloc_lt _ _ _ (World.block_lt_of_cell? _ _ ((zx_ HB hw2_8)))).trans ((zx_ HB hw2_8)),(World.cell?_alloc_lt _ _ _ (World.block_lt_of_cell? _ _ ((zx_ HB hw2_9)))).trans ((zx_ HB hw2_9)),(World.cell?_alloc_lt _ _ _ (World.block_lt_of_cell? _ _ ((zx_ HB hw2_10)))).trans ((zx_ HB hw2_10)),(World.cell?_alloc_lt _ _ _ (World.block_lt_of_cell? _ _ ((zx_ HB hw2_11)))).trans ((zx_ HB hw2_11)),(World.cell?_alloc_lt _ _ _ (World.block_lt_of_cell? _ _ ((zx_ HB hw3_0)))).trans ((zx_ HB hw3_0)),(World.cell?_alloc_lt _ _ _ (World.block_lt_of_cell? _ _ ((zx_ HB hw3_1)))).trans ((zx_ HB hw3_1)),(World.cell?_alloc_lt _ _ _ (World.block_lt_of_cell? _ _ ((zx_ HB hw3_2)))).trans ((zx_ HB hw3_2)),(World.cell?_alloc_lt _ _ _ (World.block_lt_of_cell? _ _ ((zx_ HB hw3_3)))).trans ((zx_ HB hw3_3)),(World.cell?_alloc_lt _ _ _ (World.block_lt_of_cell? _ _ ((zx_ HB hw3_4)))).trans ((zx_ HB hw3_4)),(World.cell?_alloc_lt _ _ _ (World.block_lt_of_cell? _ _ ((zx_ HB hw3_5)))).trans ((zx_ HB hw3_5)),(World.cell?_alloc_lt _ _ _ (World.block_lt_of_cell? _ _ ((zx_ HB hw3_6)))).trans ((zx_ HB hw3_6)),(World.cell?_alloc_lt _ _ _ (World.block_lt_of_cell? _ _ ((zx_ HB hw3_7)))).trans ((zx_ HB hw3_7)),(World.cell?_alloc_lt _ _ _ (World.block_lt_of_cell? _ _ ((zx_ HB hw3_8)))).trans ((zx_ HB hw3_8)),(World.cell?_alloc_lt _ _ _ (World.block_lt_of_cell? _ _ ((zx_ HB hw3_9)))).trans ((zx_ HB hw3_9)),(World.cell?_alloc_lt _ _ _ (World.block_lt_of_cell? _ _ ((zx_ HB hw3_10)))).trans ((zx_ HB hw3_10)),(World.cell?_alloc_lt _ _ _ (World.block_lt_of_cell? _ _ ((zx_ HB hw3_11)))).trans ((zx_ HB hw3_11)),(World.cell?_alloc_lt _ _ _ (World.block_lt_of_cell? _ _ ((zx_ HB hw4_0)))).trans ((zx_ HB hw4_0)),(World.cell?_alloc_lt _ _ _ (World.block_lt_of_cell? _ _ ((zx_ HB hw4_1)))).trans ((zx_ HB hw4_1)),(World.cell?_alloc_lt _ _ _ (World.block_lt_of_cell? _ _ ((zx_ HB hw4_2)))).trans ((zx_ HB hw4_2)),(World.cell?_alloc_lt _ _ _ (World.block_lt_of_cell? _ _ ((zx_ HB hw4_3)))).trans ((zx_ HB hw4_3)),(World.cell?_alloc_lt _ _ _ (World.block_lt_of_cell? _ _ ((zx_ HB hw4_4)))).trans ((zx_ HB hw4_4)),(World.cell?_alloc_lt _ _ _ (World.block_lt_of_cell? _ _ ((zx_ HB hw4_5)))).trans ((zx_ HB hw4_5)),(World.cell?_alloc_lt _ _ _ (World.block_lt_of_cell? _ _ ((zx_ HB hw4_6)))).trans ((zx_ HB hw4_6)),(World.cell?_alloc_lt _ _ _ (World.block_lt_of_cell? _ _ ((zx_ HB hw4_7)))).trans ((zx_ HB hw4_7)),(World.cell?_alloc_lt _ _ _ (World.block_lt_of_cell? _ _ ((zx_ HB hw4_8)))).trans ((zx_ HB hw4_8)),(World.cell?_alloc_lt _ _ _ (World.block_lt_of_cell? _ _ ((zx_ HB hw4_9)))).trans ((zx_ HB hw4_9)),(World.cell?_alloc_lt _ _ _ (World.block_lt_of_cell? _ _ ((zx_ HB hw4_10)))).trans ((zx_ HB hw4_10)),(World.cell?_alloc_lt _ _ _ (World.block_lt_of_cell? _ _ ((zx_ HB hw4_11)))).trans ((zx_ HB hw4_11))⟩ (fun hHeld=> ?_)
   clear hK K;refine no_ (N:=some 33) ?_;refine on_ (i:=23) (N:=some 34) (bt_ 25 16777215) HT_ (fun K hK=> ?_);refine Kd.R_append_step k84 (w0:=w) w.heap.size (by rfl) (.tmp 11) (.tmp 33) 53 84 (.agg #[(.string ⟨#[]⟩),(.string ⟨#[]⟩),(.int .i64 0),(.int .i64 0),(.int .i64 0),(.int .i64 0)]) 64 rfl Try.underlying53 info84 rfl (by decide) (by omega) u3 x3_1 (⟨(rd_T79 l0 x4_1).f0,(rd_T79 l0 x4_1).f1,(⟨(rd_T79 l0 x4_1).f2.f0,(rd_T79 l0 x4_1).f2.f1,(rd_T79 l0 x4_1).f2.f2⟩:S37),(rd_T79 l0 x4_1).f5⟩:S84) [.string ((rd_T79 l0 x4_1).f0), .string ((rd_T79 l0 x4_1).f1), .int .i64 ((rd_T79 l0 x4_1).f2.f0), .int .i64 ((rd_T79 l0 x4_1).f2.f1), .int .i64 ((rd_T79 l0 x4_1).f2.f2), .int .i64 ((rd_T79 l0 x4_1).f5)] (fun _=>True) (fun _=>False) rfl rfl ?aP (fun _ hk=>hk.elim) ?aF ?aO ?aB ?aS ?aL ?_;(case aP=>exact k84_mkM _ _ _ (⟨(rd_T79 l0 x4_1).f0,(rd_T79 l0 x4_1).f1,(⟨(rd_T79 l0 x4_1).f2.f0,(rd_T79 l0 x4_1).f2.f1,(rd_T79 l0 x4_1).f2.f2⟩:S37),(rd_T79 l0 x4_1).f5⟩:S84));(case aB=>exact (zl0_ HB));(case aF=>exact (fun _ _=>trivial));(case aO=>exact (zr_ HO_3));(case aS=>exact (below_size (zl0_ HB)));(case aL=>have:=LMc4.out;omega);intro v6 w6 ho hb hg hat;rw [←Ny5.out] at ho;have n0_:=am_ (hb);have n1_:=am_ (ho);clear HB HO_3;have HB:=n0_;have HO7:=n1_;clear n0_ n1_ ho hb hg hat
   refine hK.out _ _ ⟨(zx_ HB hw1_0:),(zx_ HB hw1_1:),(zx_ HB hw1_2:),(zx_ HB hw1_3:),(zx_ HB hw1_4:),(zx_ HB hw1_5:),(zx_ HB hw1_6:),(zx_ HB hw1_7:),(zx_ HB hw1_8:),(zx_ HB hw1_9:),(zx_ HB hw1_10:),(zx_ HB hw1_11:),(zx_ HB hw2_0:),(zx_ HB hw2_1:),(zx_ HB hw2_2:),(zx_ HB hw2_3:),(zx_ HB hw2_4:),(zx_ HB hw2_5:),(zx_ HB hw2_6:),(zx_ HB hw2_7:),(zx_ HB hw2_8:),(zx_ HB hw2_9:),(zx_ HB hw2_10:),(zx_ HB hw2_11:),(zx_ HB hw3_0:),(zx_ HB hw3_1:),(zx_ HB hw3_2:),(zx_ HB hw3_3:),(zx_ HB hw3_4:),(zx_ HB hw3_5:),(zx_ HB hw3_6:),(zx_ HB hw3_7:),(zx_ HB hw3_8:),(zx_ HB hw3_9:),(zx_ HB hw3_10:),(zx_ HB hw3_11:),(zx_ HB hw4_0:),(zx_ HB hw4_1:),(zx_ HB hw4_2:),(zx_ HB hw4_3:),(zx_ HB hw4_4:),(zx_ HB hw4_5:),(zx_ HB hw4_6:),(zx_ HB hw4_7:),(zx_ HB hw4_8:),(zx_ HB hw4_9:),(zx_ HB hw4_10:),(zx_ HB hw4_11:)⟩ (fun hHeld=> ?_);clear hK K;refine no_ (N:=some 34) ?_;refine pu_ (i:=24) (N:=some 3) (bt_ 25 33554431) HT_ ?_;refine done_ (done_of HT_.out (by kernel_rfl)) ?_;try go_wp2
   go_roundg k1
   case measure=>have:=HK1.out;omega
   case rel=>exact ⟨(y5),(wrap64 (x4_1+1)),rf_,H',⟨by have:=HK1.out;omega⟩,am_ (zr_ HO7),⟨zl0_ HB⟩⟩
def law19_TrialCuts.j0:Nat→List Int→List Int→Int→Bool→Option (Bool)
 |0,_,_,_,_=>none
 |k+1,x0,x1,x2,x20=>if x20=true then ((law19_awake.f k).bind fun t1=>(some t1)) else ((law12_Make.f k x0).bind fun t2=>((law18_Empty.f k t2).bind fun t5=>((law11_Make.f k x1 false).bind fun t8=>((law18_Loose.f k t5).bind fun t11=>((r16_Steps.f k t8 t11 t5).bind fun bt14=>(if (wrap64 ((bt14.1.length:Int)+1))=0 then (none) else ((trial_Steps.f k t5 bt14.1).bind fun bt19=>(if 0≤(Int.tmod (wrap64 (x2)) (wrap64 ((bt14.1.length:Int)+1))) then (if (Int.tmod (wrap64 (x2)) (wrap64 ((bt14.1.length:Int)+1)))≤(bt14.1.length:Int) then ((trial_Steps.f k t5 (bt14.1.take ((Int.tmod (wrap64 (x2)) (wrap64 ((bt14.1.length:Int)+1))):Int).toNat)).bind fun bt29=>((trial_Steps.f k bt29.1 (bt14.1.drop ((Int.tmod (wrap64 (x2)) (wrap64 ((bt14.1.length:Int)+1))):Int).toNat)).bind fun bt39=>(if bt14.2=0 then ((law1_Num.f bt19.2.2).bind fun t45=>(if t45=0 then (if bt19.2.1=(bt14.1.length:Int) then (if bt29.2.1=(Int.tmod (wrap64 (x2)) (wrap64 ((bt14.1.length:Int)+1))) then (if bt39.2.1=(wrap64 ((bt14.1.length:Int) - (Int.tmod (wrap64 (x2)) (wrap64 ((bt14.1.length:Int)+1))))) then ((r10_SameItems.f k bt19.1 bt39.1).bind fun t46=>(if t46=true then ((law19_awake.f k).bind fun t47=>(some t47)) else (none))) else (none)) else (none)) else (none)) else (none))) else (none)))) else (none)) else (none)))))))))
def law19_TrialCuts.f (k:Nat) (l0:List Int) (l1:List Int) (a2:Int):Option (Bool):=if (l0.length:Int)>60 then (law19_TrialCuts.j0 k l0 l1 a2 true) else (law19_TrialCuts.j0 k l0 l1 a2 (decide ((l1.length:Int)>60)))
theorem law19_TrialCuts.mono_l: ∀k,(∀y0 y1 y2 y3,LeO (law19_TrialCuts.j0 k y0 y1 y2 y3) (law19_TrialCuts.j0 (k+1) y0 y1 y2 y3))
 |0=>fun _ _ _ _ r h=>by simp [law19_TrialCuts.j0] at h
 |k+1=>by
  have ih0:=law19_TrialCuts.mono_l k;intro y0 y1 y2 y3;unfold law19_TrialCuts.j0
  repeat' with_reducible first|apply ih0|apply law11_Make.mono|apply law12_Make.mono|apply law18_Empty.mono|apply law18_Loose.mono|apply law19_awake.mono|apply r10_SameItems.mono|apply r16_Steps.mono|apply trial_Steps.mono|apply LeO.refl|apply LeO.none|apply LeO.ite|refine LeO.bind ?_ fun _=> ?_
theorem law19_TrialCuts.mono: ∀a0 a1 a2 k,LeO (law19_TrialCuts.f k a0 a1 a2) (law19_TrialCuts.f (k+1) a0 a1 a2):=by
 intro a0 a1 a2 k;have ih0:=law19_TrialCuts.mono_l k;unfold law19_TrialCuts.f
 repeat' with_reducible first|apply ih0|apply law11_Make.mono|apply law12_Make.mono|apply law18_Empty.mono|apply law18_Loose.mono|apply law19_awake.mono|apply r10_SameItems.mono|apply r16_Steps.mono|apply trial_Steps.mono|apply LeO.refl|apply LeO.none|apply LeO.ite|refine LeO.bind ?_ fun _=> ?_
def law19_TrialCuts.T8:Bool×List (List Nat×List Nat):=(true,[([],[]),([0],[0]),([],[]),([2],[2]),([],[]),([3,4],[3,4]),([1,5],[1,5]),([],[]),([7,6,6,0,1,2,3,4,5,6,7],[6,7])])
def law19_TrialCuts.B8:List Nat:=[0,1,0,4,0,28,63,0,255]
theorem law19_TrialCuts.tab8:rtab .any (opsOf Try.f8 8)=law19_TrialCuts.T8:=by kernel_rfl
theorem law19_TrialCuts.bits8:waitsOk law19_TrialCuts.T8.2 law19_TrialCuts.B8=true:=by kernel_rfl
set_option maxHeartbeats 80000000 in
set_option maxRecDepth 100000 in
theorem law19_TrialCuts.calls (k:Nat) (A0:Option Addr) (c0:Nat) (l0:List Int) (A1:Option Addr) (c1:Nat) (l1:List Int) (a2:Int) (r:Bool) (w:World) (hr0:Kd.C (Kd.int .u8) w A0 l0.length l0) (hc0:l0.length≤c0) (hr1:Kd.C (Kd.int .u8) w A1 l1.length l1) (hc1:l1.length≤c1) (h:law19_TrialCuts.f k l0 l1 a2=some r):
  Calls Try.prog 8 #[.slice A0 l0.length c0, .slice A1 l1.length c1, .int .u8 a2] w fun e w'=>e= .returned (.bool r)∧Below w.heap.size w w':=by
 have hu51:=Try.underlying51;have hu56:=Try.underlying56;have HR0:=Aside0.mk hr0;have HC0:=Aside0.mk hc0;clear hr0 hc0;have HR1:=Aside0.mk hr1;have HC1:=Aside0.mk hc1;clear hr1 hc1;have HB:=am_ (Below.refl w.heap.size w);have H:(if (l0.length:Int)>60 then (law19_TrialCuts.j0 k l0 l1 a2 true) else (law19_TrialCuts.j0 k l0 l1 a2 (decide ((l1.length:Int)>60))))=some r:=h;clear h;have HC4:=Aside0.mk H;clear H;go_enter Try.func8,Try.ntmps8;go_upto_region 1 with (fail)
 go_cut [20] (fun v20 wc=> ∃(kq:Nat) (x20_3:Bool),v20= .bool x20_3∧Aside0 (law19_TrialCuts.j0 kq l0 l1 a2 x20_3=some r)∧Aside0 (kq≤k)∧Aside0 (Below w.heap.size w wc))
 case first=>
  have H:=HC4.out;clear HC4;by_cases c5:(l0.length:Int)>60
  ·rw [if_pos c5] at H;have c5b0:decide (60<(l0.length:Int))=true:=decide_eq_true c5;have c5b1:decide (60<l0.length)=true:=decide_eq_true (by omega);clear c5;(first|rw [c5b0]|(simp only [i64_w,i32_w];rw [c5b0])|skip);have H':=Aside0.mk H;clear H;go_wp2
   go_meet
   case rel=>exact ⟨_,(true),rf_,H',⟨by first|omega|exact Nat.le_refl _⟩,⟨zl0_ HB⟩⟩
  rw [if_neg c5] at H;have c5b0:decide (60<(l0.length:Int))=false:=decide_eq_false c5;have c5b1:decide (60<l0.length)=false:=decide_eq_false (by omega);clear c5;(first|rw [c5b0]|(simp only [i64_w,i32_w];rw [c5b0])|skip);have H':=Aside0.mk H;clear H;go_wp2
  go_meet
  case rel=>exact ⟨_,(decide ((l1.length:Int)>60)),rf_,H',⟨by first|omega|exact Nat.le_refl _⟩,⟨zl0_ HB⟩⟩
 case rest=>
  clear HC4;obtain ⟨kq,x20_3,rfl,HA,HJ3,HB⟩:=hcut
  cases kq with
  |zero=>exact absurd HA.out (by simp [law19_TrialCuts.j0])
  |succ kj3=>
   have H:=HA.out;clear HA;simp only [law19_TrialCuts.j0] at H;by_cases c6:x20_3=true
   ·subst c6;rw [if_pos rfl] at H;replace H:=zbd_ H;obtain ⟨t1,A7,H⟩:=H;try dsimp only at H
    obtain rfl:=Option.some.inj H;go_wp2_with (first|((with_reducible refine gate_callee (f:=36) rfl ?_);refine gl_ (some 21) Try.func36 #[] ?_;(with_reducible refine (law19_awake.calls kj3 t1 _ A7.out).mono ?_);rintro e w8 ⟨rfl,hb⟩;refine ⟨_,rfl, ?_⟩;replace HB:=am_ (below_step (zl0_ HB) hb);(try clear hb)))
    go_ret
    exact ⟨by first|rfl|(simp [errW_none,errW_some]<;>rfl)|(simp [*,errW_none,errW_some]<;>rfl),zl0_ HB⟩
   replace c6:=Bool.eq_false_iff.mpr c6;subst c6;rw [if_neg (show¬(false=true) by decide)] at H;replace H:=zbd_ H;obtain ⟨t2,A9,H⟩:=H;try dsimp only at H
   replace H:=zbd_ H;obtain ⟨t5,A10,H⟩:=H;try dsimp only at H
   replace H:=zbd_ H;obtain ⟨t8,A11,H⟩:=H;try dsimp only at H
   replace H:=zbd_ H;obtain ⟨t11,A12,H⟩:=H;try dsimp only at H
   replace H:=zbd_ H;obtain ⟨⟨t14,t17⟩,A13,H⟩:=H;try dsimp only at H
   by_cases c14:(wrap64 ((t14.length:Int)+1))=0
   ·rw [if_pos c14] at H;cases H
   rw [if_neg c14] at H;have c14b0:=beq_eq_false_iff_ne.mpr c14;have c14b1:=bne_iff_ne.mpr c14;replace H:=zbd_ H;obtain ⟨⟨t19,t22,t23⟩,A15,H⟩:=H;try dsimp only at H
   obtain ⟨ji16,hji16⟩: ∃j_:Int,(Int.tmod (wrap64 (a2)) (wrap64 ((t14.length:Int)+1)))=j_:=⟨_,rfl⟩;replace H:(if 0≤(ji16) then (if (ji16)≤(t14.length:Int) then ((trial_Steps.f kj3 t5 (t14.take ((ji16):Int).toNat)).bind fun bt29=>((trial_Steps.f kj3 bt29.1 (t14.drop ((ji16):Int).toNat)).bind fun bt39=>(if t17=0 then ((law1_Num.f t23).bind fun t45=>(if t45=0 then (if t22=(t14.length:Int) then (if bt29.2.1=(ji16) then (if bt39.2.1=(wrap64 ((t14.length:Int) - (ji16))) then ((r10_SameItems.f kj3 t19 bt39.1).bind fun t46=>(if t46=true then ((law19_awake.f kj3).bind fun t47=>(some t47)) else (none))) else (none)) else (none)) else (none)) else (none))) else (none)))) else (none)) else (none))=some r:=by first|(rw [hji16] at H;exact H)|(simp only [hji16] at H ⊢;exact H)
   (try rw [hji16] at A9);(try rw [hji16] at A10);(try rw [hji16] at A11);(try rw [hji16] at A12);(try rw [hji16] at A13);(try rw [hji16] at A15);by_cases c17:0≤(ji16);rotate_left
   ·rw [if_neg c17] at H;cases H
   rw [if_pos c17] at H;have c17b0:=eq_true c17;have c17b1:=decide_eq_true c17;clear c17;by_cases c18:(ji16)≤(t14.length:Int);rotate_left
   ·rw [if_neg c18] at H;cases H
   rw [if_pos c18] at H;have c18b0:=eq_true c18;have c18b1:=decide_eq_true c18;clear c18;obtain ⟨y25,hy25⟩: ∃y_:List (S76),y_=(t14.take ((ji16):Int).toNat):=⟨_,rfl⟩;(first|replace H:=zsb_ hy25 H|rw [←hy25] at H);have Ny25:=Aside0.mk hy25;clear hy25;replace H:=zbd_ H;obtain ⟨⟨t29,t32,t33⟩,A19,H⟩:=H;try dsimp only at H
   have c20b0:=eq_true (of_decide_eq_true zq_:0≤(ji16));have c21b0:=eq_true (of_decide_eq_true zq_:(ji16)≤(t14.length:Int));obtain ⟨y35,hy35⟩: ∃y_:List (S76),y_=(t14.drop ((ji16):Int).toNat):=⟨_,rfl⟩;(first|replace H:=zsb_ hy35 H|rw [←hy35] at H);have Ny35:=Aside0.mk hy35;clear hy35;replace H:=zbd_ H;obtain ⟨⟨t39,t42,t43⟩,A22,H⟩:=H;try dsimp only at H
   by_cases c23:t17=0;rotate_left
   ·rw [if_neg c23] at H;cases H
   rw [if_pos c23] at H;have c23b0:=beq_iff_eq.mpr c23;have c23b1:=bne_eq_false_iff_eq.mpr c23;clear c23;replace H:=zbd_ H;obtain ⟨t45,A24,H⟩:=H;try dsimp only at H
   by_cases c25:t45=0;rotate_left
   ·rw [if_neg c25] at H;cases H
   rw [if_pos c25] at H;have c25b0:=beq_iff_eq.mpr c25;have c25b1:=bne_eq_false_iff_eq.mpr c25;clear c25;by_cases c26:t22=(t14.length:Int);rotate_left
   ·rw [if_neg c26] at H;cases H
   rw [if_pos c26] at H;have c26b0:=beq_iff_eq.mpr c26;have c26b1:=bne_eq_false_iff_eq.mpr c26;clear c26;by_cases c27:t32=(ji16);rotate_left
   ·rw [if_neg c27] at H;cases H
   rw [if_pos c27] at H;have c27b0:=beq_iff_eq.mpr c27;have c27b1:=bne_eq_false_iff_eq.mpr c27;clear c27;by_cases c28:t42=(wrap64 ((t14.length:Int) - (ji16)));rotate_left
   ·rw [if_neg c28] at H;cases H
   rw [if_pos c28] at H;have c28b0:=beq_iff_eq.mpr c28;have c28b1:=bne_eq_false_iff_eq.mpr c28;clear c28;replace H:=zbd_ H;obtain ⟨t46,A29,H⟩:=H;try dsimp only at H
   by_cases c30:t46=true;rotate_left
   ·replace c30:=Bool.eq_false_iff.mpr c30;subst c30;have H1:(none)=some r:=by rw [if_neg (show¬(false=true) by decide)] at H;exact H
    cases H1
   subst c30;rw [if_pos rfl] at H;replace H:=zbd_ H;obtain ⟨t47,A31,H⟩:=H;try dsimp only at H
   obtain rfl:=Option.some.inj H
   try go_wp2_with (first|((with_reducible refine gate_callee (f:=38) rfl ?_);refine gl_ (some 23) Try.func38 #[.slice A0 l0.length c0] ?_;(with_reducible refine (law12_Make.calls kj3 _ _ l0 t2 _ ?side1 ?side2 A9.out).mono ?_);(case side1=>exact zc_ (Kd.C_below HR0.out HB.out));(case side2=>exact HC0.out);rintro e w32 ⟨v3,rfl,ho0,hb⟩;refine ⟨_,rfl, ?_⟩;have HO4:=am_ (Kd.R_lower ho0 (below_size (zl0_ HB)));replace HB:=am_ (below_step (zl0_ HB) hb);(try clear hb ho0);obtain ⟨Ao33,co33,eo33⟩:=Kd.R_slice HO4.out;subst eo33)|((with_reducible refine gate_callee (f:=37) rfl ?_);refine gl_ (some 24) Try.func37 #[.slice Ao33 t2.length co33] ?_;(with_reducible refine (law18_Empty.calls kj3 _ _ t2 t5 _ ?side1 ?side2 A10.out).mono ?_);(case side1=>exact zc_ (Kd.R_reads' HO4.out).2.2);(case side2=>exact (Kd.R_reads' HO4.out).2.1);rintro e w34 ⟨v6,rfl,ho0,hb⟩;refine ⟨_,rfl, ?_⟩;have HO7:=am_ (Kd.R_lower (Kd.R_new' ho0 (Kd.R_lt (zr_ HO4))) (below_size (zl0_ HB)));replace HO4:=am_ (Kd.R_elder' (zr_ HO4) (Kd.R_base ho0) hb);replace HB:=am_ (below_step (zl0_ HB) hb);(try clear hb ho0))|((with_reducible refine gate_callee (f:=32) rfl ?_);refine gl_ (some 26) Try.func32 #[.slice A1 l1.length c1, .bool false] ?_;(with_reducible refine (law11_Make.calls kj3 _ _ l1 false t8 _ ?side1 ?side2 A11.out).mono ?_);(case side1=>exact zc_ (Kd.C_below HR1.out HB.out));(case side2=>exact HC1.out);rintro e w35 ⟨v9,rfl,ho0,hb⟩;refine ⟨_,rfl, ?_⟩;replace HO4:=ob_ HO4 hb;replace HO7:=ob_ HO7 hb;have HO10:=am_ (Kd.R_lower ho0 (below_size (zl0_ HB)));replace HB:=am_ (below_step (zl0_ HB) hb);(try clear hb ho0);obtain ⟨Ao36,co36,eo36⟩:=Kd.R_slice HO7.out;subst eo36)|((with_reducible refine gate_callee (f:=40) rfl ?_);refine gl_ (some 28) Try.func40 #[.slice Ao36 t5.length co36] ?_;(with_reducible refine (law18_Loose.calls kj3 _ _ t5 t11 _ ?side1 ?side2 A12.out).mono ?_);(case side1=>exact zc_ (Kd.R_reads' HO7.out).2.2);(case side2=>exact (Kd.R_reads' HO7.out).2.1);rintro e w37 ⟨v12,rfl,ho0,hb⟩;refine ⟨_,rfl, ?_⟩;replace HO4:=ob_ HO4 hb;replace HO7:=ob_ HO7 hb;replace HO10:=ob_ HO10 hb;have HO13:=am_ (Kd.R_lower ho0 (below_size (zl0_ HB)));replace HB:=am_ (below_step (zl0_ HB) hb);(try clear hb ho0);obtain ⟨Ao38,co38,eo38⟩:=Kd.R_slice HO10.out;subst eo38;obtain ⟨Ao39,co39,eo39⟩:=Kd.R_slice HO13.out;subst eo39)|((with_reducible refine gate_callee (f:=39) rfl ?_);refine gl_ (some 30) Try.func39 #[.slice Ao38 t8.length co38, .slice Ao39 t11.length co39, .slice Ao36 t5.length co36] ?_;(with_reducible refine (r16_Steps.calls kj3 _ _ t8 _ _ t11 _ _ t5 t14 t17 _ ?side1 ?side2 ?side3 ?side4 ?side5 ?side6 A13.out).mono ?_);(case side1=>exact zc_ (Kd.R_reads' HO10.out).2.2);(case side2=>exact (Kd.R_reads' HO10.out).2.1);(case side3=>exact zc_ (Kd.R_reads' HO13.out).2.2);(case side4=>exact (Kd.R_reads' HO13.out).2.1);(case side5=>exact zc_ (Kd.R_reads' HO7.out).2.2);(case side6=>exact (Kd.R_reads' HO7.out).2.1);rintro e w40 ⟨v15,rfl,ho0,hb⟩;refine ⟨_,rfl, ?_⟩;replace HO4:=ob_ HO4 hb;replace HO7:=ob_ HO7 hb;replace HO10:=ob_ HO10 hb;replace HO13:=ob_ HO13 hb;have HO16:=am_ (Kd.R_lower ho0 (below_size (zl0_ HB)));replace HB:=am_ (below_step (zl0_ HB) hb);(try clear hb ho0))|((with_reducible refine gate_dst (N:=8) rfl ?_);(try (refine gate_guard (by rfl) ?_;dsimp only));refine bx_ (N:=8) (cs:=#[.slice none 0 0, .int .i64 0]) (t:=51) ?_;intro gb18 hg w41 hbox hb;replace HO4:=ob_ HO4 hb;replace HO7:=ob_ HO7 hb;replace HO10:=ob_ HO10 hb;replace HO13:=ob_ HO13 hb;replace HO16:=ob_ HO16 hb;have BK18:=am_ (hbox);have GE18:=am_ ((zg0_ HB hg:w.heap.size≤gb18));replace HB:=am_ (below_step (zl0_ HB) hb);clear hb hbox hg;obtain ⟨Ao42,co42,eo42⟩:=Kd.R_slice HO16.out;subst eo42;obtain ⟨hcz43_0,hcz43_1⟩:=x2_ BK18;have hfz43_0:=blk_frozen BK18.out 0;have hfz43_1:=blk_frozen BK18.out 1)|((with_reducible refine gate_callee (f:=41) rfl ?_);refine gl_ (some 41) Try.func41 #[.slice Ao36 t5.length co36, .slice Ao42 t14.length co42] ?_;(with_reducible refine (trial_Steps.calls kj3 _ _ t5 _ _ t14 t19 t22 t23 _ ?side1 ?side2 ?side3 ?side4 A15.out).mono ?_);(case side1=>refine (Kd.R_reads' (e:=79) (base:=w.heap.size) (ok:=fun k_=>(True∧some k_≠(.slice Ao33 t2.length co33:Value).ownBlock)) (n:=t5.length) (c:=co36) ?_).2.2;exact (by refine zt_ ?_;exact (Kd.R_mono (Kd.R_far (p:=⟨gb18,1,none⟩) (Kd.R_far (p:=⟨gb18,0,none⟩) (Kd.R_types HO7.out BK18.out (by decide)) (fun _ hk=>hk.2) (.slice Ao42 t14.length co42)) (fun _ hk=>hk.2) (.int .i64 t17)) (fun _ h_=>h_.1))));(case side2=>exact (Kd.R_reads' HO7.out).2.1);(case side3=>refine (Kd.R_reads' (e:=76) (base:=w.heap.size) (ok:=fun k_=>True) (n:=t14.length) (c:=co42) ?_).2.2;exact (by refine zt_ ?_;exact (Kd.R_mono (Kd.R_far (p:=⟨gb18,1,none⟩) (Kd.R_far (p:=⟨gb18,0,none⟩) (Kd.R_types HO16.out BK18.out (by decide)) (fun _ hk=>hk.2) (.slice Ao42 t14.length co42)) (fun _ hk=>hk.2) (.int .i64 t17)) (fun _ h_=>h_.1))));(case side4=>exact (Kd.R_reads' HO16.out).2.1);rintro e w44 ⟨v20,rfl,ho0,hb⟩;refine ⟨_,rfl, ?_⟩;replace HO10:=am_ (Kd.R_below (by refine zt_ ?_;exact (Kd.R_mono (Kd.R_far (p:=⟨gb18,1,none⟩) (Kd.R_far (p:=⟨gb18,0,none⟩) (Kd.R_types HO10.out BK18.out (by decide)) (fun _ hk=>hk.2) (.slice Ao42 t14.length co42)) (fun _ hk=>hk.2) (.int .i64 t17)) (fun _ h_=>h_.1))) hb);replace HO13:=am_ (Kd.R_below (by refine zt_ ?_;exact (Kd.R_mono (Kd.R_far (p:=⟨gb18,1,none⟩) (Kd.R_far (p:=⟨gb18,0,none⟩) (Kd.R_types HO13.out BK18.out (by decide)) (fun _ hk=>hk.2) (.slice Ao42 t14.length co42)) (fun _ hk=>hk.2) (.int .i64 t17)) (fun _ h_=>h_.1))) hb);replace HO16:=am_ (Kd.R_below (by refine zt_ ?_;exact (Kd.R_mono (Kd.R_far (p:=⟨gb18,1,none⟩) (Kd.R_far (p:=⟨gb18,0,none⟩) (Kd.R_types HO16.out BK18.out (by decide)) (fun _ hk=>hk.2) (.slice Ao42 t14.length co42)) (fun _ hk=>hk.2) (.int .i64 t17)) (fun _ h_=>h_.1))) hb);have HO21:=am_ (Kd.R_lower (Kd.R_new' (Kd.R_new' ho0 (Kd.R_lt (by refine zt_ ?_;exact (Kd.R_mono (Kd.R_far (p:=⟨gb18,1,none⟩) (Kd.R_far (p:=⟨gb18,0,none⟩) (Kd.R_types HO4.out BK18.out (by decide)) (fun _ hk=>hk.2) (.slice Ao42 t14.length co42)) (fun _ hk=>hk.2) (.int .i64 t17)) (fun _ h_=>h_.1))))) (Kd.R_lt (by refine zt_ ?_;exact (Kd.R_mono (Kd.R_far (p:=⟨gb18,1,none⟩) (Kd.R_far (p:=⟨gb18,0,none⟩) (Kd.R_types HO7.out BK18.out (by decide)) (fun _ hk=>hk.2) (.slice Ao42 t14.length co42)) (fun _ hk=>hk.2) (.int .i64 t17)) (fun _ h_=>h_.1))))) (below_size (zl1_ HB GE18)));replace HO4:=am_ (Kd.R_elder' (by refine zt_ ?_;exact (Kd.R_mono (Kd.R_far (p:=⟨gb18,1,none⟩) (Kd.R_far (p:=⟨gb18,0,none⟩) (Kd.R_types HO4.out BK18.out (by decide)) (fun _ hk=>hk.2) (.slice Ao42 t14.length co42)) (fun _ hk=>hk.2) (.int .i64 t17)) (fun _ h_=>h_.1))) (Kd.R_base ho0) hb);replace HO7:=am_ (Kd.R_elder' (by refine zt_ ?_;exact (Kd.R_mono (Kd.R_far (p:=⟨gb18,1,none⟩) (Kd.R_far (p:=⟨gb18,0,none⟩) (Kd.R_types HO7.out BK18.out (by decide)) (fun _ hk=>hk.2) (.slice Ao42 t14.length co42)) (fun _ hk=>hk.2) (.int .i64 t17)) (fun _ h_=>h_.1))) (Kd.R_base ho0) hb);replace BK18:=am_ (blk_below (g:=gb18) (o:= .cells #[.slice Ao42 t14.length co42, .int .i64 t17] 51 (0,0)) (zw_ BK18) hb);replace HB:=am_ (below_step (zl1_ HB GE18) hb);(try clear hb ho0))|((with_reducible refine gate_dst (N:=10) rfl ?_);(try (refine gate_guard (by rfl) ?_;dsimp only));refine bx_ (N:=10) (cs:=#[.slice none 0 0, .int .i64 0, .int .i64 0]) (t:=56) ?_;intro gb24 hg w45 hbox hb;replace HO4:=ob_ HO4 hb;replace HO7:=ob_ HO7 hb;replace HO10:=ob_ HO10 hb;replace HO13:=ob_ HO13 hb;replace HO16:=ob_ HO16 hb;replace HO21:=ob_ HO21 hb;have BK24:=am_ (hbox);have GE24:=am_ ((zg1_ HB GE18 hg:w.heap.size≤gb24));replace HB:=am_ (below_step (zl1_ HB GE18) hb);have NB18_24:=am_ ((zn_ BK18 hg:gb18≠gb24));have NB24_18:=am_ ((zm_ BK18 hg:gb24≠gb18));replace BK18:=bb_ BK18 hb;clear hb hbox hg;obtain ⟨Ao46,co46,eo46⟩:=Kd.R_slice HO21.out;subst eo46;have hnb47:=NB24_18.out;have hnc47:=NB18_24.out;obtain ⟨hcz48_0,hcz48_1,hcz48_2⟩:=x3_ BK24;have hfz48_0:=blk_frozen BK24.out 0;have hfz48_1:=blk_frozen BK24.out 1;have hfz48_2:=blk_frozen BK24.out 2)|((with_reducible refine gate_store (t:=56) (p:=10) rfl ?_);refine store_event (t:=56) (p:=10) (v:= ?vo_w49) (w1:=(((w45.setCell ⟨gb24,0,none⟩ (.slice Ao46 t19.length co46)).setCell ⟨gb24,1,none⟩ (.int .i64 t22)).setCell ⟨gb24,2,none⟩ (.int .i64 t23))) ?hg ?ho ?hn ?hr ?_;(case ho=>rfl);(case hg=>rfl);(case hn=>rfl);(case hr=>first|(go_simp;done)|(go_simp;rfl));intro w49 hw;have n0_:Aside0 (Kd.R k79 79 w49 w.heap.size (fun k_=>some k_≠(.slice Ao36 t5.length co36:Value).ownBlock∧some k_≠(.slice Ao46 t19.length co46:Value).ownBlock) (.slice Ao33 t2.length co33) t2):=⟨(by rw [hw];exact (by refine zt_ ?_;exact Kd.R_mono (Kd.R_far (p:=⟨gb24,2,none⟩) (Kd.R_far (p:=⟨gb24,1,none⟩) (Kd.R_far (p:=⟨gb24,0,none⟩) (Kd.R_types HO4.out BK24.out (by decide)) (fun _ hk=>hk.2) (.slice Ao46 t19.length co46)) (fun _ hk=>hk.2) (.int .i64 t22)) (fun _ hk=>hk.2) (.int .i64 t23)) (fun _ hk=>⟨hk.1.1.2,hk.1.2⟩)))⟩;have n1_:Aside0 (Kd.R k79 79 w49 w.heap.size (fun k_=>some k_≠(.slice Ao33 t2.length co33:Value).ownBlock∧some k_≠(.slice Ao46 t19.length co46:Value).ownBlock) (.slice Ao36 t5.length co36) t5):=⟨(by rw [hw];exact (by refine zt_ ?_;exact Kd.R_mono (Kd.R_far (p:=⟨gb24,2,none⟩) (Kd.R_far (p:=⟨gb24,1,none⟩) (Kd.R_far (p:=⟨gb24,0,none⟩) (Kd.R_types HO7.out BK24.out (by decide)) (fun _ hk=>hk.2) (.slice Ao46 t19.length co46)) (fun _ hk=>hk.2) (.int .i64 t22)) (fun _ hk=>hk.2) (.int .i64 t23)) (fun _ hk=>⟨hk.1.1.2,hk.1.2⟩)))⟩;have n2_:Aside0 (Kd.R k39 39 w49 w.heap.size (fun _=>True) (.slice Ao38 t8.length co38) t8):=⟨(by rw [hw];exact (by refine zt_ ?_;exact Kd.R_mono (Kd.R_far (p:=⟨gb24,2,none⟩) (Kd.R_far (p:=⟨gb24,1,none⟩) (Kd.R_far (p:=⟨gb24,0,none⟩) (Kd.R_types HO10.out BK24.out (by decide)) (fun _ hk=>hk.2) (.slice Ao46 t19.length co46)) (fun _ hk=>hk.2) (.int .i64 t22)) (fun _ hk=>hk.2) (.int .i64 t23)) (fun _ hk=>trivial)))⟩;have n3_:Aside0 (Kd.R k84 84 w49 w.heap.size (fun _=>True) (.slice Ao39 t11.length co39) t11):=⟨(by rw [hw];exact (by refine zt_ ?_;exact Kd.R_mono (Kd.R_far (p:=⟨gb24,2,none⟩) (Kd.R_far (p:=⟨gb24,1,none⟩) (Kd.R_far (p:=⟨gb24,0,none⟩) (Kd.R_types HO13.out BK24.out (by decide)) (fun _ hk=>hk.2) (.slice Ao46 t19.length co46)) (fun _ hk=>hk.2) (.int .i64 t22)) (fun _ hk=>hk.2) (.int .i64 t23)) (fun _ hk=>trivial)))⟩;have n4_:Aside0 (Kd.R k76 76 w49 w.heap.size (fun _=>True) (.slice Ao42 t14.length co42) t14):=⟨(by rw [hw];exact (by refine zt_ ?_;exact Kd.R_mono (Kd.R_far (p:=⟨gb24,2,none⟩) (Kd.R_far (p:=⟨gb24,1,none⟩) (Kd.R_far (p:=⟨gb24,0,none⟩) (Kd.R_types HO16.out BK24.out (by decide)) (fun _ hk=>hk.2) (.slice Ao46 t19.length co46)) (fun _ hk=>hk.2) (.int .i64 t22)) (fun _ hk=>hk.2) (.int .i64 t23)) (fun _ hk=>trivial)))⟩;have n5_:Aside0 (Kd.R k79 79 w49 w.heap.size (fun k_=>some k_≠(.slice Ao33 t2.length co33:Value).ownBlock∧some k_≠(.slice Ao36 t5.length co36:Value).ownBlock) (.slice Ao46 t19.length co46) t19):=⟨(by rw [hw];exact (by refine zt_ ?_;exact Kd.R_mono (Kd.R_far (p:=⟨gb24,2,none⟩) (Kd.R_far (p:=⟨gb24,1,none⟩) (Kd.R_far (p:=⟨gb24,0,none⟩) (Kd.R_types HO21.out BK24.out (by decide)) (fun _ hk=>hk.2) (.slice Ao46 t19.length co46)) (fun _ hk=>hk.2) (.int .i64 t22)) (fun _ hk=>hk.2) (.int .i64 t23)) (fun _ hk=>⟨hk.1.1.2,hk.1.2⟩)))⟩;have n6_:Aside0 (w49.heap[gb18]?=some (.cells #[.slice Ao42 t14.length co42, .int .i64 t17] 51 (0,0))):=⟨(by rw [hw];exact (zw_ BK18))⟩;have n7_:Aside0 (w49.heap[gb24]?=some (.cells #[.slice Ao46 t19.length co46, .int .i64 t22, .int .i64 t23] 56 (0,0))):=⟨(by rw [hw];exact (zw_ BK24))⟩;have n8_:Aside0 (Below w.heap.size w w49):=⟨(by rw [hw];exact (zl2_ HB GE18 GE24))⟩;clear hw;clear HO4;clear HO7;clear HO10;clear HO13;clear HO16;clear HO21;clear BK18;clear BK24;clear HB;have HO4:=n0_;have HO7:=n1_;have HO10:=n2_;have HO13:=n3_;have HO16:=n4_;have HO21:=n5_;have BK18:=n6_;have BK24:=n7_;have HB:=n8_;clear n0_ n1_ n2_ n3_ n4_ n5_ n6_ n7_ n8_;obtain ⟨hcz50_0,hcz50_1,hfz50_0,hfz50_1⟩:=y2_ BK18;have q51:((ji16):Int)≤((t14.length:Int):Int):=of_decide_eq_true zq_;obtain ⟨i051,hi051,_,hsz51,_⟩:=info_parts info76;have hroom51:t14.length≤co42:=(Kd.R_reads' HO16.out).2.1;have hC51:Kd.C k76 _ Ao42 t14.length t14:=(Kd.R_reads' HO16.out).2.2;have hcut51:=cut_to (P:=Try.prog) 49 76 .i64 Try.underlying49 hi051 Ao42 t14.length co42 (ji16) (of_decide_eq_true zq_) q51 hroom51;have hr51:=Kd.C_take (m:=((ji16):Int).toNat) hC51 (by omega);have hy51:y25.length=((ji16):Int).toNat:=(by rw [Ny25.out,List.length_take];omega);rw [←Ny25.out] at hr51;rw [←hy51] at hcut51;have HR28:=Aside0.mk hr51;have HC28:=am_ (show y25.length≤co42 from by omega);clear hr51 hC51 hroom51 hi051 hsz51;have KY51:=Aside0.mk hy51;clear hy51;have KL51:=am_ (show ((ji16):Int).toNat≤t14.length from by omega);replace q51:=eq_true q51)|((with_reducible refine gate_callee (f:=41) rfl ?_);refine gl_ (some 47) Try.func41 #[.slice Ao36 t5.length co36, .slice Ao42 y25.length co42] ?_;(with_reducible refine (trial_Steps.calls kj3 _ _ t5 _ _ y25 t29 t32 t33 _ ?side1 ?side2 ?side3 ?side4 A19.out).mono ?_);(case side1=>exact zc_ (Kd.R_reads' HO7.out).2.2);(case side2=>exact (Kd.R_reads' HO7.out).2.1);(case side3=>repeat (first|exact (by repeat (first|(with_reducible exact HR28.out)|(with_reducible refine Kd.C_alloc ?_ _)|(with_reducible refine Kd.C_drewN ?_ _)|(with_reducible refine Kd.C_drew ?_)|exact HR28.out))|(with_reducible refine Kd.C_alloc ?_ _)|(with_reducible refine Kd.C_drewN ?_ _)|(with_reducible refine Kd.C_drew ?_)));(case side4=>exact HC28.out);rintro e w52 ⟨v30,rfl,ho0,hb⟩;refine ⟨_,rfl, ?_⟩;replace HO10:=ob_ HO10 hb;replace HO13:=ob_ HO13 hb;replace HO16:=ob_ HO16 hb;have HO31:=am_ (Kd.R_lower (Kd.R_new' (Kd.R_new' (Kd.R_new' ho0 (Kd.R_lt (zr_ HO4))) (Kd.R_lt (zr_ HO7))) (Kd.R_lt (zr_ HO21))) (below_size (zl2_ HB GE18 GE24)));replace HO4:=am_ (Kd.R_elder' (zr_ HO4) (Kd.R_base ho0) hb);replace HO7:=am_ (Kd.R_elder' (zr_ HO7) (Kd.R_base ho0) hb);replace HO21:=am_ (Kd.R_elder' (zr_ HO21) (Kd.R_base ho0) hb);replace BK18:=bb_ BK18 hb;replace BK24:=bb_ BK24 hb;replace HR28:=am_ (Kd.C_below (by repeat (first|(with_reducible exact HR28.out)|(with_reducible refine Kd.C_alloc ?_ _)|(with_reducible refine Kd.C_drewN ?_ _)|(with_reducible refine Kd.C_drew ?_)|exact HR28.out)) hb);replace HB:=am_ (below_step (zl2_ HB GE18 GE24) hb);(try clear hb ho0))|((with_reducible refine gate_dst (N:=11) rfl ?_);(try (refine gate_guard (by rfl) ?_;dsimp only));refine bx_ (N:=11) (cs:=#[.slice none 0 0, .int .i64 0, .int .i64 0]) (t:=56) ?_;intro gb34 hg w53 hbox hb;replace HO4:=ob_ HO4 hb;replace HO7:=ob_ HO7 hb;replace HO10:=ob_ HO10 hb;replace HO13:=ob_ HO13 hb;replace HO16:=ob_ HO16 hb;replace HO21:=ob_ HO21 hb;replace HO31:=ob_ HO31 hb;replace HR28:=am_ (Kd.C_below (by repeat (first|(with_reducible exact HR28.out)|(with_reducible refine Kd.C_alloc ?_ _)|(with_reducible refine Kd.C_drewN ?_ _)|(with_reducible refine Kd.C_drew ?_)|exact HR28.out)) hb);have BK34:=am_ (hbox);have GE34:=am_ ((zg2_ HB GE18 GE24 hg:w.heap.size≤gb34));replace HB:=am_ (below_step (zl2_ HB GE18 GE24) hb);have NB18_34:=am_ ((zn_ BK18 hg:gb18≠gb34));have NB34_18:=am_ ((zm_ BK18 hg:gb34≠gb18));replace BK18:=bb_ BK18 hb;have NB24_34:=am_ ((zn_ BK24 hg:gb24≠gb34));have NB34_24:=am_ ((zm_ BK24 hg:gb34≠gb24));replace BK24:=bb_ BK24 hb;clear hb hbox hg;obtain ⟨Ao54,co54,eo54⟩:=Kd.R_slice HO31.out;subst eo54;have hnb55:=NB34_18.out;have hnc55:=NB18_34.out;have hnb56:=NB34_24.out;have hnc56:=NB24_34.out;obtain ⟨hcz57_0,hcz57_1,hcz57_2⟩:=x3_ BK34;have hfz57_0:=blk_frozen BK34.out 0;have hfz57_1:=blk_frozen BK34.out 1;have hfz57_2:=blk_frozen BK34.out 2))
   have n0_:Aside0 (Kd.R k79 79 (((w53.setCell ⟨gb34,0,none⟩ (.slice Ao54 t29.length co54)).setCell ⟨gb34,1,none⟩ (.int .i64 t32)).setCell ⟨gb34,2,none⟩ (.int .i64 t33)) w.heap.size (fun k_=>some k_≠(.slice Ao36 t5.length co36:Value).ownBlock∧some k_≠(.slice Ao46 t19.length co46:Value).ownBlock∧some k_≠(.slice Ao54 t29.length co54:Value).ownBlock) (.slice Ao33 t2.length co33) t2):=⟨by (with_reducible repeat (first|apply Kd.R_alloc|apply Kd.R_drewN|apply Kd.R_drew));exact Kd.R_mono (Kd.R_far (p:=⟨gb34,2,none⟩) (Kd.R_far (p:=⟨gb34,1,none⟩) (Kd.R_far (p:=⟨gb34,0,none⟩) (Kd.R_types HO4.out BK34.out (by decide)) (fun _ hk=>hk.2) (.slice Ao54 t29.length co54)) (fun _ hk=>hk.2) (.int .i64 t32)) (fun _ hk=>hk.2) (.int .i64 t33)) (fun _ hk=>⟨hk.1.1.1,⟨hk.1.1.2,hk.1.2⟩⟩)⟩
   have n1_:Aside0 (Kd.R k79 79 (((w53.setCell ⟨gb34,0,none⟩ (.slice Ao54 t29.length co54)).setCell ⟨gb34,1,none⟩ (.int .i64 t32)).setCell ⟨gb34,2,none⟩ (.int .i64 t33)) w.heap.size (fun k_=>some k_≠(.slice Ao33 t2.length co33:Value).ownBlock∧some k_≠(.slice Ao46 t19.length co46:Value).ownBlock∧some k_≠(.slice Ao54 t29.length co54:Value).ownBlock) (.slice Ao36 t5.length co36) t5):=⟨by (with_reducible repeat (first|apply Kd.R_alloc|apply Kd.R_drewN|apply Kd.R_drew));exact Kd.R_mono (Kd.R_far (p:=⟨gb34,2,none⟩) (Kd.R_far (p:=⟨gb34,1,none⟩) (Kd.R_far (p:=⟨gb34,0,none⟩) (Kd.R_types HO7.out BK34.out (by decide)) (fun _ hk=>hk.2) (.slice Ao54 t29.length co54)) (fun _ hk=>hk.2) (.int .i64 t32)) (fun _ hk=>hk.2) (.int .i64 t33)) (fun _ hk=>⟨hk.1.1.1,⟨hk.1.1.2,hk.1.2⟩⟩)⟩;have n2_:Aside0 (Kd.R k39 39 (((w53.setCell ⟨gb34,0,none⟩ (.slice Ao54 t29.length co54)).setCell ⟨gb34,1,none⟩ (.int .i64 t32)).setCell ⟨gb34,2,none⟩ (.int .i64 t33)) w.heap.size (fun _=>True) (.slice Ao38 t8.length co38) t8):=⟨zy_ HO10 BK34⟩;have n3_:Aside0 (Kd.R k84 84 (((w53.setCell ⟨gb34,0,none⟩ (.slice Ao54 t29.length co54)).setCell ⟨gb34,1,none⟩ (.int .i64 t32)).setCell ⟨gb34,2,none⟩ (.int .i64 t33)) w.heap.size (fun _=>True) (.slice Ao39 t11.length co39) t11):=⟨zy_ HO13 BK34⟩
   have n4_:Aside0 (Kd.R k76 76 (((w53.setCell ⟨gb34,0,none⟩ (.slice Ao54 t29.length co54)).setCell ⟨gb34,1,none⟩ (.int .i64 t32)).setCell ⟨gb34,2,none⟩ (.int .i64 t33)) w.heap.size (fun _=>True) (.slice Ao42 t14.length co42) t14):=⟨zy_ HO16 BK34⟩;have n5_:Aside0 (Kd.R k79 79 (((w53.setCell ⟨gb34,0,none⟩ (.slice Ao54 t29.length co54)).setCell ⟨gb34,1,none⟩ (.int .i64 t32)).setCell ⟨gb34,2,none⟩ (.int .i64 t33)) w.heap.size (fun k_=>some k_≠(.slice Ao33 t2.length co33:Value).ownBlock∧some k_≠(.slice Ao36 t5.length co36:Value).ownBlock∧some k_≠(.slice Ao54 t29.length co54:Value).ownBlock) (.slice Ao46 t19.length co46) t19):=⟨by (with_reducible repeat (first|apply Kd.R_alloc|apply Kd.R_drewN|apply Kd.R_drew));exact Kd.R_mono (Kd.R_far (p:=⟨gb34,2,none⟩) (Kd.R_far (p:=⟨gb34,1,none⟩) (Kd.R_far (p:=⟨gb34,0,none⟩) (Kd.R_types HO21.out BK34.out (by decide)) (fun _ hk=>hk.2) (.slice Ao54 t29.length co54)) (fun _ hk=>hk.2) (.int .i64 t32)) (fun _ hk=>hk.2) (.int .i64 t33)) (fun _ hk=>⟨hk.1.1.1,⟨hk.1.1.2,hk.1.2⟩⟩)⟩
   have n6_:Aside0 (Kd.R k79 79 (((w53.setCell ⟨gb34,0,none⟩ (.slice Ao54 t29.length co54)).setCell ⟨gb34,1,none⟩ (.int .i64 t32)).setCell ⟨gb34,2,none⟩ (.int .i64 t33)) w.heap.size (fun k_=>some k_≠(.slice Ao33 t2.length co33:Value).ownBlock∧some k_≠(.slice Ao36 t5.length co36:Value).ownBlock∧some k_≠(.slice Ao46 t19.length co46:Value).ownBlock) (.slice Ao54 t29.length co54) t29):=⟨by (with_reducible repeat (first|apply Kd.R_alloc|apply Kd.R_drewN|apply Kd.R_drew));exact Kd.R_mono (Kd.R_far (p:=⟨gb34,2,none⟩) (Kd.R_far (p:=⟨gb34,1,none⟩) (Kd.R_far (p:=⟨gb34,0,none⟩) (Kd.R_types HO31.out BK34.out (by decide)) (fun _ hk=>hk.2) (.slice Ao54 t29.length co54)) (fun _ hk=>hk.2) (.int .i64 t32)) (fun _ hk=>hk.2) (.int .i64 t33)) (fun _ hk=>⟨hk.1.1.1.2,⟨hk.1.1.2,hk.1.2⟩⟩)⟩;have n7_:Aside0 ((((w53.setCell ⟨gb34,0,none⟩ (.slice Ao54 t29.length co54)).setCell ⟨gb34,1,none⟩ (.int .i64 t32)).setCell ⟨gb34,2,none⟩ (.int .i64 t33)).heap[gb18]?=some (.cells #[.slice Ao42 t14.length co42, .int .i64 t17] 51 (0,0))):=⟨zw_ BK18⟩;have n8_:Aside0 ((((w53.setCell ⟨gb34,0,none⟩ (.slice Ao54 t29.length co54)).setCell ⟨gb34,1,none⟩ (.int .i64 t32)).setCell ⟨gb34,2,none⟩ (.int .i64 t33)).heap[gb24]?=some (.cells #[.slice Ao46 t19.length co46, .int .i64 t22, .int .i64 t23] 56 (0,0))):=⟨zw_ BK24⟩
   have n9_:Aside0 ((((w53.setCell ⟨gb34,0,none⟩ (.slice Ao54 t29.length co54)).setCell ⟨gb34,1,none⟩ (.int .i64 t32)).setCell ⟨gb34,2,none⟩ (.int .i64 t33)).heap[gb34]?=some (.cells #[.slice Ao54 t29.length co54, .int .i64 t32, .int .i64 t33] 56 (0,0))):=⟨zw_ BK34⟩;have n10_:Aside0 (Below w.heap.size w (((w53.setCell ⟨gb34,0,none⟩ (.slice Ao54 t29.length co54)).setCell ⟨gb34,1,none⟩ (.int .i64 t32)).setCell ⟨gb34,2,none⟩ (.int .i64 t33))):=⟨zl3_ HB GE18 GE24 GE34⟩;(try clear HO4);(try clear HO7);(try clear HO10);(try clear HO13);(try clear HO16);(try clear HO21);(try clear HO31);(try clear BK18);(try clear BK24);(try clear BK34);(try clear HB);generalize (((w53.setCell ⟨gb34,0,none⟩ (.slice Ao54 t29.length co54)).setCell ⟨gb34,1,none⟩ (.int .i64 t32)).setCell ⟨gb34,2,none⟩ (.int .i64 t33))=w58 at n0_ n1_ n2_ n3_ n4_ n5_ n6_ n7_ n8_ n9_ n10_ ⊢;have HO4:=n0_;have HO7:=n1_;have HO10:=n2_;have HO13:=n3_;have HO16:=n4_;have HO21:=n5_;have HO31:=n6_;have BK18:=n7_;have BK24:=n8_;have BK34:=n9_;have HB:=n10_;clear n0_ n1_ n2_ n3_ n4_ n5_ n6_ n7_ n8_ n9_ n10_;replace HO4:=am_ (Kd.R_drew HO4.out);replace HO7:=am_ (Kd.R_drew HO7.out);replace HO10:=am_ (Kd.R_drew HO10.out);replace HO13:=am_ (Kd.R_drew HO13.out);replace HO16:=am_ (Kd.R_drew HO16.out);replace HO21:=am_ (Kd.R_drew HO21.out);replace HO31:=am_ (Kd.R_drew HO31.out);replace BK18:=am_ (blk_drew BK18.out);replace BK24:=am_ (blk_drew BK24.out);replace BK34:=am_ (blk_drew BK34.out);replace HB:=am_ (below_drew1 HB.out)
   have q60:((ji16):Int)≤((t14.length:Int):Int):=of_decide_eq_true zq_;obtain ⟨i060,hi060,_,hsz60,_⟩:=info_parts info76;have hroom60:t14.length≤co42:=(Kd.R_reads' HO16.out).2.1;have hC60:Kd.C k76 _ Ao42 t14.length t14:=(Kd.R_reads' HO16.out).2.2;have q060:(0:Int)≤((ji16):Int):=of_decide_eq_true zq_;have hcut60:=cut_from (P:=Try.prog) 49 76 .i64 Try.underlying49 hi060 6 hsz60 Ao42 t14.length co42 (ji16) q060 q60;have hr60:=Kd.C_drop (m:=((ji16):Int).toNat) (c:=co42) hC60 (by omega) hroom60;obtain ⟨A60,hA60⟩: ∃A1,A1=(if co42=((ji16):Int).toNat then Ao42 else (Ao42:Option Addr).map (·.add (((ji16):Int).toNat*6))):=⟨_,rfl⟩;obtain ⟨c60,hc60⟩: ∃c1,c1=co42 - ((ji16):Int).toNat:=⟨_,rfl⟩;have hy60:y35.length=t14.length - ((ji16):Int).toNat:=(by rw [Ny35.out,List.length_drop]<;>omega);rw [show (t14).drop ((ji16):Int).toNat=y35 from Ny35.out.symm] at hr60;replace hr60:Kd.C k76 _ A60 y35.length y35:=(by rw [hA60];exact hr60);rw [←hy60,←hA60,←hc60] at hcut60;have HR38:=Aside0.mk hr60;have HC38:=am_ (show y35.length≤c60 from by rw [hy60,hc60];exact Nat.sub_le_sub_right hroom60 _);clear hr60 hC60 hroom60 hi060 hsz60 hc60;have KY60:=Aside0.mk hy60;have KA60:=Aside0.mk hA60;clear hy60 hA60;have KL60:=am_ (show ((ji16):Int).toNat≤t14.length from by omega);replace q60:=eq_true q60
   refine start_ (n:=9) (S:=fun w'=>w'.cell? ⟨gb34,0,none⟩=some (.slice Ao54 t29.length co54)∧w'.cell? ⟨gb34,1,none⟩=some (.int .i64 t32)∧w'.cell? ⟨gb34,2,none⟩=some (.int .i64 t33)∧w'.cell? ⟨gb18,0,none⟩=some (.slice Ao42 t14.length co42)∧w'.cell? ⟨gb18,1,none⟩=some (.int .i64 t17)) (ds:=[]) (bt_ 9 0) (by kernel_rfl) rfl rfl ⟨(blk_cell BK34.out 0).trans rfl,(blk_cell BK34.out 1).trans rfl,(blk_cell BK34.out 2).trans rfl,(blk_cell BK18.out 0).trans rfl,(blk_cell BK18.out 1).trans rfl⟩ (fun hHeld=> ?_);refine with_tabW law19_TrialCuts.tab8 law19_TrialCuts.bits8 (fun HT_ HW_=> ?_);generalize w58.drew=w59 at HO4 HO7 HO10 HO13 HO16 HO21 HO31 BK18 BK24 BK34 HB HR38 hHeld ⊢;refine pu_ (i:=0) (N:=some 48) (bt_ 9 1) HT_ ?_;refine pu_ (i:=2) (N:=some 50) (bt_ 9 5) HT_ ?_;refine pu_ (i:=4) (N:=some 52) (bt_ 9 21) HT_ ?_;refine tk_ (i:=1) (N:=some 49) (bt_ 9 23) HT_ HW_ hHeld ?_;refine tk_ (i:=3) (N:=some 51) (bt_ 9 31) HT_ HW_ hHeld ?_;refine pu_ (i:=5) (N:=some 53) (bt_ 9 63) HT_ ?_
   refine join_ (σ:=Value×Nat) 1 (bt_ 9 255) (fun s_=> [(54, .agg #[s_.1, .int .i64 t42, .int .i64 t43]),(12, .pointer (some ⟨s_.2,0,none⟩))]) (fun s_ w'=>(w'.cell? ⟨gb34,0,none⟩=some (.slice Ao54 t29.length co54)∧w'.cell? ⟨gb34,1,none⟩=some (.int .i64 t32)∧w'.cell? ⟨gb34,2,none⟩=some (.int .i64 t33)∧w'.cell? ⟨gb18,0,none⟩=some (.slice Ao42 t14.length co42)∧w'.cell? ⟨gb18,1,none⟩=some (.int .i64 t17))∧(Kd.R k39 39 w' w.heap.size (fun _=>True) (.slice Ao38 t8.length co38) t8)∧(Kd.R k84 84 w' w.heap.size (fun _=>True) (.slice Ao39 t11.length co39) t11)∧(Kd.R k76 76 w' w.heap.size (fun _=>True) (.slice Ao42 t14.length co42) t14)∧(Kd.R k79 79 w' w.heap.size (fun k_=>some k_≠(.slice Ao54 t29.length co54:Value).ownBlock∧some k_≠(.slice Ao33 t2.length co33:Value).ownBlock∧some k_≠(s_.1:Value).ownBlock∧some k_≠(.slice Ao36 t5.length co36:Value).ownBlock) (.slice Ao46 t19.length co46) t19)∧(Kd.R k79 79 w' w.heap.size (fun k_=>some k_≠(.slice Ao46 t19.length co46:Value).ownBlock∧some k_≠(.slice Ao33 t2.length co33:Value).ownBlock∧some k_≠(s_.1:Value).ownBlock∧some k_≠(.slice Ao36 t5.length co36:Value).ownBlock) (.slice Ao54 t29.length co54) t29)∧(Kd.R k79 79 w' w.heap.size (fun k_=>some k_≠(.slice Ao46 t19.length co46:Value).ownBlock∧some k_≠(.slice Ao54 t29.length co54:Value).ownBlock∧some k_≠(s_.1:Value).ownBlock∧some k_≠(.slice Ao36 t5.length co36:Value).ownBlock) (.slice Ao33 t2.length co33) t2)∧(Kd.R k79 79 w' w.heap.size (fun k_=>some k_≠(.slice Ao46 t19.length co46:Value).ownBlock∧some k_≠(.slice Ao54 t29.length co54:Value).ownBlock∧some k_≠(.slice Ao33 t2.length co33:Value).ownBlock∧some k_≠(.slice Ao36 t5.length co36:Value).ownBlock) s_.1 t39)∧(Kd.R k79 79 w' w.heap.size (fun k_=>some k_≠(.slice Ao46 t19.length co46:Value).ownBlock∧some k_≠(.slice Ao54 t29.length co54:Value).ownBlock∧some k_≠(.slice Ao33 t2.length co33:Value).ownBlock∧some k_≠(s_.1:Value).ownBlock) (.slice Ao36 t5.length co36) t5)∧(w'.heap[gb18]?=some (.cells #[.slice Ao42 t14.length co42, .int .i64 t17] 51 (0,0)))∧(w'.heap[gb24]?=some (.cells #[.slice Ao46 t19.length co46, .int .i64 t22, .int .i64 t23] 56 (0,0)))∧(w'.heap[gb34]?=some (.cells #[.slice Ao54 t29.length co54, .int .i64 t32, .int .i64 t33] 56 (0,0)))∧(w'.heap[s_.2]?=some (.cells #[.slice none 0 0, .int .i64 0, .int .i64 0] 56 (0,0)))∧(w.heap.size≤s_.2)∧(w.heap.size≤s_.2)∧(gb18≠s_.2)∧(s_.2≠gb18)∧(gb24≠s_.2)∧(s_.2≠gb24)∧(gb34≠s_.2)∧(s_.2≠gb34)∧(Below w.heap.size w w')) ?_ ?_
   rotate_left
   ·intro hCont;refine two_ (i:=6) (j:=7) (Ni:=some 54) (Nj:=some 12) (bt_ 9 127) (bt_ 9 191) rfl rfl rfl rfl (two_of HT_.out (by kernel_rfl)) (by decide) (by decide) (fun K hK=> ?_) (fun K hK=> ?_)
    ·skip
     refine gs_ Try.func41 #[.slice Ao54 t29.length co54, .slice A60 y35.length c60] ?_
     with_reducible refine (trial_Steps.calls kj3 _ _ t29 _ _ y35 t39 t42 t43 _ ?side1 ?side2 ?side3 ?side4 A22.out).mono ?_
     (case side1=>exact zc_ (Kd.R_reads' HO31.out).2.2);(case side2=>exact (Kd.R_reads' HO31.out).2.1);(case side3=>repeat (first|exact (by repeat (first|(with_reducible exact HR38.out)|(with_reducible refine Kd.C_alloc ?_ _)|(with_reducible refine Kd.C_drewN ?_ _)|(with_reducible refine Kd.C_drew ?_)|exact HR38.out))|(with_reducible refine Kd.C_alloc ?_ _)|(with_reducible refine Kd.C_drewN ?_ _)|(with_reducible refine Kd.C_drew ?_)));(case side4=>exact HC38.out);rintro e w61 ⟨v40,rfl,ho0,hb⟩;refine ⟨_,rfl, ?_⟩;replace HO10:=ob_ HO10 hb;replace HO13:=ob_ HO13 hb;replace HO16:=ob_ HO16 hb;have HO41:=am_ (Kd.R_lower (Kd.R_new' (Kd.R_new' (Kd.R_new' (Kd.R_new' ho0 (Kd.R_lt (zr_ HO4))) (Kd.R_lt (zr_ HO7))) (Kd.R_lt (zr_ HO21))) (Kd.R_lt (zr_ HO31))) (below_size (zl3_ HB GE18 GE24 GE34)));replace HO4:=am_ (Kd.R_elder' (zr_ HO4) (Kd.R_base ho0) hb);replace HO7:=am_ (Kd.R_elder' (zr_ HO7) (Kd.R_base ho0) hb);replace HO21:=am_ (Kd.R_elder' (zr_ HO21) (Kd.R_base ho0) hb);replace HO31:=am_ (Kd.R_elder' (zr_ HO31) (Kd.R_base ho0) hb);replace BK18:=bb_ BK18 hb;replace BK24:=bb_ BK24 hb;replace BK34:=bb_ BK34 hb;replace HR38:=am_ (Kd.C_below (by repeat (first|(with_reducible exact HR38.out)|(with_reducible refine Kd.C_alloc ?_ _)|(with_reducible refine Kd.C_drewN ?_ _)|(with_reducible refine Kd.C_drew ?_)|exact HR38.out)) hb);replace HB:=am_ (below_step (zl3_ HB GE18 GE24 GE34) hb);(try clear hb);(try clear hb2);(try clear hk);(try clear hi);(try clear ho0)
     refine hK.out _ _ ⟨(blk_cell BK34.out 0).trans rfl,(blk_cell BK34.out 1).trans rfl,(blk_cell BK34.out 2).trans rfl,(blk_cell BK18.out 0).trans rfl,(blk_cell BK18.out 1).trans rfl⟩ (fun hHeld=> ?_);clear hK K;refine no_ (N:=some 54) ?_;refine on_ (i:=7) (N:=some 12) (bt_ 9 255) HT_ (fun K hK=> ?_);refine box_step ?hg (N:=12) ?hd (cs:=#[.slice none 0 0, .int .i64 0, .int .i64 0]) (t:=56) ?hr ?_;(case hd=>rfl);(case hg=>rfl);(case hr=>first|(go_simp;done)|(go_simp;rfl));intro gb44 hg w62 hbox hb;replace HO4:=ob_ HO4 hb;replace HO7:=ob_ HO7 hb;replace HO10:=ob_ HO10 hb;replace HO13:=ob_ HO13 hb;replace HO16:=ob_ HO16 hb;replace HO21:=ob_ HO21 hb;replace HO31:=ob_ HO31 hb;replace HO41:=ob_ HO41 hb;replace HR38:=am_ (Kd.C_below (by repeat (first|(with_reducible exact HR38.out)|(with_reducible refine Kd.C_alloc ?_ _)|(with_reducible refine Kd.C_drewN ?_ _)|(with_reducible refine Kd.C_drew ?_)|exact HR38.out)) hb);have BK44:=am_ (hbox);have GW44:=am_ ((zg3_ HB GE18 GE24 GE34 hg:w.heap.size≤gb44));have GE44:=am_ ((zg3_ HB GE18 GE24 GE34 hg:w.heap.size≤gb44));replace HB:=am_ (below_step (zl3_ HB GE18 GE24 GE34) hb);have NB18_44:=am_ ((zn_ BK18 hg:gb18≠gb44));have NB44_18:=am_ ((zm_ BK18 hg:gb44≠gb18));replace BK18:=bb_ BK18 hb;have NB24_44:=am_ ((zn_ BK24 hg:gb24≠gb44));have NB44_24:=am_ ((zm_ BK24 hg:gb44≠gb24));replace BK24:=bb_ BK24 hb;have NB34_44:=am_ ((zn_ BK34 hg:gb34≠gb44));have NB44_34:=am_ ((zm_ BK34 hg:gb44≠gb34));replace BK34:=bb_ BK34 hb;clear hb hbox hg
     refine hK.out _ _ ⟨(blk_cell BK34.out 0).trans rfl,(blk_cell BK34.out 1).trans rfl,(blk_cell BK34.out 2).trans rfl,(blk_cell BK18.out 0).trans rfl,(blk_cell BK18.out 1).trans rfl⟩ (fun hHeld=> ?_);clear hK K;refine no_ (N:=some 12) ?_;exact norm_ (by simp only [putAll,Act.put,List.setIfInBounds_toArray,List.set_cons_zero,List.set_cons_succ]) (hCont (v40,gb44) _ ⟨hHeld,(zr_ HO10),(zr_ HO13),(zr_ HO16),(by refine zt_ ?_;exact Kd.R_mono HO21.out (fun _ hk=>⟨hk.1.2.2,⟨hk.1.1,⟨hk.2,hk.1.2.1⟩⟩⟩)),(by refine zt_ ?_;exact Kd.R_mono HO31.out (fun _ hk=>⟨hk.1.2.2,⟨hk.1.1,⟨hk.2,hk.1.2.1⟩⟩⟩)),(by refine zt_ ?_;exact Kd.R_mono HO4.out (fun _ hk=>⟨hk.1.2.1,⟨hk.1.2.2,⟨hk.2,hk.1.1⟩⟩⟩)),(by refine zt_ ?_;exact Kd.R_mono HO41.out (fun _ hk=>⟨hk.1.2,⟨hk.2,⟨hk.1.1.1.2,hk.1.1.2⟩⟩⟩)),(by refine zt_ ?_;exact Kd.R_mono HO7.out (fun _ hk=>⟨hk.1.2.1,⟨hk.1.2.2,⟨hk.1.1,hk.2⟩⟩⟩)),(zb_ BK18),(zb_ BK24),(zb_ BK34),(zb_ BK44),GW44.out,GE44.out,NB18_44.out,NB44_18.out,NB24_44.out,NB44_24.out,NB34_44.out,NB44_34.out,(zl4_ HB GE18 GE24 GE34 GE44)⟩)
    skip
    refine box_step ?hg (N:=12) ?hd (cs:=#[.slice none 0 0, .int .i64 0, .int .i64 0]) (t:=56) ?hr ?_;(case hd=>rfl);(case hg=>rfl);(case hr=>first|(go_simp;done)|(go_simp;rfl));intro gb44 hg w61 hbox hb;replace HO4:=ob_ HO4 hb;replace HO7:=ob_ HO7 hb;replace HO10:=ob_ HO10 hb;replace HO13:=ob_ HO13 hb;replace HO16:=ob_ HO16 hb;replace HO21:=ob_ HO21 hb;replace HO31:=ob_ HO31 hb;replace HR38:=am_ (Kd.C_below (by repeat (first|(with_reducible exact HR38.out)|(with_reducible refine Kd.C_alloc ?_ _)|(with_reducible refine Kd.C_drewN ?_ _)|(with_reducible refine Kd.C_drew ?_)|exact HR38.out)) hb);have BK44:=am_ (hbox);have GW44:=am_ ((zg3_ HB GE18 GE24 GE34 hg:w.heap.size≤gb44));have GE44:=am_ ((zg3_ HB GE18 GE24 GE34 hg:w.heap.size≤gb44));replace HB:=am_ (below_step (zl3_ HB GE18 GE24 GE34) hb);have NB18_44:=am_ ((zn_ BK18 hg:gb18≠gb44));have NB44_18:=am_ ((zm_ BK18 hg:gb44≠gb18));replace BK18:=bb_ BK18 hb;have NB24_44:=am_ ((zn_ BK24 hg:gb24≠gb44));have NB44_24:=am_ ((zm_ BK24 hg:gb44≠gb24));replace BK24:=bb_ BK24 hb;have NB34_44:=am_ ((zn_ BK34 hg:gb34≠gb44));have NB44_34:=am_ ((zm_ BK34 hg:gb44≠gb34));replace BK34:=bb_ BK34 hb;clear hb hbox hg;refine hK.out _ _ ⟨(blk_cell BK34.out 0).trans rfl,(blk_cell BK34.out 1).trans rfl,(blk_cell BK34.out 2).trans rfl,(blk_cell BK18.out 0).trans rfl,(blk_cell BK18.out 1).trans rfl⟩ (fun hHeld=> ?_);clear hK K;refine no_ (N:=some 12) ?_;refine on_ (i:=6) (N:=some 54) (bt_ 9 255) HT_ (fun K hK=> ?_)
    refine gs_ Try.func41 #[.slice Ao54 t29.length co54, .slice A60 y35.length c60] ?_
    with_reducible refine (trial_Steps.calls kj3 _ _ t29 _ _ y35 t39 t42 t43 _ ?side1 ?side2 ?side3 ?side4 A22.out).mono ?_
    (case side1=>exact zc_ (Kd.R_reads' HO31.out).2.2);(case side2=>exact (Kd.R_reads' HO31.out).2.1);(case side3=>repeat (first|exact (by repeat (first|(with_reducible exact HR38.out)|(with_reducible refine Kd.C_alloc ?_ _)|(with_reducible refine Kd.C_drewN ?_ _)|(with_reducible refine Kd.C_drew ?_)|exact HR38.out))|(with_reducible refine Kd.C_alloc ?_ _)|(with_reducible refine Kd.C_drewN ?_ _)|(with_reducible refine Kd.C_drew ?_)));(case side4=>exact HC38.out);rintro e w62 ⟨v40,rfl,ho0,hb⟩;refine ⟨_,rfl, ?_⟩;replace HO10:=ob_ HO10 hb;replace HO13:=ob_ HO13 hb;replace HO16:=ob_ HO16 hb;have HO41:=am_ (Kd.R_lower (Kd.R_new' (Kd.R_new' (Kd.R_new' (Kd.R_new' ho0 (Kd.R_lt (zr_ HO4))) (Kd.R_lt (zr_ HO7))) (Kd.R_lt (zr_ HO21))) (Kd.R_lt (zr_ HO31))) (below_size (zl4_ HB GE18 GE24 GE34 GE44)));replace HO4:=am_ (Kd.R_elder' (zr_ HO4) (Kd.R_base ho0) hb);replace HO7:=am_ (Kd.R_elder' (zr_ HO7) (Kd.R_base ho0) hb);replace HO21:=am_ (Kd.R_elder' (zr_ HO21) (Kd.R_base ho0) hb);replace HO31:=am_ (Kd.R_elder' (zr_ HO31) (Kd.R_base ho0) hb);replace BK18:=bb_ BK18 hb;replace BK24:=bb_ BK24 hb;replace BK34:=bb_ BK34 hb;replace HR38:=am_ (Kd.C_below (by repeat (first|(with_reducible exact HR38.out)|(with_reducible refine Kd.C_alloc ?_ _)|(with_reducible refine Kd.C_drewN ?_ _)|(with_reducible refine Kd.C_drew ?_)|exact HR38.out)) hb);replace BK44:=bb_ BK44 hb;replace HB:=am_ (below_step (zl4_ HB GE18 GE24 GE34 GE44) hb);(try clear hb);(try clear hb2);(try clear hk);(try clear hi)
    (try clear ho0);refine hK.out _ _ ⟨(blk_cell BK34.out 0).trans rfl,(blk_cell BK34.out 1).trans rfl,(blk_cell BK34.out 2).trans rfl,(blk_cell BK18.out 0).trans rfl,(blk_cell BK18.out 1).trans rfl⟩ (fun hHeld=> ?_);clear hK K;refine no_ (N:=some 54) ?_;exact norm_ (by simp only [putAll,Act.put,List.setIfInBounds_toArray,List.set_cons_zero,List.set_cons_succ]) (hCont (v40,gb44) _ ⟨hHeld,(zr_ HO10),(zr_ HO13),(zr_ HO16),(by refine zt_ ?_;exact Kd.R_mono HO21.out (fun _ hk=>⟨hk.1.2.2,⟨hk.1.1,⟨hk.2,hk.1.2.1⟩⟩⟩)),(by refine zt_ ?_;exact Kd.R_mono HO31.out (fun _ hk=>⟨hk.1.2.2,⟨hk.1.1,⟨hk.2,hk.1.2.1⟩⟩⟩)),(by refine zt_ ?_;exact Kd.R_mono HO4.out (fun _ hk=>⟨hk.1.2.1,⟨hk.1.2.2,⟨hk.2,hk.1.1⟩⟩⟩)),(by refine zt_ ?_;exact Kd.R_mono HO41.out (fun _ hk=>⟨hk.1.2,⟨hk.2,⟨hk.1.1.1.2,hk.1.1.2⟩⟩⟩)),(by refine zt_ ?_;exact Kd.R_mono HO7.out (fun _ hk=>⟨hk.1.2.1,⟨hk.1.2.2,⟨hk.1.1,hk.2⟩⟩⟩)),(zb_ BK18),(zb_ BK24),(zb_ BK34),(zb_ BK44),GW44.out,GE44.out,NB18_44.out,NB44_18.out,NB24_44.out,NB44_24.out,NB34_44.out,NB44_34.out,(zl4_ HB GE18 GE24 GE34 GE44)⟩)
   rintro ⟨v40,gb44⟩ w63 ⟨hS_,h0_,h1_,h2_,h3_,h4_,h5_,h6_,h7_,h8_,h9_,h10_,h11_,h12_,h13_,h14_,h15_,h16_,h17_,h18_,h19_,h20_⟩;have n0_:Aside0 (Kd.R k39 39 w63 w.heap.size (fun _=>True) (.slice Ao38 t8.length co38) t8):=⟨h0_⟩;have n1_:Aside0 (Kd.R k84 84 w63 w.heap.size (fun _=>True) (.slice Ao39 t11.length co39) t11):=⟨h1_⟩;have n2_:Aside0 (Kd.R k76 76 w63 w.heap.size (fun _=>True) (.slice Ao42 t14.length co42) t14):=⟨h2_⟩;have n3_:Aside0 (Kd.R k79 79 w63 w.heap.size (fun k_=>some k_≠(.slice Ao54 t29.length co54:Value).ownBlock∧some k_≠(.slice Ao33 t2.length co33:Value).ownBlock∧some k_≠(v40:Value).ownBlock∧some k_≠(.slice Ao36 t5.length co36:Value).ownBlock) (.slice Ao46 t19.length co46) t19):=⟨h3_⟩;have n4_:Aside0 (Kd.R k79 79 w63 w.heap.size (fun k_=>some k_≠(.slice Ao46 t19.length co46:Value).ownBlock∧some k_≠(.slice Ao33 t2.length co33:Value).ownBlock∧some k_≠(v40:Value).ownBlock∧some k_≠(.slice Ao36 t5.length co36:Value).ownBlock) (.slice Ao54 t29.length co54) t29):=⟨h4_⟩;have n5_:Aside0 (Kd.R k79 79 w63 w.heap.size (fun k_=>some k_≠(.slice Ao46 t19.length co46:Value).ownBlock∧some k_≠(.slice Ao54 t29.length co54:Value).ownBlock∧some k_≠(v40:Value).ownBlock∧some k_≠(.slice Ao36 t5.length co36:Value).ownBlock) (.slice Ao33 t2.length co33) t2):=⟨h5_⟩
   have n6_:Aside0 (Kd.R k79 79 w63 w.heap.size (fun k_=>some k_≠(.slice Ao46 t19.length co46:Value).ownBlock∧some k_≠(.slice Ao54 t29.length co54:Value).ownBlock∧some k_≠(.slice Ao33 t2.length co33:Value).ownBlock∧some k_≠(.slice Ao36 t5.length co36:Value).ownBlock) v40 t39):=⟨h6_⟩;have n7_:Aside0 (Kd.R k79 79 w63 w.heap.size (fun k_=>some k_≠(.slice Ao46 t19.length co46:Value).ownBlock∧some k_≠(.slice Ao54 t29.length co54:Value).ownBlock∧some k_≠(.slice Ao33 t2.length co33:Value).ownBlock∧some k_≠(v40:Value).ownBlock) (.slice Ao36 t5.length co36) t5):=⟨h7_⟩;have n8_:Aside0 (w63.heap[gb18]?=some (.cells #[.slice Ao42 t14.length co42, .int .i64 t17] 51 (0,0))):=⟨h8_⟩;have n9_:Aside0 (w63.heap[gb24]?=some (.cells #[.slice Ao46 t19.length co46, .int .i64 t22, .int .i64 t23] 56 (0,0))):=⟨h9_⟩;have n10_:Aside0 (w63.heap[gb34]?=some (.cells #[.slice Ao54 t29.length co54, .int .i64 t32, .int .i64 t33] 56 (0,0))):=⟨h10_⟩;have n11_:Aside0 (w63.heap[gb44]?=some (.cells #[.slice none 0 0, .int .i64 0, .int .i64 0] 56 (0,0))):=⟨h11_⟩;have n12_:Aside0 (w.heap.size≤gb44):=⟨h12_⟩;have n13_:Aside0 (w.heap.size≤gb44):=⟨h13_⟩;have n14_:Aside0 (gb18≠gb44):=⟨h14_⟩;have n15_:Aside0 (gb44≠gb18):=⟨h15_⟩;have n16_:Aside0 (gb24≠gb44):=⟨h16_⟩;have n17_:Aside0 (gb44≠gb24):=⟨h17_⟩;have n18_:Aside0 (gb34≠gb44):=⟨h18_⟩;have n19_:Aside0 (gb44≠gb34):=⟨h19_⟩;have n20_:Aside0 (Below w.heap.size w w63):=⟨h20_⟩
   clear HO4 HO7 HO10 HO13 HO16 HO21 HO31 BK18 BK24 BK34 HB h0_ h1_ h2_ h3_ h4_ h5_ h6_ h7_ h8_ h9_ h10_ h11_ h12_ h13_ h14_ h15_ h16_ h17_ h18_ h19_ h20_;have HO10:=n0_;have HO13:=n1_;have HO16:=n2_;have HO21:=n3_;have HO31:=n4_;have HO4:=n5_;have HO41:=n6_;have HO7:=n7_;have BK18:=n8_;have BK24:=n9_;have BK34:=n10_;have BK44:=n11_;have GW44:=n12_;have GE44:=n13_;have NB18_44:=n14_;have NB44_18:=n15_;have NB24_44:=n16_;have NB44_24:=n17_;have NB34_44:=n18_;have NB44_34:=n19_;have HB:=n20_;clear n0_ n1_ n2_ n3_ n4_ n5_ n6_ n7_ n8_ n9_ n10_ n11_ n12_ n13_ n14_ n15_ n16_ n17_ n18_ n19_ n20_;have hHeld:w63.cell? ⟨gb34,0,none⟩=some (.slice Ao54 t29.length co54)∧w63.cell? ⟨gb34,1,none⟩=some (.int .i64 t32)∧w63.cell? ⟨gb34,2,none⟩=some (.int .i64 t33)∧w63.cell? ⟨gb18,0,none⟩=some (.slice Ao42 t14.length co42)∧w63.cell? ⟨gb18,1,none⟩=some (.int .i64 t17):=hS_;obtain ⟨Ao64,co64,eo64⟩:=Kd.R_slice HO41.out;(first|subst eo64|cases eo64);refine norm_ (a':= ?_) ?_ ?_;rotate_left
   ·simp only [putAll,Act.put,List.setIfInBounds_toArray,List.set_cons_zero,List.set_cons_succ]
    rfl
   refine on_ (i:=8) (N:=none) (bt_ 9 511) HT_ (fun K hK=> ?_);have hs65:w63.cell? ⟨gb44,0,none⟩=some (.slice none 0 0):=zz_ BK44 0;have hfs65:=blk_frozen BK44.out 0;have hns65_0:=NB18_44.out;have hns65_1:=NB24_44.out;have hns65_2:=NB34_44.out;have hms65_0:=NB44_18.out;have hms65_1:=NB44_24.out;have hms65_2:=NB44_34.out;have hs66:w63.cell? ⟨gb44,1,none⟩=some (.int .i64 0):=zz_ BK44 1;have hfs66:=blk_frozen BK44.out 1;have hns66_0:=NB18_44.out;have hns66_1:=NB24_44.out;have hns66_2:=NB34_44.out;have hms66_0:=NB44_18.out;have hms66_1:=NB44_24.out;have hms66_2:=NB44_34.out;have hs67:w63.cell? ⟨gb44,2,none⟩=some (.int .i64 0):=zz_ BK44 2;have hfs67:=blk_frozen BK44.out 2;have hns67_0:=NB18_44.out;have hns67_1:=NB24_44.out;have hns67_2:=NB34_44.out;have hms67_0:=NB44_18.out;have hms67_1:=NB44_24.out;have hms67_2:=NB44_34.out;refine skip_ (w1:= ?_) (by rfl) rfl ?_ ?_;rotate_left
   ·go_simp
    rfl
   refine hK.out _ _ ⟨((cell_far (p:=⟨gb44,_,none⟩) NB34_44.out _).trans (((cell_far (p:=⟨gb44,_,none⟩) NB34_44.out _).trans (((cell_far (p:=⟨gb44,_,none⟩) NB34_44.out _).trans (hHeld.1)))))),((cell_far (p:=⟨gb44,_,none⟩) NB34_44.out _).trans (((cell_far (p:=⟨gb44,_,none⟩) NB34_44.out _).trans (((cell_far (p:=⟨gb44,_,none⟩) NB34_44.out _).trans (hHeld.2.1)))))),((cell_far (p:=⟨gb44,_,none⟩) NB34_44.out _).trans (((cell_far (p:=⟨gb44,_,none⟩) NB34_44.out _).trans (((cell_far (p:=⟨gb44,_,none⟩) NB34_44.out _).trans (hHeld.2.2.1)))))),((cell_far (p:=⟨gb44,_,none⟩) NB18_44.out _).trans (((cell_far (p:=⟨gb44,_,none⟩) NB18_44.out _).trans (((cell_far (p:=⟨gb44,_,none⟩) NB18_44.out _).trans (hHeld.2.2.2.1)))))),((cell_far (p:=⟨gb44,_,none⟩) NB18_44.out _).trans (((cell_far (p:=⟨gb44,_,none⟩) NB18_44.out _).trans (((cell_far (p:=⟨gb44,_,none⟩) NB18_44.out _).trans (hHeld.2.2.2.2))))))⟩ (fun hHeld=> ?_);clear hK K;refine done_ (done_of HT_.out (by kernel_rfl)) ?_;have hnb68:=NB18_44.out;have hnc68:=NB44_18.out;obtain ⟨hcz69_0,hcz69_1,hfz69_0,hfz69_1⟩:=y2_ BK18;have hnb70:=NB24_44.out;have hnc70:=NB44_24.out;obtain ⟨hcz71_0,hcz71_1,hcz71_2,hfz71_0,hfz71_1,hfz71_2⟩:=y3_ BK24
   try go_wp2_with (first|(go_at_call 25;(with_reducible refine (law1_Num.calls t23 t45 _ A24.out).mono ?_);rintro e w' ⟨rfl,⟨nd,rfl⟩⟩;have hnb72:=NB34_44.out;have hnc72:=NB44_34.out;obtain ⟨hcz73_0,hcz73_1,hcz73_2,hfz73_0,hfz73_1,hfz73_2⟩:=y3_ BK34;obtain ⟨hcz74_0,hcz74_1,hcz74_2⟩:=x3_ BK44;have hfz74_0:=blk_frozen BK44.out 0;have hfz74_1:=blk_frozen BK44.out 1;have hfz74_2:=blk_frozen BK44.out 2)|(go_at_call 42;(with_reducible refine (r10_SameItems.calls kj3 _ _ t19 _ _ t39 true _ ?side1 ?side2 ?side3 ?side4 A29.out).mono ?_);(case side1=>refine (Kd.R_reads' (e:=79) (base:=w.heap.size) (ok:=fun k_=>(some k_≠(.slice Ao54 t29.length co54:Value).ownBlock∧(some k_≠(.slice Ao33 t2.length co33:Value).ownBlock∧(some k_≠(.slice Ao64 t39.length co64:Value).ownBlock∧some k_≠(.slice Ao36 t5.length co36:Value).ownBlock)))) (n:=t19.length) (c:=co46) ?_).2.2;exact (by refine zt_ ?_;exact (Kd.R_mono (Kd.R_far (p:=⟨gb44,2,none⟩) (Kd.R_far (p:=⟨gb44,1,none⟩) (Kd.R_far (p:=⟨gb44,0,none⟩) (Kd.R_types HO21.out BK44.out (by decide)) (fun _ hk=>hk.2) (.slice Ao64 t39.length co64)) (fun _ hk=>hk.2) (.int .i64 t42)) (fun _ hk=>hk.2) (.int .i64 t43)) (fun _ h_=>h_.1))));(case side2=>exact (Kd.R_reads' HO21.out).2.1);(case side3=>refine (Kd.R_reads' (e:=79) (base:=w.heap.size) (ok:=fun k_=>(some k_≠(.slice Ao46 t19.length co46:Value).ownBlock∧(some k_≠(.slice Ao54 t29.length co54:Value).ownBlock∧(some k_≠(.slice Ao33 t2.length co33:Value).ownBlock∧some k_≠(.slice Ao36 t5.length co36:Value).ownBlock)))) (n:=t39.length) (c:=co64) ?_).2.2;exact (by refine zt_ ?_;exact (Kd.R_mono (Kd.R_far (p:=⟨gb44,2,none⟩) (Kd.R_far (p:=⟨gb44,1,none⟩) (Kd.R_far (p:=⟨gb44,0,none⟩) (Kd.R_types HO41.out BK44.out (by decide)) (fun _ hk=>hk.2) (.slice Ao64 t39.length co64)) (fun _ hk=>hk.2) (.int .i64 t42)) (fun _ hk=>hk.2) (.int .i64 t43)) (fun _ h_=>h_.1))));(case side4=>exact (Kd.R_reads' HO41.out).2.1);rintro e w' ⟨rfl,⟨nd,rfl⟩⟩)|(go_at_call 36;(with_reducible refine (law19_awake.calls kj3 t47 _ A31.out).mono ?_);rintro e w75 ⟨rfl,hb⟩;replace HO4:=am_ (Kd.R_below (by refine zt_ ?_;exact (Kd.R_mono (Kd.R_far (p:=⟨gb44,2,none⟩) (Kd.R_far (p:=⟨gb44,1,none⟩) (Kd.R_far (p:=⟨gb44,0,none⟩) (Kd.R_types HO4.out BK44.out (by decide)) (fun _ hk=>hk.2) (.slice Ao64 t39.length co64)) (fun _ hk=>hk.2) (.int .i64 t42)) (fun _ hk=>hk.2) (.int .i64 t43)) (fun _ h_=>h_.1))) hb);replace HO7:=am_ (Kd.R_below (by refine zt_ ?_;exact (Kd.R_mono (Kd.R_far (p:=⟨gb44,2,none⟩) (Kd.R_far (p:=⟨gb44,1,none⟩) (Kd.R_far (p:=⟨gb44,0,none⟩) (Kd.R_types HO7.out BK44.out (by decide)) (fun _ hk=>hk.2) (.slice Ao64 t39.length co64)) (fun _ hk=>hk.2) (.int .i64 t42)) (fun _ hk=>hk.2) (.int .i64 t43)) (fun _ h_=>h_.1))) hb);replace HO10:=am_ (Kd.R_below (by refine zt_ ?_;exact (Kd.R_mono (Kd.R_far (p:=⟨gb44,2,none⟩) (Kd.R_far (p:=⟨gb44,1,none⟩) (Kd.R_far (p:=⟨gb44,0,none⟩) (Kd.R_types HO10.out BK44.out (by decide)) (fun _ hk=>hk.2) (.slice Ao64 t39.length co64)) (fun _ hk=>hk.2) (.int .i64 t42)) (fun _ hk=>hk.2) (.int .i64 t43)) (fun _ h_=>h_.1))) hb);replace HO13:=am_ (Kd.R_below (by refine zt_ ?_;exact (Kd.R_mono (Kd.R_far (p:=⟨gb44,2,none⟩) (Kd.R_far (p:=⟨gb44,1,none⟩) (Kd.R_far (p:=⟨gb44,0,none⟩) (Kd.R_types HO13.out BK44.out (by decide)) (fun _ hk=>hk.2) (.slice Ao64 t39.length co64)) (fun _ hk=>hk.2) (.int .i64 t42)) (fun _ hk=>hk.2) (.int .i64 t43)) (fun _ h_=>h_.1))) hb);replace HO16:=am_ (Kd.R_below (by refine zt_ ?_;exact (Kd.R_mono (Kd.R_far (p:=⟨gb44,2,none⟩) (Kd.R_far (p:=⟨gb44,1,none⟩) (Kd.R_far (p:=⟨gb44,0,none⟩) (Kd.R_types HO16.out BK44.out (by decide)) (fun _ hk=>hk.2) (.slice Ao64 t39.length co64)) (fun _ hk=>hk.2) (.int .i64 t42)) (fun _ hk=>hk.2) (.int .i64 t43)) (fun _ h_=>h_.1))) hb);replace HO21:=am_ (Kd.R_below (by refine zt_ ?_;exact (Kd.R_mono (Kd.R_far (p:=⟨gb44,2,none⟩) (Kd.R_far (p:=⟨gb44,1,none⟩) (Kd.R_far (p:=⟨gb44,0,none⟩) (Kd.R_types HO21.out BK44.out (by decide)) (fun _ hk=>hk.2) (.slice Ao64 t39.length co64)) (fun _ hk=>hk.2) (.int .i64 t42)) (fun _ hk=>hk.2) (.int .i64 t43)) (fun _ h_=>h_.1))) hb);replace HO31:=am_ (Kd.R_below (by refine zt_ ?_;exact (Kd.R_mono (Kd.R_far (p:=⟨gb44,2,none⟩) (Kd.R_far (p:=⟨gb44,1,none⟩) (Kd.R_far (p:=⟨gb44,0,none⟩) (Kd.R_types HO31.out BK44.out (by decide)) (fun _ hk=>hk.2) (.slice Ao64 t39.length co64)) (fun _ hk=>hk.2) (.int .i64 t42)) (fun _ hk=>hk.2) (.int .i64 t43)) (fun _ h_=>h_.1))) hb);replace HO41:=am_ (Kd.R_below (by refine zt_ ?_;exact (Kd.R_mono (Kd.R_far (p:=⟨gb44,2,none⟩) (Kd.R_far (p:=⟨gb44,1,none⟩) (Kd.R_far (p:=⟨gb44,0,none⟩) (Kd.R_types HO41.out BK44.out (by decide)) (fun _ hk=>hk.2) (.slice Ao64 t39.length co64)) (fun _ hk=>hk.2) (.int .i64 t42)) (fun _ hk=>hk.2) (.int .i64 t43)) (fun _ h_=>h_.1))) hb);replace BK18:=am_ (blk_below (g:=gb18) (o:= .cells #[.slice Ao42 t14.length co42, .int .i64 t17] 51 (0,0)) (zw_ BK18) hb);replace BK24:=am_ (blk_below (g:=gb24) (o:= .cells #[.slice Ao46 t19.length co46, .int .i64 t22, .int .i64 t23] 56 (0,0)) (zw_ BK24) hb);replace BK34:=am_ (blk_below (g:=gb34) (o:= .cells #[.slice Ao54 t29.length co54, .int .i64 t32, .int .i64 t33] 56 (0,0)) (zw_ BK34) hb);replace BK44:=am_ (blk_below (g:=gb44) (o:= .cells #[.slice Ao64 t39.length co64, .int .i64 t42, .int .i64 t43] 56 (0,0)) (zw_ BK44) hb);replace HB:=am_ (below_step (zl4_ HB GE18 GE24 GE34 GE44) hb);(try clear hb)))
   go_ret
   exact ⟨by first|rfl|(simp [errW_none,errW_some]<;>rfl)|(simp only [←hji16];first|rfl|(simp [errW_none,errW_some]<;>rfl))|(simp [*,errW_none,errW_some]<;>rfl),zl4_ HB GE18 GE24 GE34 GE44⟩
def law19_TrialCuts.Pure:Prop:= ∀(l0:List Int) (l1:List Int) (a2:Int),l0.length≤maxLen→l0.length*1≤140737488351232→(∀x∈l0,(Lit.int .u8 x).wf=true)→l1.length≤maxLen→l1.length*1≤140737488351232→(∀x∈l1,(Lit.int .u8 x).wf=true)→(Lit.int .u8 a2).wf=true→ ∃k,law19_TrialCuts.f k l0 l1 a2=some true
theorem law19_TrialCuts.walk (P:law19_TrialCuts.Pure) (a0:Option Addr) (len0 cap0:Nat) (z0:List Int) (a1:Option Addr) (len1 cap1:Nat) (z1:List Int) (a2:Int) (w:World) (w0:(a0=none∧len0=0∧cap0=0∧z0=[])∨ ∃x,a0=some x∧len0≤cap0∧cap0≤maxLen∧z0.length=cap0∧(∀i,i<z0.length→w.cell? (x.add i)=some (.int .u8 (z0.getD i 0)))∧ ∀n∈z0,(Lit.int .u8 n).wf=true) (y0:len0*1≤140737488351232) (w1:(a1=none∧len1=0∧cap1=0∧z1=[])∨ ∃x,a1=some x∧len1≤cap1∧cap1≤maxLen∧z1.length=cap1∧(∀i,i<z1.length→w.cell? (x.add i)=some (.int .u8 (z1.getD i 0)))∧ ∀n∈z1,(Lit.int .u8 n).wf=true) (y1:len1*1≤140737488351232) (w2:(Lit.int .u8 a2).wf=true):
  Calls Try.prog 8 #[.slice a0 len0 cap0, .slice a1 len1 cap1, .int .u8 a2] w fun e w'=>e= .returned (.bool true)∧Below w.heap.size w w':=by
 obtain ⟨l0,rfl,hr0,hm0,hw0,hc0⟩:=ReadsInt.ofRowC w0;obtain ⟨l1,rfl,hr1,hm1,hw1,hc1⟩:=ReadsInt.ofRowC w1;obtain ⟨k,h⟩:=P l0 l1 a2 hm0 y0 hw0 hm1 y1 hw1 w2;refine (law19_TrialCuts.calls k _ _ l0 _ _ l1 a2 true w (Kd.C_of_reads (d:=(0:Int)) (h1:=fun _=>rfl) hr0) hc0 (Kd.C_of_reads (d:=(0:Int)) (h1:=fun _=>rfl) hr1) hc1 h).mono ?_;rintro e w' ⟨rfl,hd⟩;exact ⟨rfl,hd⟩

end Go.Proofs.Ytahidkjncljkaaa.Print

namespace Go.Proofs.Ytahidkjncljkaaa.Print
open Go.RowKit Go.Proofs.YtahidkjncljkaaaW.PrintWords Go.Proofs.YtahidkjncljkaaaW.PrintLast
abbrev Item:=S79
abbrev Vec:=S37
abbrev zItem:Item:=z79
theorem rd_item (l:List Item) (i:Int):rd_T79 l i=l.getD i.toNat zItem:=rfl
instance baLawful:LawfulBEq ByteArray where
 eq_of_beq {a b} h:=by
  obtain ⟨a⟩:=a
  obtain ⟨b⟩:=b
  have:(a==b)=true:=h
  rw [eq_of_beq this]
 rfl {a}:=by
  obtain ⟨a⟩:=a
  show (a==a)=true
  exact beq_self_eq_true a
theorem nm_inj {a b:ByteArray}:a.toList=b.toList↔a=b:=by
  constructor
  rotate_left
  · rintro rfl;rfl
  intro h
  rw [ByteArray.toList_eq,ByteArray.toList_eq] at h
  exact ByteArray.ext (Array.toList_inj.1 h)
theorem nm_beq (a b:ByteArray):(a.toList==b.toList)=decide (a=b):=by
 rw [Bool.eq_iff_iff,beq_iff_eq,nm_inj,decide_eq_true_iff]
theorem nm_empty {a:ByteArray}:a.toList=([]:List UInt8)↔a=⟨#[]⟩:=by
 rw [←nm_inj];rw [show (ByteArray.mk #[]).toList=[] from by rw [ByteArray.toList_eq]]
theorem Ev.const {α:Type} {g:Option α} {r:α} (h:g=some r):Ev (fun _=>g) r:=⟨0,fun _ _=>h⟩
theorem w64 {n:Int} (h0: -9223372036854775808≤n) (h1:n≤9223372036854775807):wrap64 n=n:=by unfold wrap64;omega
def look (l:List Item) (n:ByteArray):Option Item:=l.find? (fun x=>x.f0=n)
def fnd (l:List Item) (n:ByteArray):Int:=fidx (fun x:Item=>x.f0.toList==n.toList) l 0
theorem fidx_none {α:Type} {p:α→Bool}: ∀{l:List α} {i:Int},(∀x∈l,p x=false)→fidx p l i= -1
  |[],_,_=>rfl
  | x :: l, i, h => by
    unfold fidx;rw [if_neg (by rw [h x (by simp)];simp)];exact fidx_none (fun y hy=>h y (by simp [hy]))
theorem fidx_some {α:Type} {p:α→Bool} (z:α): ∀{l:List α} {i:Int} {x:α},l.find? p=some x→ ∃j:Nat,j<l.length∧fidx p l i=i+j∧l.getD j z=x∧p x=true∧ ∀m,m<j→p (l.getD m z)=false
  |[],_,_,h=>by simp at h
  | y :: l, i, x, h => by
    unfold fidx;by_cases hy:p y=true
    · rw [if_pos hy]
      simp only [List.find?_cons,hy] at h
      obtain rfl:=Option.some.inj h
      exact ⟨0,by simp,by simp,by simp,hy,fun m hm=>by omega⟩
    rw [if_neg hy];have hy':p y=false:=by simpa using hy
    simp only [List.find?_cons,hy'] at h;obtain ⟨j,hj,h1,h2,h3,h4⟩:=fidx_some z (i:=i+1) h;refine ⟨j+1,by simp;omega,by rw [h1];omega,by simpa using h2,h3,fun m hm=> ?_⟩
    cases m with
    |zero=>simpa using hy'
    |succ m=>simpa using h4 m (by omega)
theorem look_pred (n:ByteArray):(fun x:Item=>x.f0.toList==n.toList)=(fun x:Item=>decide (x.f0=n)):=by
 funext x;exact nm_beq _ _
theorem look_mem {l:List Item} {n:ByteArray} {x:Item} (h:look l n=some x):x∈l∧x.f0=n:=by
 unfold look at h;exact ⟨List.mem_of_find?_eq_some h,by simpa using List.find?_some h⟩
theorem look_none {l:List Item} {n:ByteArray}:look l n=none↔ ∀x∈l,x.f0≠n:=by
 unfold look
 simp
theorem fnd_none {l:List Item} {n:ByteArray} (h:look l n=none):fnd l n= -1:=by
 unfold fnd;refine fidx_none fun x hx=> ?_
 rw [nm_beq]
 simpa using look_none.1 h x hx
theorem fnd_some {l:List Item} {n:ByteArray} {x:Item} (h:look l n=some x): ∃j:Nat,j<l.length∧fnd l n=j∧l.getD j zItem=x∧x.f0=n∧ ∀m,m<j→(l.getD m zItem).f0≠n:=by
 have h':l.find? (fun x:Item=>x.f0.toList==n.toList)=some x:=by rw [look_pred];exact h
 obtain ⟨j,h1,h2,h3,h4,h5⟩:=fidx_some zItem (i:=0) h';refine ⟨j,h1,by unfold fnd;rw [h2];omega,h3,by simpa [nm_beq] using h4,fun m hm=> ?_⟩
 simpa [nm_beq] using h5 m hm
theorem fnd_lt (l:List Item) (n:ByteArray):fnd l n<l.length:=by
 cases h:look l n with
 |none=>rw [fnd_none h];omega
 |some x=>obtain ⟨j,h1,h2,_⟩:=fnd_some h;omega
theorem fnd_neg {l:List Item} {n:ByteArray}:fnd l n<0↔look l n=none:=by
 cases h:look l n with
 |none=>rw [fnd_none h];simp
 |some x=>obtain ⟨j,h1,h2,_⟩:=fnd_some h;simp;omega
theorem fnd_ge {l:List Item} {n:ByteArray}:0≤fnd l n↔ ∃x,look l n=some x:=by
 cases h:look l n with
 |none=>rw [fnd_none h];simp
 |some x=>obtain ⟨j,h1,h2,_⟩:=fnd_some h;simp;omega
theorem fnd_rd {l:List Item} {n:ByteArray} {x:Item} (h:look l n=some x):rd_T79 l (fnd l n)=x:=by
 obtain ⟨j,h1,h2,h3,_⟩:=fnd_some h;rw [rd_item,h2,Int.toNat_natCast];exact h3
theorem tree_Find_eq (l:List Item) (n:ByteArray):tree_Find.f l n=some (fnd l n):=rfl
inductive Chain (l:List Item):ByteArray→List ByteArray→Prop where
 |nil {n:ByteArray}:look l n=none→Chain l n []
 |cons {n:ByteArray} {x:Item} {us:List ByteArray}:look l n=some x→Chain l x.f1 us→Chain l n (n::us)
def upGo (l:List Item):Nat→ByteArray→List ByteArray
  |0,_=> []
  | m + 1, n => match look l n with
    |none=> []
    |some x=>n::upGo l m x.f1
def up (l:List Item) (n:ByteArray):List ByteArray:=upGo l (l.length+1) n
theorem upGo_len (l:List Item): ∀(m:Nat) (n:ByteArray),(upGo l m n).length≤m
  |0,_=>by simp [upGo]
  | m + 1, n => by
    unfold upGo
    cases look l n with
    |none=>simp
    |some x=>have:=upGo_len l m x.f1;simp;omega
theorem up_len (l:List Item) (n:ByteArray):(up l n).length≤l.length+1:=upGo_len l _ n
theorem upGo_none {l:List Item} {n:ByteArray} (h:look l n=none) (m:Nat):upGo l m n=[]:=by
 cases m with
 |zero=>rfl
 |succ m=>unfold upGo;rw [h]
theorem upGo_some {l:List Item} {n:ByteArray} {x:Item} (h:look l n=some x) (m:Nat):upGo l (m+1) n=n::upGo l m x.f1:=by
 rw [upGo.eq_2,h]
theorem Chain.det {l:List Item} {n:ByteArray} {us:List ByteArray} (h:Chain l n us): ∀{vs:List ByteArray},Chain l n vs→us=vs:=by
  induction h with
  | nil h =>
    intro vs k
    cases k with
    |nil _=>rfl
    |cons k _=>rw [h] at k;cases k
  | cons h _ ih =>
    intro vs k
    cases k with
    |nil k=>rw [h] at k;cases k
    | cons k k2 =>
      rw [h] at k;cases k;rw [ih k2]
theorem Chain.upGo {l:List Item} {n:ByteArray} {us:List ByteArray} (h:Chain l n us): ∀m,us.length≤m→upGo l m n=us:=by
  induction h with
  |nil h=>intro m _;exact upGo_none h m
  | cons h _ ih =>
    intro m hm
    cases m with
    |zero=>simp at hm
    | succ m =>
      rw [upGo_some h,ih m (by simpa using hm)]
theorem Chain.suffix {l:List Item} {n:ByteArray} {us:List ByteArray} (h:Chain l n us): ∀{m:ByteArray},m∈us→ ∃vs ws,us=ws++vs∧Chain l m vs∧ ∃vt,vs=m::vt:=by
  induction h with
  |nil _=>intro m hm;cases hm
  | @cons n x us h k ih =>
    intro m hm
    rcases List.mem_cons.1 hm with rfl|hm
    · exact ⟨_,[],rfl, .cons h k,_,rfl⟩
    obtain ⟨vs,ws,e,hc,he⟩:=ih hm;exact ⟨vs,n::ws,by rw [e];rfl,hc,he⟩
theorem Chain.mem_look {l:List Item} {n:ByteArray} {us:List ByteArray} (h:Chain l n us) {m:ByteArray} (hm:m∈us): ∃x,look l m=some x:=by
 obtain ⟨vs,ws,_,hc,vt,rfl⟩:=h.suffix hm
 cases hc with
 |cons h _=>exact ⟨_,h⟩
theorem Chain.nodup {l:List Item} {n:ByteArray} {us:List ByteArray} (h:Chain l n us):us.Nodup:=by
  induction h with
  |nil _=>simp
  | @cons n x us h k ih =>
    rw [List.nodup_cons];refine ⟨fun hm=> ?_,ih⟩;obtain ⟨vs,ws,e,hc,_⟩:=k.suffix hm;have:=hc.det (.cons h k)
    rw [this] at e;have:=congrArg List.length e
    simp at this
    omega
theorem Chain.len {l:List Item} {n:ByteArray} {us:List ByteArray} (h:Chain l n us):us.length≤l.length:=by
 have:=h.nodup.length_le_of_subset (l₂:=l.map (·.f0)) (fun m hm=>by
  obtain ⟨x,hx⟩:=h.mem_look hm;obtain ⟨h1,rfl⟩:=look_mem hx;exact List.mem_map_of_mem h1)
 simpa using this
theorem Chain.up {l:List Item} {n:ByteArray} {us:List ByteArray} (h:Chain l n us):up l n=us:=h.upGo _ (by have:=h.len;omega)
def lt (a b:ByteArray):Bool:=Op.bytesLess a.toList b.toList
theorem bl_irrefl: ∀a:List UInt8,Op.bytesLess a a=false
 |[]=>rfl
 |x::a=>by unfold Op.bytesLess;simp [bl_irrefl a]
theorem bl_trans: ∀{a b c:List UInt8},Op.bytesLess a b=true→Op.bytesLess b c=true→Op.bytesLess a c=true
  |[],[],_,h,_=>by simp [Op.bytesLess] at h
  |[],_::_,[],_,k=>by simp [Op.bytesLess] at k
  |[],_::_,_::_,_,_=>by simp [Op.bytesLess]
  |_::_,[],_,h,_=>by simp [Op.bytesLess] at h
  |_::_,_::_,[],_,k=>by simp [Op.bytesLess] at k
  | x :: a, y :: b, z :: c, h, k => by
    simp only [Op.bytesLess,Bool.or_eq_true,Bool.and_eq_true,decide_eq_true_eq,beq_iff_eq] at h k ⊢
    rcases h with h|⟨rfl,h⟩
    · rcases k with k | ⟨rfl, k⟩
      · exact .inl (UInt8.lt_trans h k)
      exact .inl h
    rcases k with k|⟨rfl,k⟩
    · exact .inl k
    exact .inr ⟨rfl,bl_trans h k⟩
theorem bl_total: ∀{a b:List UInt8},Op.bytesLess a b=false→a≠b→Op.bytesLess b a=true
  |[],[],_,h=>absurd rfl h
  |[],_::_,h,_=>by simp [Op.bytesLess] at h
  |_::_,[],_,_=>by simp [Op.bytesLess]
  | x :: a, y :: b, h, k => by
    simp only [Op.bytesLess,Bool.or_eq_true,Bool.or_eq_false_iff,Bool.and_eq_false_iff,Bool.and_eq_true,decide_eq_true_eq,decide_eq_false_iff_not,beq_iff_eq,beq_eq_false_iff_ne] at h ⊢;obtain ⟨h1,h2⟩:=h;by_cases e:x=y
    · subst e
      rcases h2 with h2|h2
      · exact absurd rfl h2
      exact .inr ⟨rfl,bl_total h2 (fun e=>k (by rw [e]))⟩
    left
    have h3: ¬x.toNat<y.toNat:=by rwa [←UInt8.lt_iff_toNat_lt]
    have h4:x.toNat≠y.toNat:=fun q=>e (UInt8.toNat_inj.1 q)
    rw [UInt8.lt_iff_toNat_lt];omega
theorem lt_irrefl (a:ByteArray):lt a a=false:=bl_irrefl _
theorem lt_trans {a b c:ByteArray} (h:lt a b=true) (k:lt b c=true):lt a c=true:=bl_trans h k
theorem lt_total {a b:ByteArray} (h:lt a b=false) (k:a≠b):lt b a=true:=bl_total h (fun e=>k (nm_inj.1 e))
theorem lt_ne {a b:ByteArray} (h:lt a b=true):a≠b:=by rintro rfl;rw [lt_irrefl] at h;cases h
inductive Comp where|cpu|mem|pods
def Comp.of:Comp→Vec→Int| .cpu,v=>v.f0| .mem,v=>v.f1| .pods,v=>v.f2
def vadd (a b:Vec):Vec:=⟨a.f0+b.f0,a.f1+b.f1,a.f2+b.f2⟩
def vsub (a b:Vec):Vec:=⟨a.f0 - b.f0,a.f1 - b.f1,a.f2 - b.f2⟩
theorem of_vadd (c:Comp) (a b:Vec):c.of (vadd a b)=c.of a+c.of b:=by cases c<;>rfl
theorem of_vsub (c:Comp) (a b:Vec):c.of (vsub a b)=c.of a - c.of b:=by cases c<;>rfl
def MayP (v:Vec):Prop:= ∀c:Comp,0≤c.of v∧c.of v≤1099511627776
def LeP (a b:Vec):Prop:= ∀c:Comp,c.of a≤c.of b
theorem comp_all {p:Comp→Prop}:(∀c,p c)↔p .cpu∧p .mem∧p .pods:=
 ⟨fun h=>⟨h _,h _,h _⟩,fun ⟨a,b,d⟩ c=>by cases c<;>assumption⟩
instance (v:Vec):Decidable (MayP v):=decidable_of_iff _ comp_all.symm
instance (a b:Vec):Decidable (LeP a b):=decidable_of_iff _ comp_all.symm
theorem mayP_iff {a b d:Int}:MayP ⟨a,b,d⟩↔(0≤a∧a≤1099511627776)∧(0≤b∧b≤1099511627776)∧(0≤d∧d≤1099511627776):=comp_all
theorem leP_iff {a b d a' b' d':Int}:LeP ⟨a,b,d⟩ ⟨a',b',d'⟩↔a≤a'∧b≤b'∧d≤d':=comp_all
def sumBy (g:Item→Int) (l:List Item):Int:=(l.map g).sum
theorem sumBy_nil (g:Item→Int):sumBy g []=0:=rfl
theorem sumBy_cons (g:Item→Int) (x:Item) (l:List Item):sumBy g (x::l)=g x+sumBy g l:=by simp [sumBy]
theorem sumBy_append (g:Item→Int) (l m:List Item):sumBy g (l++m)=sumBy g l+sumBy g m:=by simp [sumBy]
theorem sumBy_congr {g h:Item→Int}: ∀{l:List Item},(∀x∈l,g x=h x)→sumBy g l=sumBy h l
 |[],_=>rfl
 |x::l,e=>by rw [sumBy_cons,sumBy_cons,e x (by simp),sumBy_congr (fun y hy=>e y (by simp [hy]))]
theorem sumBy_add (g h:Item→Int): ∀l:List Item,sumBy (fun x=>g x+h x) l=sumBy g l+sumBy h l
 |[]=>rfl
 |x::l=>by rw [sumBy_cons,sumBy_cons,sumBy_cons,sumBy_add g h l];omega
theorem sumBy_sub (g h:Item→Int): ∀l:List Item,sumBy (fun x=>g x - h x) l=sumBy g l - sumBy h l
 |[]=>rfl
 |x::l=>by rw [sumBy_cons,sumBy_cons,sumBy_cons,sumBy_sub g h l];omega
theorem sumBy_map (g:Item→Int) (f:Item→Item): ∀l:List Item,sumBy g (l.map f)=sumBy (fun x=>g (f x)) l
 |[]=>rfl
 |x::l=>by rw [List.map_cons,sumBy_cons,sumBy_cons,sumBy_map g f l]
theorem sumBy_zero {g:Item→Int}: ∀{l:List Item},(∀x∈l,g x=0)→sumBy g l=0
 |[],_=>rfl
 |x::l,e=>by rw [sumBy_cons,e x (by simp),sumBy_zero (fun y hy=>e y (by simp [hy]))];rfl
theorem sumBy_nonneg {g:Item→Int}: ∀{l:List Item},(∀x∈l,0≤g x)→0≤sumBy g l
 |[],_=>by simp [sumBy_nil]
 |x::l,e=>by rw [sumBy_cons];have:=e x (by simp);have:=sumBy_nonneg (l:=l) (fun y hy=>e y (by simp [hy]));omega
theorem sumBy_one {v:Int} {l:List Item} (hn:(l.map (·.f0)).Nodup) {x:Item} (hx:x∈l):sumBy (fun y=>if y.f0=x.f0 then v else 0) l=v:=by
  induction l with
  |nil=>cases hx
  | cons y l ih =>
    rw [List.map_cons,List.nodup_cons] at hn
    rw [sumBy_cons]
    rcases List.mem_cons.1 hx with rfl|hx
    · rw [if_pos rfl,sumBy_zero (fun z hz=>if_neg (fun e=>hn.1 (by rw [←e];exact List.mem_map_of_mem hz)))];omega
    rw [if_neg (fun e=>hn.1 (by rw [e];exact List.mem_map_of_mem hx)),ih hn.2 hx];omega
def csum (c:Comp) (l:List Item) (n:ByteArray):Int:=sumBy (fun y=>if y.f1=n then c.of y.f4 else 0) l
structure ItemOK (x:Item):Prop where
 name:x.f0≠⟨#[]⟩
 size:x.f0.size≤24
 lim:MayP x.f2
 own:MayP x.f3
 sub:MayP x.f4
 fit:LeP x.f4 x.f2
 ver:1≤x.f5∧x.f5≤9007199254740992
structure RightP (l:List Item):Prop where
 len:l.length≤120
 ok: ∀x∈l,ItemOK x
 sorted:l.Pairwise (fun x y=>lt x.f0 y.f0=true)
 par: ∀x∈l,x.f1=⟨#[]⟩∨ ∃y,look l x.f1=some y
 sum: ∀c:Comp,∀x∈l,c.of x.f4=c.of x.f3+csum c l x.f0
 chain: ∀x∈l,∃us,Chain l x.f0 us
theorem sorted_nodup {l:List Item} (h:l.Pairwise (fun x y=>lt x.f0 y.f0=true)):(l.map (·.f0)).Nodup:=by
 rw [List.Nodup,List.pairwise_map];exact h.imp (fun hxy=>lt_ne hxy)
theorem RightP.nodup {l:List Item} (h:RightP l):(l.map (·.f0)).Nodup:=sorted_nodup h.sorted
theorem look_of_mem {l:List Item} (hn:(l.map (·.f0)).Nodup) {x:Item} (hx:x∈l):look l x.f0=some x:=by
  induction l with
  |nil=>cases hx
  | cons y l ih =>
    rw [List.map_cons,List.nodup_cons] at hn;unfold look;rw [List.find?_cons]
    rcases List.mem_cons.1 hx with rfl|hx
    · simp
    have:y.f0≠x.f0:=fun e=>hn.1 (by rw [e];exact List.mem_map_of_mem hx)
    simp only [this,decide_false];exact ih hn.2 hx
theorem RightP.look {l:List Item} (h:RightP l) {x:Item} (hx:x∈l):look l x.f0=some x:=look_of_mem h.nodup hx
theorem RightP.chainAll {l:List Item} (h:RightP l) (n:ByteArray):Chain l n (up l n):=by
  cases hl:Print.look l n with
  |none=>have c:=Chain.nil hl;rw [c.up];exact c
  | some x =>
    obtain ⟨hx,rfl⟩:=look_mem hl;obtain ⟨us,c⟩:=h.chain x hx;rw [c.up];exact c
theorem right_nil:RightP []:=⟨by simp,by simp,by simp,by simp,by simp,by simp⟩
theorem RightP.eq_of {l:List Item} (h:RightP l) {x y:Item} (hx:x∈l) (hy:y∈l) (e:x.f0=y.f0):x=y:=by
 have h1:=h.look hx
 rw [e,h.look hy] at h1
 exact (Option.some.inj h1).symm
theorem ite_iff {α:Type} {p q:Prop} [Decidable p] [Decidable q] (h:p↔q) {a b:α}:(if p then a else b)=if q then a else b:=by
  by_cases hp:p
  · rw [if_pos hp,if_pos (h.1 hp)]
  rw [if_neg hp,if_neg (fun k=>hp (h.2 k))]
theorem r10_Le_eq (a b d a' b' d':Int):r10_Le.f a b d a' b' d'=some (decide (LeP ⟨a,b,d⟩ ⟨a',b',d'⟩)):=by
 unfold r10_Le.f
 by_cases h0:a≤a'<;>by_cases h1:b≤b'<;>simp [h0,h1,leP_iff]
theorem r10_unit_eq (a:Int):r10_unit.f a=some (decide (0≤a∧a≤1099511627776)):=by
  unfold r10_unit.f;by_cases h0:0≤a
  · rw [if_pos (by omega)];simp [h0]
  rw [if_neg (by omega)];simp [h0]
theorem r10_MayVec_eq (a b d:Int):r10_MayVec.f a b d=some (decide (MayP ⟨a,b,d⟩)):=by
 unfold r10_MayVec.f;simp only [r10_unit_eq,Option.bind_some];by_cases h0:0≤a∧a≤1099511627776<;>by_cases h1:0≤b∧b≤1099511627776<;>simp [h0,h1,mayP_iff]
theorem r10_MayName_eq (n:ByteArray):r10_MayName.f n=some (decide (n≠⟨#[]⟩∧n.size≤24)):=by
  unfold r10_MayName.f;by_cases h:n=⟨#[]⟩
  · rw [if_pos (nm_empty.2 h)];simp [h]
  rw [if_neg (fun q=>h (nm_empty.1 q))];simp [h];omega
abbrev Want:=S39
abbrev zWant:Want:=z39
theorem rd_want (l:List Want) (i:Int):rd_T39 l i=l.getD i.toNat zWant:=rfl
theorem rd_wantN (l:List Want) {i:Nat} (h:i<l.length):rd_T39 l (i:Int)=l[i]:=by
 rw [rd_want,Int.toNat_natCast,List.getD_eq_getElem?_getD,List.getElem?_eq_getElem h,Option.getD_some]
def itW (w:Want):Item:=⟨w.f0,w.f1,w.f2,⟨0,0,0⟩,⟨0,0,0⟩,0⟩
def lookW (l:List Want) (n:ByteArray):Option Want:=l.find? (fun x=>x.f0=n)
def wfnd (l:List Want) (n:ByteArray):Int:=fidx (fun x:Want=>x.f0.toList==n.toList) l 0
theorem wlook (l:List Want) (n:ByteArray):look (l.map itW) n=(lookW l n).map itW:=by
  unfold look lookW
  induction l with
  |nil=>rfl
  | cons x l ih =>
    rw [List.map_cons,List.find?_cons,List.find?_cons]
    show (match decide (x.f0=n) with|true=>_|false=>_)=_
    by_cases h:x.f0=n
    · simp [h]
    simp [h,ih]
theorem lookW_mem {l:List Want} {n:ByteArray} {x:Want} (h:lookW l n=some x):x∈l∧x.f0=n:=by
 unfold lookW at h;exact ⟨List.mem_of_find?_eq_some h,by simpa using List.find?_some h⟩
theorem lookW_none {l:List Want} {n:ByteArray}:lookW l n=none↔ ∀x∈l,x.f0≠n:=by
 unfold lookW
 simp
theorem wpred (n:ByteArray):(fun x:Want=>x.f0.toList==n.toList)=(fun x:Want=>decide (x.f0=n)):=by
 funext x;exact nm_beq _ _
theorem wfnd_none {l:List Want} {n:ByteArray} (h:lookW l n=none):wfnd l n= -1:=by
 unfold wfnd;refine fidx_none fun x hx=> ?_
 rw [nm_beq]
 simpa using lookW_none.1 h x hx
theorem wfnd_some {l:List Want} {n:ByteArray} {x:Want} (h:lookW l n=some x): ∃j:Nat,j<l.length∧wfnd l n=j∧l.getD j zWant=x∧x.f0=n∧ ∀m,m<j→(l.getD m zWant).f0≠n:=by
 have h':l.find? (fun x:Want=>x.f0.toList==n.toList)=some x:=by rw [wpred];exact h
 obtain ⟨j,h1,h2,h3,h4,h5⟩:=fidx_some zWant (i:=0) h';refine ⟨j,h1,by unfold wfnd;rw [h2];omega,h3,by simpa [nm_beq] using h4,fun m hm=> ?_⟩
 simpa [nm_beq] using h5 m hm
theorem wfnd_lt (l:List Want) (n:ByteArray):wfnd l n<l.length:=by
 cases h:lookW l n with
 |none=>rw [wfnd_none h];omega
 |some x=>obtain ⟨j,h1,h2,_⟩:=wfnd_some h;omega
theorem wfnd_neg {l:List Want} {n:ByteArray}:wfnd l n<0↔lookW l n=none:=by
 cases h:lookW l n with
 |none=>rw [wfnd_none h];simp
 |some x=>obtain ⟨j,h1,h2,_⟩:=wfnd_some h;simp;omega
theorem wfnd_ge {l:List Want} {n:ByteArray}:0≤wfnd l n↔ ∃x,lookW l n=some x:=by
 cases h:lookW l n with
 |none=>rw [wfnd_none h];simp
 |some x=>obtain ⟨j,h1,h2,_⟩:=wfnd_some h;simp;omega
theorem wfnd_rd {l:List Want} {n:ByteArray} {x:Want} (h:lookW l n=some x):rd_T39 l (wfnd l n)=x:=by
 obtain ⟨j,h1,h2,h3,_⟩:=wfnd_some h;rw [rd_want,h2,Int.toNat_natCast];exact h3
theorem r10_wanted_l0 (l:List Want) (n:ByteArray) (hl:l.length<1000000): ∀(d i:Nat),l.length - i=d→i≤l.length→
    Ev (fun k=>r10_wanted.l0 k l n i) (fidx (fun x:Want=>x.f0.toList==n.toList) (l.drop i) i)
  | 0, i, hd, hi => by
    obtain rfl:i=l.length:=by omega
    rw [List.drop_length];exact Ev.step (fun k=>r10_wanted.l0.eq_2 (k:=k) ..) (Ev.congr (fun k=>if_neg (by omega)) (Ev.now _))
  | d + 1, i, hd, hi => by
    have hlt:i<l.length:=by omega
    rw [fidx_drop _ zWant l i hlt];have hrd:rd_T39 l (i:Int)=l.getD i zWant:=by rw [rd_want,Int.toNat_natCast]
    have e3:wrap64 ((i:Int)+1)=((i+1:Nat):Int):=by rw [w64 (by omega) (by omega)];rfl
    refine Ev.step (fun k=>r10_wanted.l0.eq_2 (k:=k) ..) (Ev.congr (fun k=>by rw [if_pos (show (i:Int)<(l.length:Int) by omega),if_pos (show 0≤(i:Int) by omega),hrd,e3]) ?_);by_cases e:(l.getD i zWant).f0.toList=n.toList
    · rw [if_pos (beq_iff_eq.2 e)]
      exact Ev.congr (fun k=>if_pos e) (Ev.now _)
    rw [if_neg (fun q=>e (beq_iff_eq.1 q))];exact Ev.congr (fun k=>if_neg e) (r10_wanted_l0 l n hl d (i+1) (by omega) (by omega))
theorem r10_wanted_ev (l:List Want) (n:ByteArray) (hl:l.length<1000000):Ev (fun k=>r10_wanted.f k l n) (wfnd l n):=r10_wanted_l0 l n hl _ 0 rfl (by omega)
def depGo (l:List Want):Nat→Int→ByteArray→Int
  |0,_,_=> -1
  | m + 1, d, n => match lookW l n with
    |none=>0
    |some w=>if d+1>(l.length:Int) then -1 else if w.f1=⟨#[]⟩ then d+1 else depGo l m (d+1) w.f1
def depR (l:List Want) (n:ByteArray):Int:=depGo l (l.length+1) 0 n
theorem depGo_succ (l:List Want) (m:Nat) (d:Int) (n:ByteArray):depGo l (m+1) d n=match lookW l n with
 |none=>0
 |some w=>if d+1>(l.length:Int) then -1 else if w.f1=⟨#[]⟩ then d+1 else depGo l m (d+1) w.f1:=rfl
theorem r10_Depth_l0 (l:List Want) (hl:l.length<1000000): ∀(m:Nat) (d:Int) (n:ByteArray),0≤d→d+m=l.length→Ev (fun k=>r10_Depth.l0 k l d (wfnd l n)) (depGo l (m+1) d n)
  | m, d, n, h0, hm => by
    rw [depGo_succ];refine Ev.step (fun k=>r10_Depth.l0.eq_2 (k:=k) ..) ?_;rw [w64 (n:=d+1) (by omega) (by omega)]
    cases h:lookW l n with
    |none=>exact Ev.congr (fun k=>if_neg (by have:=wfnd_neg.2 h;omega)) (Ev.now _)
    | some x =>
      have g0:=wfnd_ge.2 ⟨x,h⟩;have g1:=wfnd_lt l n;rw [wfnd_rd h];dsimp only;by_cases c:d+1>(l.length:Int)
      · rw [if_pos c]
        exact Ev.congr (fun k=>by rw [if_pos g0,if_pos c]) (Ev.now _)
      rw [if_neg c];by_cases e:x.f1=⟨#[]⟩
      · rw [if_pos e]
        exact Ev.congr (fun k=>by rw [if_pos g0,if_neg c,if_pos g0,if_pos g1,if_pos (nm_empty.2 e)]) (Ev.now _)
      rw [if_neg e];refine Ev.congr (fun k=>by rw [if_pos g0,if_neg c,if_pos g0,if_pos g1,if_neg (fun q=>e (nm_empty.1 q))]) (Ev.bind (r10_wanted_ev l x.f1 hl) ?_)
      match m,hm with
      |0,hm=>omega
      |m+1,hm=>exact r10_Depth_l0 l hl m (d+1) x.f1 (by omega) (by omega)
theorem r10_Depth_ev (l:List Want) (n:ByteArray) (hl:l.length<1000000):Ev (fun k=>r10_Depth.f k l n) (depR l n):=by
 unfold r10_Depth.f;exact Ev.bind (r10_wanted_ev l n hl) (r10_Depth_l0 l hl l.length 0 n (by omega) (by omega))
def ParW (l:List Want):Prop:=(∀w∈l,w.f0≠⟨#[]⟩)∧ ∀w∈l,w.f1≠⟨#[]⟩→ ∃x,lookW l w.f1=some x
abbrev ChainW (l:List Want) (n:ByteArray) (us:List ByteArray):Prop:=Chain (l.map itW) n us
theorem ParW.root {l:List Want} (h:ParW l):lookW l ⟨#[]⟩=none:=lookW_none.2 fun x hx e=>h.1 x hx e
theorem chainW_cons {l:List Want} {n:ByteArray} {us:List ByteArray} {x:Want} (h:lookW l n=some x) (k:ChainW l x.f1 us):ChainW l n (n::us):= .cons (x:=itW x) (by rw [wlook,h];rfl) k
theorem chainW_nil {l:List Want} {n:ByteArray} (h:lookW l n=none):ChainW l n []:= .nil (by rw [wlook,h];rfl)
theorem chainW_inv {l:List Want} {n:ByteArray} {us:List ByteArray} (h:ChainW l n us):(lookW l n=none∧us=[])∨ ∃x vs,lookW l n=some x∧us=n::vs∧ChainW l x.f1 vs:=by
  cases h with
  | nil h1 =>
    rw [wlook] at h1;exact .inl ⟨by simpa using h1,rfl⟩
  | @cons _ y vs h1 k =>
    rw [wlook] at h1;obtain ⟨x,hx,rfl⟩:=Option.map_eq_some_iff.1 h1;exact .inr ⟨x,vs,hx,rfl,k⟩
theorem chainW_len {l:List Want} {n:ByteArray} {us:List ByteArray} (h:ChainW l n us):us.length≤l.length:=by
 have:=h.len
 rwa [List.length_map] at this
theorem depGo_chain {l:List Want} (hp:ParW l): ∀(us:List ByteArray) (m:Nat) (d:Int) (n:ByteArray),ChainW l n us→d+us.length≤l.length→us.length≤m→depGo l (m+1) d n=if us=[] then 0 else d+us.length
  | us, m, d, n, h, hd, hm => by
    rw [depGo_succ]
    rcases chainW_inv h with ⟨h0,e0⟩|⟨x,vs,h0,e0,k⟩
    · subst e0
      rw [h0,if_pos rfl]
    subst e0;rw [h0];dsimp only;rw [List.length_cons] at hd hm ⊢;rw [if_neg (show¬d+1>(l.length:Int) by omega),if_neg (show¬(n::vs=[]) by simp)]
    rcases chainW_inv k with ⟨h1,rfl⟩|⟨y,ws,h1,rfl,k1⟩
    · have e:x.f1=⟨#[]⟩:=by
        refine Classical.byContradiction fun q=> ?_
        obtain ⟨z,hz⟩:=hp.2 x (lookW_mem h0).1 q;rw [h1] at hz;cases hz
      rw [if_pos e];rfl
    have e:x.f1≠⟨#[]⟩:=fun q=>by rw [q,hp.root] at h1;cases h1
    rw [if_neg e]
    match m,hm with
    |0,hm=>omega
    | m + 1, hm =>
      rw [depGo_chain hp (x.f1::ws) m (d+1) x.f1 k (by omega) (by omega),if_neg (by simp)]
      omega
theorem depGo_none {l:List Want} (hp:ParW l): ∀(m:Nat) (d:Int) (n:ByteArray),d+m=l.length→(∀us,¬ChainW l n us)→depGo l (m+1) d n= -1
  | m, d, n, hd, h => by
    rw [depGo_succ]
    cases hx:lookW l n with
    |none=>exact absurd (chainW_nil hx) (h [])
    | some x =>
      dsimp only;by_cases c:d+1>(l.length:Int)
      · rw [if_pos c]
      have e:x.f1≠⟨#[]⟩:=fun q=>h [n] (chainW_cons hx (chainW_nil (by rw [q];exact hp.root)))
      rw [if_neg c,if_neg e]
      match m,hd with
      |0,hd=>omega
      |m+1,hd=>exact depGo_none hp m (d+1) x.f1 (by omega) (fun us k=>h _ (chainW_cons hx k))
theorem depR_chain {l:List Want} (hp:ParW l) {n:ByteArray} {us:List ByteArray} (h:ChainW l n us):depR l n=us.length:=by
  have hl:=chainW_len h;unfold depR;rw [depGo_chain hp us l.length 0 n h (by omega) hl];by_cases e:us=[]
  · rw [if_pos e,e];rfl
  rw [if_neg e];omega
theorem depR_none {l:List Want} (hp:ParW l) {n:ByteArray} (h: ∀us,¬ChainW l n us):depR l n= -1:=depGo_none hp _ _ _ (by omega) h
theorem depR_some {l:List Want} (hp:ParW l) {n:ByteArray} {x:Want} (hx:lookW l n=some x) (h:0<depR l n):depR l n=depR l x.f1+1∧0≤depR l x.f1∧(x.f1≠⟨#[]⟩→0<depR l x.f1):=by
  by_cases c: ∃us,ChainW l n us
  rotate_left
  · rw [depR_none hp (fun us k => c ⟨us, k⟩)] at h
    omega
  obtain ⟨us,c⟩:=c
  rcases chainW_inv c with ⟨h1,rfl⟩|⟨y,vs,h1,rfl,k⟩
  · rw [hx] at h1;cases h1
  rw [hx] at h1
  obtain rfl:=Option.some.inj h1
  rw [depR_chain hp c,depR_chain hp k,List.length_cons]
  refine ⟨by omega,by omega,fun e=> ?_⟩
  rcases chainW_inv k with ⟨h2,rfl⟩|⟨z,ws,h2,rfl,k2⟩
  · obtain ⟨z, hz⟩ := hp.2 x (lookW_mem hx).1 e
    rw [h2] at hz;cases hz
  rw [List.length_cons];omega
def mayW (w:Want):Bool:=decide ((w.f0≠⟨#[]⟩∧w.f0.size≤24)∧MayP w.f2)
def ph1:List Want→List Want→Int
 |_,[]=>0
 |pre,w::ws=>if mayW w=true then (if (lookW pre w.f0).isSome=true then 3 else ph1 (pre++ [w]) ws) else 1
def sumGo (n:ByteArray):List Want→Vec→Vec
 |[],v=>v
 |w::ws,v=>sumGo n ws (if w.f1=n then vadd v w.f2 else v)
def sumW (l:List Want) (n:ByteArray):Vec:=sumGo n l ⟨0,0,0⟩
def noPar (l:List Want) (w:Want):Bool:=decide (w.f1≠⟨#[]⟩∧lookW l w.f1=none)
def checkR (l:List Want):Int:=
 if l.length>120 then 4 else if ph1 [] l≠0 then ph1 [] l else if l.any (noPar l)=true then 2 else if l.any (fun w=>decide (depR l w.f0<1))=true then 10 else if l.any (fun w=> !decide (LeP (sumW l w.f0) w.f2))=true then 11 else 0
theorem ph1_ok: ∀{ws pre:List Want},ph1 pre ws=0→ ∀w∈ws,mayW w=true
  |[],_,_,w,hw=>by cases hw
  | x :: ws, pre, h, w, hw => by
    unfold ph1 at h;by_cases c:mayW x=true;rotate_left
    · rw [if_neg c] at h;omega
    rw [if_pos c] at h;by_cases e:(lookW pre x.f0).isSome=true
    · rw [if_pos e] at h;omega
    rw [if_neg e] at h
    rcases List.mem_cons.1 hw with rfl|hw
    · exact c
    exact ph1_ok h w hw
theorem ph1_nodup: ∀{ws pre:List Want},ph1 pre ws=0→(pre.map (·.f0)).Nodup→((pre++ws).map (·.f0)).Nodup
  |[],pre,_,hn=>by rwa [List.append_nil]
  | x :: ws, pre, h, hn => by
    unfold ph1 at h;by_cases c:mayW x=true;rotate_left
    · rw [if_neg c] at h;omega
    rw [if_pos c] at h;by_cases e:(lookW pre x.f0).isSome=true
    · rw [if_pos e] at h;omega
    rw [if_neg e] at h
    have q:=ph1_nodup h (by
      rw [List.map_append,List.map_cons,List.map_nil,List.nodup_append];refine ⟨hn,by simp, ?_⟩;intro a ha b hb;obtain ⟨y,hy,rfl⟩:=List.mem_map.1 ha;rw [List.mem_singleton] at hb;subst hb;have hz:lookW pre x.f0=none:=by simpa using e
      exact fun q=>lookW_none.1 hz y hy q)
    rwa [List.append_assoc] at q
theorem ph1_01: ∀(ws pre:List Want),ph1 pre ws=0∨ph1 pre ws=1∨ph1 pre ws=3
  |[],_=> .inl rfl
  | x :: ws, pre => by
    unfold ph1
    split
    rotate_left
    · exact .inr (.inl rfl)
    split
    · exact .inr (.inr rfl)
    exact ph1_01 ws _
theorem mayW_iff {w:Want}:mayW w=true↔(w.f0≠⟨#[]⟩∧w.f0.size≤24)∧MayP w.f2:=by unfold mayW;rw [decide_eq_true_iff]
structure TreeW (l:List Want):Prop where
 len:l.length≤120
 may: ∀w∈l,mayW w=true
 nodup:(l.map (·.f0)).Nodup
 par:ParW l
 dep: ∀w∈l,1≤depR l w.f0
theorem any_false {α:Type} {p:α→Bool} {l:List α}: ¬l.any p=true↔ ∀x∈l,p x=false:=by simp
theorem checkR_tree {l:List Want} (h:checkR l=0∨checkR l=11):TreeW l:=by
  unfold checkR at h;by_cases c0:l.length>120
  · rw [if_pos c0] at h;omega
  rw [if_neg c0] at h;by_cases c1:ph1 [] l≠0
  · rw [if_pos c1] at h
    rcases ph1_01 l [] with q|q|q<;>omega
  rw [if_neg c1] at h;have c1':ph1 [] l=0:=by omega
  by_cases c2:l.any (noPar l)=true
  · rw [if_pos c2] at h;omega
  rw [if_neg c2] at h;by_cases c3:l.any (fun w=>decide (depR l w.f0<1))=true
  · rw [if_pos c3] at h;omega
  have hm:=ph1_ok c1';refine ⟨by omega,hm, ?_,⟨fun w hw=>(mayW_iff.1 (hm w hw)).1.1,fun w hw e=> ?_⟩,fun w hw=> ?_⟩
  · have := ph1_nodup c1' (by simp)
    rwa [List.nil_append] at this
  rotate_left
  · have q := any_false.1 c3 w hw
    rw [decide_eq_false_iff_not] at q
    omega
  have q:=any_false.1 c2 w hw;unfold noPar at q;rw [decide_eq_false_iff_not] at q
  cases hx:lookW l w.f1 with
  |none=>exact absurd ⟨e,hx⟩ q
  |some x=>exact ⟨x,rfl⟩
theorem checkR_of {l:List Want} (h:TreeW l):checkR l=if l.any (fun w=> !decide (LeP (sumW l w.f0) w.f2))=true then 11 else 0:=by
  have e1:ph1 [] l=0:=by
    have: ∀ws pre:List Want,(∀w∈ws,mayW w=true)→((pre++ws).map (·.f0)).Nodup→ph1 pre ws=0:=by
      intro ws
      induction ws with
      |nil=>intro pre _ _;rfl
      | cons x ws ih =>
        intro pre hm hn;unfold ph1;rw [if_pos (hm x (by simp)),if_neg,ih (pre++ [x]) (fun w hw=>hm w (by simp [hw])) (by rwa [List.append_assoc])]
        have hz:lookW pre x.f0=none:=lookW_none.2 fun y hy q=>by
          rw [List.map_append,List.map_cons,List.nodup_append] at hn;exact hn.2.2 y.f0 (List.mem_map_of_mem hy) x.f0 (by simp) q
        rw [hz];simp
    exact this l [] h.may (by simpa using h.nodup)
  unfold checkR;rw [if_neg (by have:=h.len;omega),if_neg (by omega),if_neg,if_neg]
  · rw [any_false]
    intro w hw
    rw [decide_eq_false_iff_not]
    have:=h.dep w hw
    omega
  rw [any_false];intro w hw;unfold noPar;rw [decide_eq_false_iff_not];rintro ⟨a,b⟩;obtain ⟨x,hx⟩:=h.par.2 w hw a;rw [b] at hx;cases hx
theorem nx64 {i n:Nat} (h:i<n) (hn:n<1000000):wrap64 ((i:Int)+1)=((i+1:Nat):Int):=by rw [w64 (by omega) (by omega)];rfl
def UptoV (n:Nat) (v:Vec):Prop:= ∀c:Comp,0≤c.of v∧c.of v≤1099511627776*(n:Int)
theorem uptoV_add {n:Nat} {v u:Vec} (h:UptoV n v) (hu:MayP u):UptoV (n+1) (vadd v u):=fun c=>by
 have:=h c;have:=hu c
 rw [of_vadd]
 omega
theorem uptoV_succ {n:Nat} {v:Vec} (h:UptoV n v):UptoV (n+1) v:=fun c=>by have:=h c;omega
theorem add_upto {n:Nat} (hn:n≤1000) {v u:Vec} (h:UptoV n v) (hu:MayP u):r10_Add.f v.f0 v.f1 v.f2 u.f0 u.f1 u.f2=some ((vadd v u).f0,(vadd v u).f1,(vadd v u).f2):=by
 have a:=h .cpu;have b:=h .mem;have d:=h .pods;have a':=hu .cpu;have b':=hu .mem;have d':=hu .pods;simp only [Comp.of] at a b d a' b' d';unfold r10_Add.f;rw [w64 (by omega) (by omega),w64 (by omega) (by omega),w64 (by omega) (by omega)]
 rfl
def badSum (l:List Want) (w:Want):Bool:= !decide (LeP (sumW l w.f0) w.f2)
def badDep (l:List Want) (w:Want):Bool:=decide (depR l w.f0<1)
theorem chk_l4 {l:List Want} (hl:l.length≤120) (hm: ∀w∈l,MayP w.f2) {i:Nat} (hi:i<l.length) {r:Int} (hr:LeP (sumW l l[i].f0) l[i].f2→Ev (fun k=>r10_Check.l3 k l ((i+1:Nat):Int)) r) (hb: ¬LeP (sumW l l[i].f0) l[i].f2→r=11):
    ∀(d j:Nat) (v:Vec),l.length - j=d→j≤l.length→UptoV j v→sumGo l[i].f0 (l.drop j) v=sumW l l[i].f0→Ev (fun k=>r10_Check.l4 k l (i:Int) (j:Int) v.f0 v.f1 v.f2) r
  | 0, j, v, hd, hj, hv, hs => by
    rw [List.drop_of_length_le (by omega)] at hs;unfold sumGo at hs;refine Ev.step (fun k=>r10_Check.l4.eq_2 (k:=k) ..) ?_;rw [rd_wantN l hi,nx64 hi (by omega)];refine Ev.congr (fun k=>by rw [if_neg (by omega),if_pos (by omega),if_pos (by omega),r10_Le_eq]) ?_;simp only [Option.bind_some];by_cases c:LeP (sumW l l[i].f0) l[i].f2
    · exact Ev.congr (fun k=>if_pos (by rw [decide_eq_true_iff,hs];exact c)) (hr c)
    rw [hb c];exact Ev.congr (fun k=>if_neg (by rw [decide_eq_true_iff,hs];exact c)) (Ev.now _)
  | d + 1, j, v, hd, hj, hv, hs => by
    have hlt:j<l.length:=by omega
    rw [List.drop_eq_getElem_cons hlt] at hs;unfold sumGo at hs;refine Ev.step (fun k=>r10_Check.l4.eq_2 (k:=k) ..) ?_;rw [rd_wantN l hi,rd_wantN l hlt,nx64 hlt (by omega)];refine Ev.congr (fun k=>by rw [if_pos (by omega),if_pos (by omega),if_pos (by omega),if_pos (by omega)]) ?_;by_cases c:l[j].f1=l[i].f0
    · rw [if_pos c] at hs
      refine Ev.congr (fun k=>by rw [if_pos (nm_inj.2 c),add_upto (by omega) hv (hm _ (List.getElem_mem hlt))]) ?_
      simp only [Option.bind_some]
      exact chk_l4 hl hm hi hr hb d (j+1) _ (by omega) (by omega) (uptoV_add hv (hm _ (List.getElem_mem hlt))) hs
    rw [if_neg c] at hs;refine Ev.congr (fun k=>if_neg (fun q=>c (nm_inj.1 q))) ?_;exact chk_l4 hl hm hi hr hb d (j+1) v (by omega) (by omega) (uptoV_succ hv) hs
theorem chk_l3 {l:List Want} (hl:l.length≤120) (hm: ∀w∈l,MayP w.f2): ∀(d i:Nat),l.length - i=d→i≤l.length→Ev (fun k=>r10_Check.l3 k l (i:Int)) (if (l.drop i).any (badSum l)=true then 11 else 0)
  | 0, i, hd, hi => by
    rw [List.drop_of_length_le (by omega)];exact Ev.step (fun k=>r10_Check.l3.eq_2 (k:=k) ..) (Ev.congr (fun k=>if_neg (by omega)) (Ev.now _))
  | d + 1, i, hd, hi => by
    have hlt:i<l.length:=by omega
    have next:=chk_l3 hl hm d (i+1) (by omega) (by omega);rw [List.drop_eq_getElem_cons hlt,List.any_cons];refine Ev.step (fun k=>r10_Check.l3.eq_2 (k:=k) ..) (Ev.congr (fun k=>if_pos (by omega)) ?_);refine chk_l4 hl hm hlt (fun c=> ?_) (fun c=> ?_) l.length 0 ⟨0,0,0⟩ (by omega) (by omega) (fun c=>by cases c<;>exact ⟨Int.le_refl _,by simp [Comp.of]⟩) (by rw [List.drop_zero];rfl)
    · rw [show badSum l l[i] = false from by unfold badSum; rw [decide_eq_true c]; rfl, Bool.false_or]
      exact next
    rw [show badSum l l[i]=true from by unfold badSum;rw [decide_eq_false c];rfl,Bool.true_or,if_pos rfl]
theorem chk_l2 {l:List Want} (hl:l.length≤120) {r:Int} (hr:Ev (fun k=>r10_Check.l3 k l 0) r): ∀(d i:Nat),l.length - i=d→i≤l.length→Ev (fun k=>r10_Check.l2 k l (i:Int)) (if (l.drop i).any (badDep l)=true then 10 else r)
  | 0, i, hd, hi => by
    rw [List.drop_of_length_le (by omega)];exact Ev.step (fun k=>r10_Check.l2.eq_2 (k:=k) ..) (Ev.congr (fun k=>if_neg (by omega)) hr)
  | d + 1, i, hd, hi => by
    have hlt:i<l.length:=by omega
    have next:=chk_l2 hl hr d (i+1) (by omega) (by omega);rw [List.drop_eq_getElem_cons hlt,List.any_cons];refine Ev.step (fun k=>r10_Check.l2.eq_2 (k:=k) ..) ?_;rw [rd_wantN l hlt,nx64 hlt (by omega)];refine Ev.congr (fun k=>by rw [if_pos (by omega),if_pos (by omega)]) (Ev.bind (r10_Depth_ev l l[i].f0 (by omega)) ?_);by_cases c:depR l l[i].f0<1
    · rw [show badDep l l[i] = true from decide_eq_true c, Bool.true_or, if_pos rfl]
      exact Ev.congr (fun k=>if_pos c) (Ev.now _)
    rw [show badDep l l[i]=false from decide_eq_false c,Bool.false_or];exact Ev.congr (fun k=>if_neg c) next
theorem chk_l1 {l:List Want} (hl:l.length≤120) {r:Int} (hr:Ev (fun k=>r10_Check.l2 k l 0) r): ∀(d i:Nat),l.length - i=d→i≤l.length→Ev (fun k=>r10_Check.l1 k l (i:Int)) (if (l.drop i).any (noPar l)=true then 2 else r)
  | 0, i, hd, hi => by
    rw [List.drop_of_length_le (by omega)];exact Ev.step (fun k=>r10_Check.l1.eq_2 (k:=k) ..) (Ev.congr (fun k=>if_neg (by omega)) hr)
  | d + 1, i, hd, hi => by
    have hlt:i<l.length:=by omega
    have next:=chk_l1 hl hr d (i+1) (by omega) (by omega);rw [List.drop_eq_getElem_cons hlt,List.any_cons];refine Ev.step (fun k=>r10_Check.l1.eq_2 (k:=k) ..) ?_;rw [rd_wantN l hlt,nx64 hlt (by omega)];refine Ev.congr (fun k=>by rw [if_pos (by omega),if_pos (by omega)]) ?_;by_cases e:l[i].f1=⟨#[]⟩
    · rw [show noPar l l[i] = false from decide_eq_false (fun q => q.1 e), Bool.false_or]
      exact Ev.congr (fun k=>if_pos (nm_empty.2 e)) next
    refine Ev.congr (fun k=>if_neg (fun q=>e (nm_empty.1 q))) (Ev.bind (r10_wanted_ev l l[i].f1 (by omega)) ?_);by_cases c:lookW l l[i].f1=none
    · rw [show noPar l l[i] = true from decide_eq_true ⟨e, c⟩, Bool.true_or, if_pos rfl]
      exact Ev.congr (fun k=>if_pos (wfnd_neg.2 c)) (Ev.now _)
    rw [show noPar l l[i]=false from decide_eq_false (fun q=>c q.2),Bool.false_or];exact Ev.congr (fun k=>if_neg (fun q=>c (wfnd_neg.1 q))) next
theorem take_next {l:List Want} {i:Nat} (h:i<l.length):l.take (i+1)=l.take i++ [l[i]]:=by
 rw [List.take_add_one,List.getElem?_eq_getElem h];rfl
theorem chk_l0 {l:List Want} (hl:l.length≤120) {r:Int} (hr:ph1 [] l=0→Ev (fun k=>r10_Check.l1 k l 0) r): ∀(d i:Nat),l.length - i=d→i≤l.length→ph1 [] l=ph1 (l.take i) (l.drop i)→Ev (fun k=>r10_Check.l0 k l (i:Int)) (if ph1 [] l≠0 then ph1 [] l else r)
  | 0, i, hd, hi, he => by
    rw [List.drop_of_length_le (by omega)] at he;unfold ph1 at he;have he':ph1 [] l=0:=by cases l<;>exact he
    rw [if_neg (by omega)];exact Ev.step (fun k=>r10_Check.l0.eq_2 (k:=k) ..) (Ev.congr (fun k=>if_neg (by omega)) (hr he'))
  | d + 1, i, hd, hi, he => by
    have hlt:i<l.length:=by omega
    have next:=chk_l0 hl hr d (i+1) (by omega) (by omega);rw [List.drop_eq_getElem_cons hlt] at he;have he2:ph1 (l.take i) (l[i]::l.drop (i+1))=if mayW l[i]=true then (if (lookW (l.take i) l[i].f0).isSome=true then 3 else ph1 (l.take i++ [l[i]]) (l.drop (i+1))) else 1:=rfl;rw [he2,←take_next hlt] at he
    have j1: ∀b,b= !mayW l[i]→Ev (fun k=>r10_Check.j1 k l (i:Int) b) (if ph1 [] l≠0 then ph1 [] l else r):=by
      intro b hb;refine Ev.step (fun k=>r10_Check.j1.eq_2 (k:=k) ..) ?_;rw [rd_wantN l hlt,nx64 hlt (by omega),Int.toNat_natCast];by_cases c:mayW l[i]=true;rotate_left
      · rw [if_neg c] at he
        rw [Bool.eq_false_iff.2 c] at hb
        subst hb
        rw [he,if_pos (by decide)]
        exact Ev.congr (fun k=>if_pos rfl) (Ev.now _)
      rw [if_pos c] at he;rw [c] at hb;subst hb;refine Ev.congr (fun k=>by rw [if_neg (by simp),if_pos (by omega),if_pos (by omega),if_pos (by omega)]) (Ev.bind (r10_wanted_ev (l.take i) l[i].f0 (by rw [List.length_take];omega)) ?_);by_cases e:(lookW (l.take i) l[i].f0).isSome=true
      · rw [if_pos e] at he
        rw [he,if_pos (by decide)]
        exact Ev.congr (fun k=>if_pos (wfnd_ge.2 (Option.isSome_iff_exists.1 e))) (Ev.now _)
      rw [if_neg e] at he;exact Ev.congr (fun k=>if_neg (fun q=>e (Option.isSome_iff_exists.2 (wfnd_ge.1 q)))) (next he)
    refine Ev.step (fun k=>r10_Check.l0.eq_2 (k:=k) ..) ?_;rw [rd_wantN l hlt];refine Ev.congr (fun k=>by rw [if_pos (by omega),if_pos (by omega),r10_MayName_eq,r10_MayVec_eq]) ?_;simp only [Option.bind_some];by_cases e:l[i].f0≠⟨#[]⟩∧l[i].f0.size≤24;rotate_left
    · refine Ev.congr (fun k => if_neg (by rw [decide_eq_true_iff]; exact e)) (j1 _ ?_)
      unfold mayW
      rw [decide_eq_false (fun h=>e h.1)];rfl
    refine Ev.congr (fun k=>if_pos (decide_eq_true e)) (j1 _ ?_);unfold mayW;by_cases q:MayP l[i].f2
    · rw [decide_eq_true (show MayP ⟨l[i].f2.f0,l[i].f2.f1,l[i].f2.f2⟩ from q),decide_eq_true ⟨e,q⟩]
    rw [decide_eq_false (show¬MayP ⟨l[i].f2.f0,l[i].f2.f1,l[i].f2.f2⟩ from q),decide_eq_false (fun h=>q h.2)]
theorem r10_Check_ev (l:List Want):Ev (fun k=>r10_Check.f k l) (checkR l):=by
  unfold r10_Check.f checkR;by_cases c:l.length>120
  · rw [if_pos c]
    exact Ev.congr (fun k=>if_pos (by omega)) (Ev.now _)
  rw [if_neg c];refine Ev.congr (fun k=>if_neg (by omega)) ?_;refine chk_l0 (by omega) (fun h0=> ?_) l.length 0 (by omega) (by omega) (by rw [List.take_zero,List.drop_zero]);have hm: ∀w∈l,MayP w.f2:=fun w hw=>(mayW_iff.1 (ph1_ok h0 w hw)).2
  have h3:=chk_l3 (by omega) hm l.length 0 (by omega) (by omega);have h2:=chk_l2 (by omega) h3 l.length 0 (by omega) (by omega);have h1:=chk_l1 (by omega) h2 l.length 0 (by omega) (by omega);rw [List.drop_zero] at h1 h2 h3;exact h1
def bef (l:List Want) (a b:Want):Bool:=decide (depR l a.f0<depR l b.f0)||(decide (depR l a.f0=depR l b.f0) && lt a.f0 b.f0)
def insT (l:List Want) (w:Want) (out:List Want):List Want:=out.takeWhile (fun a=>bef l a w)++w::out.dropWhile (fun a=>bef l a w)
def topGo (l:List Want) (out:List Want):List Want→List Want
 |[]=>out
 |w::ws=>topGo l (insT l w out) ws
def topR (l:List Want):List Want:=topGo l [] l
theorem len_insT (l:List Want) (w:Want) (out:List Want):(insT l w out).length=out.length+1:=by
 unfold insT;have:=congrArg List.length (List.takeWhile_append_dropWhile (p:=fun a=>bef l a w) (l:=out))
 rw [List.length_append] at this;rw [List.length_append,List.length_cons]
 omega
theorem while_at {α:Type} {p:α→Bool}: ∀{out:List α} {j:Nat},j≤out.length→(∀m (h:m<out.length),m<j→p out[m]=true)→(∀h:j<out.length,p out[j]=false)→out.takeWhile p=out.take j∧out.dropWhile p=out.drop j
  |[],0,_,_,_=>⟨rfl,rfl⟩
  |[],j+1,h,_,_=>by simp at h
  | x :: out, 0, _, _, h => by
    have q:=h (by simp);rw [List.getElem_cons_zero] at q;rw [List.takeWhile_cons,List.dropWhile_cons,q];exact ⟨rfl,rfl⟩
  | x :: out, j + 1, hj, h1, h2 => by
    have q:=h1 0 (by simp) (by omega);rw [List.getElem_cons_zero] at q;rw [List.takeWhile_cons,List.dropWhile_cons,q];obtain ⟨a,b⟩:=while_at (p:=p) (out:=out) (j:=j) (by simpa using hj) (fun m h hm=>by have:=h1 (m+1) (by simpa using h) (by omega);simpa using this) (fun h=>by have:=h2 (by simpa using h);simpa using this)
    simp [a,b]
theorem top_put {l out:List Want} (hl:l.length≤1000) (ho:out.length≤1000) {i:Nat} (hi:i<l.length) {j:Nat} (hj:j≤out.length) {r:List Want} (hr:Ev (fun k=>r10_Top.l0 k l (insT l l[i] out) ((i+1:Nat):Int)) r)
  (h1: ∀m (h:m<out.length),m<j→bef l out[m] l[i]=true) (h2: ∀h:j<out.length,bef l out[j] l[i]=false):Ev (fun k=>r10_Top.l0 k l ((([]++out.take j)++ [l[i]])++out.drop j) ((i+1:Nat):Int)) r:=by
 obtain ⟨a,b⟩:=while_at (p:=fun a=>bef l a l[i]) hj h1 h2;unfold insT at hr;rw [a,b] at hr;rw [List.nil_append,List.append_assoc,List.singleton_append];exact hr
theorem top_l1 {l out:List Want} (hl:l.length≤1000) (ho:out.length≤1000) {i:Nat} (hi:i<l.length) {r:List Want} (hr:Ev (fun k=>r10_Top.l0 k l (insT l l[i] out) ((i+1:Nat):Int)) r):
    ∀(d j:Nat),out.length - j=d→j≤out.length→(∀m (h:m<out.length),m<j→bef l out[m] l[i]=true)→Ev (fun k=>r10_Top.l1 k l out (i:Int) (depR l l[i].f0) (j:Int)) r
  | 0, j, hd, hj, h1 => by
    refine Ev.step (fun k=>r10_Top.l1.eq_2 (k:=k) ..) ?_;rw [rd_wantN l hi,nx64 hi (by omega),Int.toNat_natCast];have lt1:([]++out.take j).length≤1000:=by rw [List.nil_append,List.length_take];omega
    have lt2:(out.drop j).length≤1000:=by rw [List.length_drop];omega
    refine Ev.congr (fun k=>by rw [if_neg (by omega),Option.bind_some,if_pos (by omega),if_pos (by omega),Option.bind_some,if_pos (by rw [List.length_nil,List.length_take];omega),Option.bind_some,if_pos (by omega),if_pos (by omega),if_pos (by omega),Option.bind_some,Option.bind_some,if_pos (by rw [List.length_append,List.length_singleton];omega)]) ?_;exact top_put hl ho hi hj hr h1 (fun h=>by omega)
  | d + 1, j, hd, hj, h1 => by
    have hlt:j<out.length:=by omega
    have lt1:([]++out.take j).length≤1000:=by rw [List.nil_append,List.length_take];omega
    have lt2:(out.drop j).length≤1000:=by rw [List.length_drop];omega
    have next:bef l out[j] l[i]=true→Ev (fun k=>r10_Top.l1 k l out (i:Int) (depR l l[i].f0) ((j+1:Nat):Int)) r:=fun hb=>top_l1 hl ho hi hr d (j+1) (by omega) (by omega) (fun m h hm=>by
      by_cases e:m=j
      · subst e;exact hb
      exact h1 m h (by omega))
    refine Ev.step (fun k=>r10_Top.l1.eq_2 (k:=k) ..) ?_;rw [rd_wantN l hi,rd_wantN out hlt,nx64 hi (by omega),nx64 hlt (by omega),Int.toNat_natCast];refine Ev.congr (fun k=>by rw [if_pos (by omega),if_pos (by omega)]) (Ev.bind (r10_Depth_ev l out[j].f0 (by omega)) ?_);by_cases c1:depR l out[j].f0<depR l l[i].f0
    · exact Ev.congr (fun k=>if_pos c1) (next (by unfold bef;rw [decide_eq_true c1];rfl))
    refine Ev.congr (fun k=>if_neg c1) (Ev.bind (r10_Depth_ev l out[j].f0 (by omega)) ?_);by_cases c2:depR l out[j].f0=depR l l[i].f0;rotate_left
    · refine Ev.congr (fun k => by rw [if_neg c2, Option.bind_some, if_pos (by omega), Option.bind_some, if_pos (by rw [List.length_nil, List.length_take]; omega), Option.bind_some, if_pos (by omega), if_pos (by omega), if_pos (by omega), Option.bind_some, Option.bind_some, if_pos (by rw [List.length_append, List.length_singleton]; omega)]) ?_
      exact top_put hl ho hi hj hr h1 (fun h=>by unfold bef;rw [decide_eq_false c1,decide_eq_false c2];simp)
    refine Ev.congr (fun k=>by rw [if_pos c2,if_pos (by omega),if_pos (by omega)]) ?_;by_cases c3:lt out[j].f0 l[i].f0=true
    · exact Ev.congr (fun k=>if_pos (show Op.bytesLess out[j].f0.toList l[i].f0.toList=true from c3)) (next (by unfold bef;rw [decide_eq_true c2,c3];simp))
    refine Ev.congr (fun k=>by rw [if_neg (show¬Op.bytesLess out[j].f0.toList l[i].f0.toList=true from c3),Option.bind_some,if_pos (by omega),Option.bind_some,if_pos (by rw [List.length_nil,List.length_take];omega),Option.bind_some,if_pos (by omega),Option.bind_some,Option.bind_some,if_pos (by rw [List.length_append,List.length_singleton];omega)]) ?_;exact top_put hl ho hi hj hr h1 (fun h=>by unfold bef;rw [decide_eq_false c1,Bool.eq_false_iff.2 c3];simp)
theorem top_l0 {l:List Want} (hl:l.length≤500): ∀(d i:Nat) (out:List Want),l.length - i=d→i≤l.length→out.length=i→Ev (fun k=>r10_Top.l0 k l out (i:Int)) (topGo l out (l.drop i))
  | 0, i, out, hd, hi, ho => by
    rw [List.drop_of_length_le (by omega)];exact Ev.step (fun k=>r10_Top.l0.eq_2 (k:=k) ..) (Ev.congr (fun k=>if_neg (by omega)) (Ev.now _))
  | d + 1, i, out, hd, hi, ho => by
    have hlt:i<l.length:=by omega
    have next:=top_l0 hl d (i+1) (insT l l[i] out) (by omega) (by omega) (by rw [len_insT];omega);rw [List.drop_eq_getElem_cons hlt];refine Ev.step (fun k=>r10_Top.l0.eq_2 (k:=k) ..) ?_;rw [rd_wantN l hlt];refine Ev.congr (fun k=>by rw [if_pos (by omega),if_pos (by omega)]) (Ev.bind (r10_Depth_ev l l[i].f0 (by omega)) ?_);exact top_l1 (by omega) (by omega) hlt next out.length 0 (by omega) (by omega) (fun m h hm=>by omega)
theorem r10_Top_ev {l:List Want} (hl:l.length≤500):Ev (fun k=>r10_Top.f k l) (topR l):=by
 have h:=top_l0 hl l.length 0 [] (by omega) (by omega) rfl;rw [List.drop_zero] at h;exact h
theorem bef_iff {l:List Want} {a b:Want}:bef l a b=true↔depR l a.f0<depR l b.f0∨(depR l a.f0=depR l b.f0∧lt a.f0 b.f0=true):=by unfold bef;simp
theorem bef_trans {l:List Want} {a b c:Want} (h:bef l a b=true) (k:bef l b c=true):bef l a c=true:=by
  rw [bef_iff] at h k ⊢
  rcases h with h|⟨h,h'⟩<;>rcases k with k|⟨k,k'⟩
  · exact .inl (by omega)
  · exact .inl (by omega)
  · exact .inl (by omega)
  exact .inr ⟨by omega,lt_trans h' k'⟩
theorem bef_total {l:List Want} {a b:Want} (h:bef l a b=false) (hn:a.f0≠b.f0):bef l b a=true:=by
  rw [←Bool.not_eq_true,bef_iff] at h;rw [bef_iff];by_cases e:depR l a.f0=depR l b.f0;rotate_left
  · exact .inl (by have: ¬depR l a.f0<depR l b.f0:=fun q=>h (.inl q);omega)
  refine .inr ⟨e.symm,lt_total ?_ hn⟩;rw [←Bool.not_eq_true];exact fun q=>h (.inr ⟨e,q⟩)
theorem insT_perm (l:List Want) (w:Want) (out:List Want):(insT l w out).Perm (w::out):=by
 unfold insT;have:=List.perm_middle (a:=w) (l₁:=out.takeWhile (fun a=>bef l a w)) (l₂:=out.dropWhile (fun a=>bef l a w))
 rwa [List.takeWhile_append_dropWhile] at this
theorem topGo_perm (l:List Want): ∀(ws out:List Want),(topGo l out ws).Perm (out++ws)
  |[],out=>by rw [List.append_nil];exact .refl _
  | w :: ws, out => by
    unfold topGo;refine (topGo_perm l ws _).trans ?_;refine ((insT_perm l w out).append_right ws).trans ?_;exact List.perm_middle.symm
theorem topR_perm (l:List Want):(topR l).Perm l:=topGo_perm l l []
theorem insT_sorted {l:List Want} {w:Want} {out:List Want} (h:out.Pairwise (fun a b=>bef l a b=true)) (hn: ∀a∈out,a.f0≠w.f0):(insT l w out).Pairwise (fun a b=>bef l a b=true):=by
  induction out with
  |nil=>simp [insT]
  | cons x out ih =>
    rw [List.pairwise_cons] at h;unfold insT;rw [List.takeWhile_cons,List.dropWhile_cons];by_cases c:bef l x w=true
    · rw [c]
      show (x::insT l w out).Pairwise _
      rw [List.pairwise_cons]
      refine ⟨fun a ha=> ?_,ih h.2 (fun a ha=>hn a (by simp [ha]))⟩
      rcases List.mem_cons.1 ((insT_perm l w out).mem_iff.1 ha) with rfl|ha
      · exact c
      exact h.1 a ha
    rw [Bool.eq_false_iff.2 c]
    show (w::x::out).Pairwise _
    have hw:=bef_total (Bool.eq_false_iff.2 c) (hn x (by simp));rw [List.pairwise_cons,List.pairwise_cons];refine ⟨fun a ha=> ?_,h⟩
    rcases List.mem_cons.1 ha with rfl|ha
    · exact hw
    exact bef_trans hw (h.1 a ha)
theorem topGo_sorted {l:List Want}: ∀{ws out:List Want},out.Pairwise (fun a b=>bef l a b=true)→((out++ws).map (·.f0)).Nodup→(topGo l out ws).Pairwise (fun a b=>bef l a b=true)
  |[],out,h,_=>h
  | w :: ws, out, h, hn => by
    unfold topGo;have hn2:=hn;rw [List.map_append,List.map_cons,List.nodup_append] at hn2;refine topGo_sorted (insT_sorted h (fun a ha q=>hn2.2.2 a.f0 (List.mem_map_of_mem ha) w.f0 (by simp) q)) ?_;refine (((insT_perm l w out).append_right ws).map _).nodup_iff.2 ?_;exact ((List.perm_middle (a:=w) (l₁:=out) (l₂:=ws)).map _).nodup_iff.1 hn
theorem topR_sorted {l:List Want} (hn:(l.map (·.f0)).Nodup):(topR l).Pairwise (fun a b=>bef l a b=true):=topGo_sorted (by simp) (by simpa using hn)
theorem look_map {f:Item→Item} (hf: ∀x,(f x).f0=x.f0) (l:List Item) (n:ByteArray):look (l.map f) n=(look l n).map f:=by
 unfold look
 rw [List.find?_map]
 congr 2
 funext x
 simp [hf]
theorem Chain.map {f:Item→Item} (hf: ∀x,(f x).f0=x.f0) (hp: ∀x,(f x).f1=x.f1) {l:List Item} {n:ByteArray} {us:List ByteArray} (h:Chain l n us):Chain (l.map f) n us:=by
 induction h with
 |nil h=>exact .nil (by rw [look_map hf,h];rfl)
 |@cons n x us h k ih=>exact .cons (x:=f x) (by rw [look_map hf,h];rfl) (by rw [hp];exact ih)
theorem up_self {l:List Item} {n:ByteArray} {x:Item} (h:look l n=some x):n∈up l n:=by
 unfold up;rw [upGo_some h]
 simp
theorem chain_kids {l:List Item} (hl:RightP l) {n:ByteArray} {us:List ByteArray} (h:Chain l n us) (v:Int) {x:Item} (hx:x∈l):
    sumBy (fun y=>if y.f1=x.f0∧y.f0∈us then v else 0) l=if x.f0∈us∧x.f0≠n then v else 0:=by
  induction h with
  |nil _=>rw [sumBy_zero (fun y _=>by simp)];simp
  | @cons n z us h k ih =>
    obtain ⟨hz,rfl⟩:=look_mem h
    have hnd:=(Chain.cons h k).nodup
    rw [List.nodup_cons] at hnd
    have e:sumBy (fun y=>if y.f1=x.f0∧y.f0∈z.f0::us then v else 0) l=sumBy (fun y=>(if y.f0=z.f0 then (if z.f1=x.f0 then v else 0) else 0)+(if y.f1=x.f0∧y.f0∈us then v else 0)) l:=by
      refine sumBy_congr fun y hy=> ?_
      by_cases e1:y.f0=z.f0
      rotate_left
      · simp [e1]
      have:=hl.eq_of hy hz e1
      subst this
      by_cases e2:y.f1=x.f0<;>simp [e2,hnd.1]
    rw [e,sumBy_add,ih,sumBy_one hl.nodup hz]
    by_cases e2:z.f1=x.f0
    rotate_left
    · by_cases e3 : x.f0 = z.f0
      · simp [e2, e3, hnd.1]
        exact fun q=>absurd (q.trans e3.symm) e2
      have e4:x.f0≠z.f1:=fun q=>e2 q.symm
      simp [e2,e3,e4]
    have hm:x.f0∈us:=by
      rw [e2] at k
      cases k with
      |nil k=>rw [hl.look hx] at k;cases k
      |cons _ _=>simp
    have hne:x.f0≠z.f0:=fun q=>hnd.1 (by rw [←q];exact hm)
    simp [e2,hm,hne]
def admF (us:List ByteArray) (n:ByteArray) (v:Vec) (x:Item):Item:=⟨x.f0,x.f1,x.f2,if x.f0=n then vadd x.f3 v else x.f3,if x.f0∈us then vadd x.f4 v else x.f4,x.f5⟩
def admL (l:List Item) (n:ByteArray) (v:Vec):List Item:=l.map (admF (up l n) n v)
theorem csum_adm {l:List Item} (hl:RightP l) (c:Comp) (n:ByteArray) (v:Vec) {x:Item} (hx:x∈l):
  csum c (admL l n v) x.f0=csum c l x.f0+if x.f0∈up l n∧x.f0≠n then c.of v else 0:=by
 unfold csum admL;rw [sumBy_map,←chain_kids hl (hl.chainAll n) (c.of v) hx,←sumBy_add];refine sumBy_congr fun y hy=> ?_
 simp only [admF];by_cases e1:y.f1=x.f0<;>by_cases e2:y.f0∈up l n<;>simp [e1,e2,of_vadd]
theorem adm_right {l:List Item} (hl:RightP l) {n:ByteArray} (v:Vec) (hin: ∃x,look l n=some x)
    (hown: ∀x∈l,x.f0=n→MayP (vadd x.f3 v)) (hsub: ∀x∈l,x.f0∈up l n→MayP (vadd x.f4 v)) (hfit: ∀x∈l,x.f0∈up l n→LeP (vadd x.f4 v) x.f2):RightP (admL l n v) where
  len:=by unfold admL;rw [List.length_map];exact hl.len
  ok:=by
    intro y hy
    obtain ⟨x,hx,rfl⟩:=List.mem_map.1 hy
    have k:=hl.ok x hx
    refine ⟨k.name,k.size,k.lim, ?_, ?_, ?_,k.ver⟩
    · show MayP (if x.f0 = n then vadd x.f3 v else x.f3)
      split
      · exact hown x hx (by assumption)
      exact k.own
    · show MayP (if x.f0 ∈ up l n then vadd x.f4 v else x.f4)
      split
      · exact hsub x hx (by assumption)
      exact k.sub
    show LeP (if x.f0∈up l n then vadd x.f4 v else x.f4) x.f2
    split
    · exact hfit x hx (by assumption)
    exact k.fit
  sorted:=by
    unfold admL
    rw [List.pairwise_map]
    exact hl.sorted
  par:=by
    intro y hy
    obtain ⟨x,hx,rfl⟩:=List.mem_map.1 hy
    rcases hl.par x hx with h|⟨z,h⟩
    · exact .inl h
    exact .inr ⟨_,by unfold admL;rw [look_map (f:=admF (up l n) n v) (fun _=>rfl)];show (look l x.f1).map _=_;rw [h];rfl⟩
  sum:=by
    intro c y hy
    obtain ⟨x,hx,rfl⟩:=List.mem_map.1 hy
    show c.of (if x.f0∈up l n then vadd x.f4 v else x.f4)=c.of (if x.f0=n then vadd x.f3 v else x.f3)+csum c (admL l n v) x.f0
    rw [csum_adm hl c n v hx]
    have hs:=hl.sum c x hx
    by_cases e:x.f0=n
    rotate_left
    · by_cases hm : x.f0 ∈ up l n
      · simp [e,hm,of_vadd];omega
      simp [e,hm];omega
    have hm:x.f0∈up l n:=by
      obtain ⟨z,hz⟩:=hin
      rw [e];exact up_self hz
    simp [e] at hm ⊢
    rw [if_pos hm,of_vadd,of_vadd,hs,e];omega
  chain:=by
    intro y hy
    obtain ⟨x,hx,rfl⟩:=List.mem_map.1 hy
    obtain ⟨us,h⟩:=hl.chain x hx
    exact ⟨us,h.map (f:=admF (up l n) n v) (fun _=>rfl) (fun _=>rfl)⟩
def insL (l:List Item) (it:Item):List Item:=l.takeWhile (fun x=>lt x.f0 it.f0)++it::l.dropWhile (fun x=>lt x.f0 it.f0)
theorem look_ins (a b:List Item) (it:Item) (n:ByteArray) (h:look (a++b) it.f0=none):look (a++it::b) n=if n=it.f0 then some it else look (a++b) n:=by
  unfold look at h ⊢;rw [List.find?_append] at h ⊢;rw [List.find?_append,List.find?_cons];by_cases e:it.f0=n;rotate_left
  · have e' : n ≠ it.f0 := fun q => e q.symm
    simp [e,e']
  subst e
  cases ha:a.find? (fun x=>decide (x.f0=it.f0)) with
  |some y=>rw [ha] at h;simp at h
  |none=>simp
theorem insL_eq (l:List Item) (it:Item): ∃a b,l=a++b∧insL l it=a++it::b∧(∀x∈a,lt x.f0 it.f0=true)∧(∀x t,b=x::t→lt x.f0 it.f0=false):=by
  refine ⟨l.takeWhile (fun x=>lt x.f0 it.f0),l.dropWhile (fun x=>lt x.f0 it.f0),(List.takeWhile_append_dropWhile).symm,rfl,fun x hx=> ?_,fun x t e=> ?_⟩
  · exact List.all_eq_true.1 (List.all_takeWhile (p:=fun x:Item=>lt x.f0 it.f0) (l:=l)) x hx
  have:=List.head?_dropWhile_not (fun x:Item=>lt x.f0 it.f0) l
  rw [e] at this
  simpa using this
theorem csum_ins (c:Comp) (a b:List Item) (it:Item) (n:ByteArray):csum c (a++it::b) n=csum c (a++b) n+if it.f1=n then c.of it.f4 else 0:=by
 unfold csum;rw [sumBy_append,sumBy_append,sumBy_cons];omega
theorem ins_right {l:List Item} (hl:RightP l) {it:Item} (hi:ItemOK it) (h0: ∀c:Comp,c.of it.f3=0∧c.of it.f4=0) (hn:look l it.f0=none)
    (hp:it.f1=⟨#[]⟩∨ ∃y,look l it.f1=some y) (hlen:l.length<120):RightP (insL l it):=by
  obtain ⟨a,b,e,e',ha,hb⟩:=insL_eq l it;rw [e'];subst e;have hlk:=fun n=>look_ins a b it n hn
  have hmem: ∀x,x∈a++it::b↔x=it∨x∈a++b:=fun x=>by simp;constructor<;>(intro h;rcases h with h|h|h<;>simp [h])
  have hnew: ∀m y,look (a++b) m=some y→m≠it.f0:=fun m y h q=>by rw [q,hn] at h;cases h
  have hne:it.f0≠⟨#[]⟩:=hi.name
  have hpar: ∀x∈a++b,x.f1≠it.f0:=fun x hx q=>by
    rcases hl.par x hx with h|⟨y,h⟩
    · exact hne (q.symm.trans h)
    exact hnew _ _ h q
  have hch: ∀{n us},Chain (a++b) n us→n≠it.f0→Chain (a++it::b) n us:=by
    intro n us h
    induction h with
    |nil h=>intro q;exact .nil (by rw [hlk,if_neg q];exact h)
    | @cons n x us h k ih =>
      intro q;exact .cons (x:=x) (by rw [hlk,if_neg q];exact h) (ih (hpar x (look_mem h).1))
  have hip:it.f1≠it.f0:=by
    rcases hp with h|⟨y,h⟩
    · rw [h];exact fun q=>hne q.symm
    exact hnew _ _ h
  refine ⟨?_, ?_, ?_, ?_, ?_, ?_⟩
  · simp at hlen ⊢;omega
  · intro x hx
    rcases (hmem x).1 hx with rfl|hx
    · exact hi
    exact hl.ok x hx
  · have hs := hl.sorted
    rw [List.pairwise_append] at hs ⊢
    obtain ⟨h1,h2,h3⟩:=hs
    have hbx: ∀y∈b,lt it.f0 y.f0=true:=by
      intro y hy
      cases b with
      |nil=>cases hy
      | cons x t =>
        have hx:lt it.f0 x.f0=true:=lt_total (hb x t rfl) (fun q=>look_none.1 hn x (by simp) q)
        rcases List.mem_cons.1 hy with rfl|hy
        · exact hx
        exact lt_trans hx ((List.pairwise_cons.1 h2).1 y hy)
    refine ⟨h1,List.pairwise_cons.2 ⟨hbx,h2⟩,fun x hx y hy=> ?_⟩
    rcases List.mem_cons.1 hy with rfl|hy
    · exact ha x hx
    exact h3 x hx y hy
  · intro x hx
    rcases (hmem x).1 hx with rfl|hx
    · rcases hp with h | ⟨y, h⟩
      · exact .inl h
      exact .inr ⟨y,by rw [hlk,if_neg hip];exact h⟩
    rcases hl.par x hx with h|⟨y,h⟩
    · exact .inl h
    exact .inr ⟨y,by rw [hlk,if_neg (hpar x hx)];exact h⟩
  · intro c x hx
    rw [csum_ins,(h0 c).2,ite_self,Int.add_zero]
    rcases (hmem x).1 hx with rfl|hx
    rotate_left
    · exact hl.sum c x hx
    rw [(h0 c).1,(h0 c).2]
    unfold csum
    rw [sumBy_zero (fun y hy=>if_neg (hpar y hy))];rfl
  intro x hx
  rcases (hmem x).1 hx with rfl|hx
  · have := hch (hl.chainAll x.f1) hip
    exact ⟨_, .cons (x:=x) (by rw [hlk,if_pos rfl]) this⟩
  obtain ⟨us,h⟩:=hl.chain x hx;exact ⟨us,hch h (fun q=>look_none.1 hn x hx q)⟩
theorem r10_copied_eq (l:List Item) (h:l.length<1000000):r10_copied.f l=some l:=by
 unfold r10_copied.f;simp only [Option.bind_some,List.length_nil,List.nil_append];rw [if_pos (by omega)]
theorem r10_Find_l0 (l:List Item) (n:ByteArray) (hl:l.length<1000000): ∀(d i:Nat),l.length - i=d→i≤l.length→
    Ev (fun k=>r10_Find.l0 k l n i) (fidx (fun x:Item=>x.f0.toList==n.toList) (l.drop i) i)
  | 0, i, hd, hi => by
    obtain rfl:i=l.length:=by omega
    refine Ev.step (f:=fun _=>some (-1)) (fun k=> ?_) (by rw [List.drop_length];exact Ev.now _);simp only [r10_Find.l0];rw [if_neg (by omega)]
  | d + 1, i, hd, hi => by
    have hlt:i<l.length:=by omega
    rw [fidx_drop _ zItem l i hlt];have hrd:rd_T79 l (i:Int)=l.getD i zItem:=by rw [rd_item,Int.toNat_natCast]
    by_cases e:(l.getD i zItem).f0.toList=n.toList
    · rw [if_pos (beq_iff_eq.2 e)]
      refine Ev.step (f:=fun _=>some (i:Int)) (fun k=> ?_) (Ev.now _)
      simp only [r10_Find.l0]
      rw [if_pos (by omega),if_pos (by omega),hrd,if_pos e]
    rw [if_neg (fun q=>e (beq_iff_eq.1 q))];refine Ev.step (f:=fun k=>r10_Find.l0 k l n ((i+1:Nat):Int)) (fun k=> ?_) (r10_Find_l0 l n hl d (i+1) (by omega) (by omega));simp only [r10_Find.l0];rw [if_pos (by omega),if_pos (by omega),hrd,if_neg e,w64 (by omega) (by omega)]
    rfl
theorem r10_Find_ev (l:List Item) (n:ByteArray) (hl:l.length<1000000):Ev (fun k=>r10_Find.f k l n) (fnd l n):=r10_Find_l0 l n hl _ 0 rfl (by omega)
theorem r10_Up_l0 (l:List Item) (hl:l.length<1000000): ∀(m:Nat) (n:ByteArray) (out:List ByteArray),out.length+m=l.length+1→
    Ev (fun k=>r10_Up.l0 k l out (fnd l n)) (out++upGo l m n)
  | 0, n, out, hm => by
    rw [upGo.eq_1,List.append_nil];refine Ev.step (f:=fun _=>some out) (fun k=> ?_) (Ev.now _);simp only [r10_Up.l0];by_cases h:0≤fnd l n
    · rw [if_pos h,if_neg (by omega)]
    rw [if_neg h]
  | m + 1, n, out, hm => by
    cases h:look l n with
    | none =>
      rw [upGo_none h,List.append_nil];refine Ev.step (f:=fun _=>some out) (fun k=> ?_) (Ev.now _);simp only [r10_Up.l0];rw [fnd_none h,if_neg (by omega)]
    | some x =>
      rw [upGo_some h];have h0:=fnd_ge.2 ⟨x,h⟩;have h1:=fnd_lt l n;obtain ⟨hx,hn⟩:=look_mem h;refine Ev.step (f:=fun k=>(r10_Find.f k l x.f1).bind fun t=>r10_Up.l0 k l (out++ [n]) t) (fun k=> ?_) (Ev.bind (r10_Find_ev l x.f1 hl) ?_)
      · simp only [r10_Up.l0]
        rw [if_pos h0,if_pos (by omega),if_pos h0,if_pos h1,if_pos (by omega),fnd_rd h,hn]
      have:=r10_Up_l0 l hl m x.f1 (out++ [n]) (by simp;omega)
      simpa using this
theorem r10_Up_ev (l:List Item) (n:ByteArray) (hl:l.length<1000000):Ev (fun k=>r10_Up.f k l n) (up l n):=
 Ev.bind (r10_Find_ev l n hl) (by have:=r10_Up_l0 l hl (l.length+1) n [] (by simp);rw [List.nil_append] at this;exact this)
theorem set_at {l:List Item} (hn:(l.map (·.f0)).Nodup) {n:ByteArray} {x:Item} (h:look l n=some x) (y:Item):
    l.set (fnd l n).toNat y=l.map (fun z=>if z.f0=n then y else z):=by
  obtain ⟨j,h1,h2,h3,h4,h5⟩:=fnd_some h
  rw [h2,Int.toNat_natCast]
  have hx:l[j]=x:=by rw [←h3];simp [h1]
  apply List.ext_getElem (by simp)
  intro m hm hm'
  simp only [List.length_set] at hm
  rw [List.getElem_set,List.getElem_map]
  by_cases e:j=m
  · subst e
    rw [if_pos rfl,if_pos (by rw [hx];exact h4)]
  rw [if_neg e,if_neg]
  intro q
  have h6:(l.map (·.f0))[j]'(by simpa using h1)=(l.map (·.f0))[m]'(by simpa using hm):=by simp [hx,h4,q]
  exact e ((List.getElem_inj hn).1 h6)
theorem fnd_map {f:Item→Item} (hf: ∀x,(f x).f0=x.f0) (l:List Item) (n:ByteArray):fnd (l.map f) n=fnd l n:=by
 have: ∀(l:List Item) (i:Int),fidx (fun x:Item=>x.f0.toList==n.toList) (l.map f) i=fidx (fun x:Item=>x.f0.toList==n.toList) l i:=by
  intro l
  induction l with
  |nil=>intro i;rfl
  |cons x l ih=>intro i;simp only [List.map_cons,fidx,hf,ih]
 exact this l 0
def admS (us:List ByteArray) (v:Vec) (x:Item):Item:=⟨x.f0,x.f1,x.f2,x.f3,if x.f0∈us then vadd x.f4 v else x.f4,x.f5⟩
def admR (l:List Item) (n:ByteArray) (v:Vec):List Item×Int:=
 if¬MayP v then ([],1) else if (look l n).isNone=true then ([],2) else if∀x∈l,x.f0∈up l n→LeP (vadd x.f4 v) x.f2 then (admL l n v,0) else ([],12)
theorem vadd_wrap {a b:Vec} (ha:MayP a) (hb:MayP b):(wrap64 (a.f0+b.f0),wrap64 (a.f1+b.f1),wrap64 (a.f2+b.f2))=((vadd a b).f0,(vadd a b).f1,(vadd a b).f2):=by
 have a0:=ha .cpu;have a1:=ha .mem;have a2:=ha .pods;have b0:=hb .cpu;have b1:=hb .mem;have b2:=hb .pods;simp only [Comp.of] at a0 a1 a2 b0 b1 b2;rw [w64 (by omega) (by omega),w64 (by omega) (by omega),w64 (by omega) (by omega)]
 rfl
theorem r10_Add_eq {a b:Vec} (ha:MayP a) (hb:MayP b):r10_Add.f a.f0 a.f1 a.f2 b.f0 b.f1 b.f2=some ((vadd a b).f0,(vadd a b).f1,(vadd a b).f2):=by
 unfold r10_Add.f;rw [vadd_wrap ha hb]
theorem look_admS (us:List ByteArray) (v:Vec) (l:List Item) (n:ByteArray):look (l.map (admS us v)) n=(look l n).map (admS us v):=look_map (f:=admS us v) (fun _=>rfl) l n
theorem drop_cons {us:List ByteArray} {i:Nat} (h:i<us.length):us.drop i=rdOf ByteArray.empty us i::us.drop (i+1):=by
 rw [List.drop_eq_getElem_cons h];simp [rdOf,h]
theorem take_snoc_ {us:List ByteArray} {i:Nat} (h:i<us.length):us.take (i+1)=us.take i++ [rdOf ByteArray.empty us i]:=by
 rw [List.take_succ_eq_append_getElem h];simp [rdOf,h]
theorem fnd_admS (us:List ByteArray) (v:Vec) (l:List Item) (n:ByteArray):fnd (l.map (admS us v)) n=fnd l n:=fnd_map (f:=admS us v) (fun _=>rfl) l n
theorem nodup_admS {us:List ByteArray} {v:Vec} {l:List Item} (h:(l.map (·.f0)).Nodup):((l.map (admS us v)).map (·.f0)).Nodup:=by
 rw [List.map_map];exact h
theorem r10_Admit_l0 {l:List Item} (hl:RightP l) (n:ByteArray) {v:Vec} (hv:MayP v) (hin: ∃x,look l n=some x): ∀(d i:Nat),(up l n).length - i=d→i≤(up l n).length→
    Ev (fun k=>r10_Admit.l0 k n (up l n) (l.map (admS ((up l n).take i) v)) i v.f0 v.f1 v.f2) (if∀x∈l,x.f0∈(up l n).drop i→LeP (vadd x.f4 v) x.f2 then (admL l n v,0) else ([],12))
  | 0, i, hd, hi => by
    obtain rfl:i=(up l n).length:=by omega
    rw [List.drop_length,List.take_length,if_pos (by simp)];obtain ⟨x,hx⟩:=hin;obtain ⟨hm,hxn⟩:=look_mem hx;have hlk:look (l.map (admS (up l n) v)) n=some (admS (up l n) v x):=by rw [look_admS,hx];rfl
    have h0:0≤fnd l n:=fnd_ge.2 ⟨x,hx⟩;have h1:fnd l n<l.length:=fnd_lt l n;obtain ⟨K,hK⟩:=r10_Find_ev (l.map (admS (up l n) v)) n (by rw [List.length_map];have:=hl.len;omega);dsimp only at hK;refine ⟨K+1,fun k hk=> ?_⟩;obtain ⟨k,rfl⟩: ∃m,k=m+1:=⟨k - 1,by omega⟩;have hrd:=fnd_rd hlk;rw [fnd_admS] at hrd;simp only [r10_Admit.l0];rw [if_neg (by omega),hK k (by omega),fnd_admS];simp only [Option.bind_some];rw [if_pos h0,if_pos (by rw [List.length_map];omega),hrd,r10_Add_eq (a:=(admS (up l n) v x).f3) (hl.ok x hm).own hv];simp only [Option.bind_some];have hset:=set_at (nodup_admS (us:=up l n) (v:=v) hl.nodup) hlk;rw [fnd_admS] at hset;rw [hset,List.map_map]
    congr 2
    unfold admL;refine List.map_congr_left fun z hz=> ?_
    simp only [Function.comp,admF];by_cases e:z.f0=n
    · obtain rfl : z = x := hl.eq_of hz hm (e.trans hxn.symm)
      rw [if_pos (by exact e),if_pos e]
      rfl
    rw [if_neg (by exact e),if_neg e]
    rfl
  | d + 1, i, hd, hi => by
    have hlt:i<(up l n).length:=by omega
    have hc:=hl.chainAll n;have hnd:=hc.nodup;rw [drop_cons hlt];have hu:rdOf ByteArray.empty (up l n) i∈up l n:=by simp [rdOf,hlt]
    obtain ⟨x,hx⟩:=hc.mem_look hu;obtain ⟨hm,hxn⟩:=look_mem hx
    have hnot:x.f0 ∉ (up l n).take i:=by
      rw [hxn];rw [←List.take_append_drop i (up l n),drop_cons hlt,List.nodup_append] at hnd;exact fun q=>hnd.2.2 _ q _ (by simp) rfl
    generalize hU:rdOf ByteArray.empty (up l n) i=u at*;have hlk:look (l.map (admS ((up l n).take i) v)) u=some (admS ((up l n).take i) v x):=by rw [look_admS,hx];rfl
    have hsame:admS ((up l n).take i) v x=x:=by unfold admS;rw [if_neg hnot]
    rw [hsame] at hlk;have h0:0≤fnd l u:=fnd_ge.2 ⟨x,hx⟩;have h1:fnd l u<l.length:=fnd_lt l u;have hrd:=fnd_rd hlk;have hset:=set_at (nodup_admS (us:=(up l n).take i) (v:=v) hl.nodup) hlk;rw [fnd_admS] at hrd;rw [fnd_admS] at hset;obtain ⟨K,hK⟩:=r10_Find_ev (l.map (admS ((up l n).take i) v)) u (by rw [List.length_map];have:=hl.len;omega);obtain ⟨K',hK'⟩:=r10_Admit_l0 hl n hv hin d (i+1) (by omega) (by omega);dsimp only at hK hK';refine ⟨K+K'+1,fun k hk=> ?_⟩;obtain ⟨k,rfl⟩: ∃m,k=m+1:=⟨k - 1,by omega⟩;have hup:(up l n).length≤l.length:=hc.len;have hlen:=hl.len;simp only [r10_Admit.l0];rw [if_pos (by omega),if_pos (by omega),hU,hK k (by omega),fnd_admS];simp only [Option.bind_some];rw [if_pos h0,if_pos (by rw [List.length_map];omega),hrd,r10_Add_eq (a:=x.f4) (hl.ok x hm).sub hv];simp only [Option.bind_some];rw [hset,List.map_map]
    have hnew:(l.map ((fun z:Item=>if z.f0=u then (⟨x.f0,x.f1,⟨x.f2.f0,x.f2.f1,x.f2.f2⟩,⟨x.f3.f0,x.f3.f1,x.f3.f2⟩,⟨(vadd x.f4 v).f0,(vadd x.f4 v).f1,(vadd x.f4 v).f2⟩,x.f5⟩:Item) else z) ∘ admS ((up l n).take i) v))=l.map (admS ((up l n).take (i+1)) v):=by
      refine List.map_congr_left fun z hz=> ?_
      simp only [Function.comp];rw [take_snoc_ hlt,hU];by_cases e:z.f0=u
      · obtain rfl : z = x := hl.eq_of hz hm (e.trans hxn.symm)
        rw [if_pos (by exact e)]
        unfold admS
        rw [if_pos (by simp [e])]
      rw [if_neg (by exact e)];unfold admS
      simp [e]
    rw [hnew];have hlk2:look (l.map (admS ((up l n).take (i+1)) v)) u=some (admS ((up l n).take (i+1)) v x):=by rw [look_admS,hx];rfl
    have hrd2:=fnd_rd hlk2;rw [fnd_admS] at hrd2;have hx2:admS ((up l n).take (i+1)) v x=⟨x.f0,x.f1,x.f2,x.f3,vadd x.f4 v,x.f5⟩:=by unfold admS;rw [if_pos (by rw [take_snoc_ hlt,hU,hxn];simp)]
    rw [hrd2,hx2,r10_Le_eq];simp only [Option.bind_some];by_cases hfit:LeP (vadd x.f4 v) x.f2;rotate_left
    · rw [if_neg (by simpa using hfit), if_neg (fun q => hfit (q x hm (by rw [hxn]; simp)))]
      rfl
    rw [if_pos (by exact decide_eq_true hfit),w64 (by omega) (by omega)];have h2:=hK' k (by omega);rw [show ((i:Int)+1)=((i+1:Nat):Int) from by omega,h2]
    congr 1
    refine ite_iff ⟨fun q z hz hzm=> ?_,fun q z hz hzm=>q z hz (by simp [hzm])⟩
    rcases List.mem_cons.1 hzm with e|hzm
    · obtain rfl : z = x := hl.eq_of hz hm (e.trans hxn.symm)
      exact hfit
    exact q z hz hzm
theorem r10_Admit_ev {l:List Item} (hl:RightP l) (n:ByteArray) (v:Vec):Ev (fun k=>r10_Admit.f k l n v.f0 v.f1 v.f2) (admR l n v):=by
  have hlen:=hl.len;refine Ev.bind (r10_Up_ev l n (by omega)) ?_;have hmv:r10_MayVec.f v.f0 v.f1 v.f2=some (decide (MayP v)):=r10_MayVec_eq _ _ _;unfold admR;by_cases hv:MayP v;rotate_left
  · rw [if_pos hv]
    refine Ev.congr (fun k=> ?_) (Ev.now _)
    rw [hmv]
    simp only [Option.bind_some]
    rw [if_neg (by simpa using hv)]
    rfl
  rw [if_neg (by simpa using hv)]
  cases hx:look l n with
  | none =>
    rw [if_pos (show (none:Option Item).isNone=true from rfl)];refine Ev.congr (fun k=> ?_) (Ev.now _);rw [hmv];simp only [Option.bind_some];rw [if_pos (by exact decide_eq_true hv),show up l n=[] from upGo_none hx _]
    rfl
  | some x =>
    rw [if_neg (by simp)];have h:=r10_Admit_l0 hl n hv ⟨x,hx⟩ _ 0 rfl (by omega);rw [List.take_zero,List.drop_zero,show l.map (admS [] v)=l from by rw [show admS [] v=id from by funext z;simp [admS]];simp] at h;refine Ev.congr (fun k=> ?_) h;rw [hmv];simp only [Option.bind_some];have:(up l n).length≠0:=by have:=up_self hx;intro q;rw [List.length_eq_zero_iff.1 q] at this;cases this
    rw [if_pos (by exact decide_eq_true hv),if_neg (by omega),r10_copied_eq l (by omega)]
    rfl
def zVec:Vec:=⟨0,0,0⟩
def newItem (n p:ByteArray) (v:Vec):Item:=⟨n,p,v,zVec,zVec,1⟩
def creR (l:List Item) (n p:ByteArray) (v:Vec):List Item×Int:=
 if¬((n≠⟨#[]⟩∧n.size≤24)∧MayP v) then ([],1) else if (look l n).isSome=true then ([],3) else if p≠⟨#[]⟩∧(look l p).isNone=true then ([],2) else if 120≤l.length then ([],4) else (insL l (newItem n p v),0)
theorem insL_cons (x:Item) (l:List Item) (it:Item):insL (x::l) it=if lt x.f0 it.f0=true then x::insL l it else it::x::l:=by
 unfold insL;rw [List.takeWhile_cons,List.dropWhile_cons]
 cases lt x.f0 it.f0<;>simp
theorem r10_Create_l0 (n p:ByteArray) (v:Vec) (b:List Item): ∀(a l:List Item),l=a++b→l.length<1000000→Ev (fun k=>r10_Create.l0 k l n p a.length v.f0 v.f1 v.f2) (a++insL b (newItem n p v),0):=by
  induction b with
  | nil =>
    rintro a l rfl hl;simp only [List.append_nil] at hl ⊢;refine Ev.step (f:=fun _=>some (a++ [newItem n p v],0)) (fun k=> ?_) (Ev.now _);simp only [r10_Create.l0];rw [if_neg (by omega),if_pos (by omega),if_pos (by omega),Int.toNat_natCast,List.take_length,r10_copied_eq a (by omega)];simp only [Option.bind_some,List.drop_length,List.length_append,List.length_cons,List.length_nil];rw [if_pos (by omega),if_pos (by omega),List.append_nil]
    rfl
  | cons x b ih =>
    rintro a l rfl hl;have hlen:(a++x::b).length=a.length+b.length+1:=by simp;omega
    have hrd:rd_T79 (a++x::b) (a.length:Int)=x:=by rw [rd_item,Int.toNat_natCast];simp
    rw [insL_cons];by_cases e:lt x.f0 n=true
    · rw [if_pos (by exact e)]
      have h:=ih (a++ [x]) (a++x::b) (by simp) hl
      refine Ev.step (f:=fun k=>r10_Create.l0 k (a++x::b) n p (a++ [x]).length v.f0 v.f1 v.f2) (fun k=> ?_) (by simpa using h)
      simp only [r10_Create.l0]
      rw [if_pos (by omega),if_pos (by omega),hrd,if_pos (by exact e),w64 (by omega) (by omega)]
      simp
    rw [if_neg (by exact e)];refine Ev.step (f:=fun _=>some (a++newItem n p v::x::b,0)) (fun k=> ?_) (Ev.now _);simp only [r10_Create.l0];rw [if_pos (by omega),if_pos (by omega),hrd,if_neg (by exact e),if_pos (by omega),Int.toNat_natCast,List.take_left,r10_copied_eq a (by omega)];simp only [Option.bind_some,List.drop_left,List.length_append,List.length_cons,List.length_nil];rw [if_pos (by omega),if_pos (by omega)]
    simp
    rfl
theorem r10_Create_ev {l:List Item} (hl:l.length<1000000) (n p:ByteArray) (v:Vec):Ev (fun k=>r10_Create.f k l n p v.f0 v.f1 v.f2) (creR l n p v):=by
  have hmv:r10_MayVec.f v.f0 v.f1 v.f2=some (decide (MayP v)):=r10_MayVec_eq _ _ _;have hno: ∀e:Int,((r10_no.f e).bind fun bt=>some (bt.1,bt.2))=some (([]:List Item),e):=fun _=>rfl
  have hj1: ∀b,Ev (fun k=>r10_Create.j1 k l n p b v.f0 v.f1 v.f2) (if b=true then ([],2) else if 120≤l.length then ([],4) else (insL l (newItem n p v),0)):=by
    intro b
    cases b with
    | true =>
      refine Ev.step (f:=fun _=>some ([],2)) (fun k=> ?_) (Ev.now _);simp only [r10_Create.j1,if_true];exact hno 2
    | false =>
      simp only [Bool.false_eq_true,if_false];by_cases h:120≤l.length
      · rw [if_pos h]
        refine Ev.step (f:=fun _=>some ([],4)) (fun k=> ?_) (Ev.now _)
        simp only [r10_Create.j1,Bool.false_eq_true,if_false]
        rw [if_pos (by omega)];exact hno 4
      rw [if_neg h];refine Ev.step (f:=fun k=>r10_Create.l0 k l n p 0 v.f0 v.f1 v.f2) (fun k=> ?_) (by have:=r10_Create_l0 n p v l [] l rfl hl;simpa using this);simp only [r10_Create.j1,Bool.false_eq_true,if_false];rw [if_neg (by omega)]
  have hj0: ∀b,Ev (fun k=>r10_Create.j0 k l n p b v.f0 v.f1 v.f2) (if b=true then ([],1) else if (look l n).isSome=true then ([],3) else if p≠⟨#[]⟩∧(look l p).isNone=true then ([],2) else if 120≤l.length then ([],4) else (insL l (newItem n p v),0)):=by
    intro b
    cases b with
    | true =>
      refine Ev.step (f:=fun _=>some ([],1)) (fun k=> ?_) (Ev.now _);simp only [r10_Create.j0,if_true];exact hno 1
    | false =>
      simp only [Bool.false_eq_true,if_false];refine Ev.step (f:=fun k=>(r10_Find.f k l n).bind fun t=>if t≥0 then some ([],3) else if p.toList=([]:List UInt8) then r10_Create.j1 k l n p false v.f0 v.f1 v.f2 else (r10_Find.f k l p).bind fun t=>r10_Create.j1 k l n p (decide (t<0)) v.f0 v.f1 v.f2) (fun k=> ?_) (Ev.bind (r10_Find_ev l n hl) ?_)
      · simp only [r10_Create.j0,Bool.false_eq_true,if_false];rfl
      cases hn:look l n with
      | some x =>
        refine Ev.congr (fun k=> ?_) (Ev.now _);rw [if_pos (fnd_ge.2 ⟨x,hn⟩)];rfl
      | none =>
        simp only [Option.isSome_none,Bool.false_eq_true,if_false];by_cases hp:p=⟨#[]⟩
        · have h := hj1 false
          simp only [Bool.false_eq_true,if_false] at h
          rw [if_neg (fun q=>q.1 hp)]
          refine Ev.congr (fun k=> ?_) h
          rw [fnd_none hn,if_neg (by omega),if_pos (nm_empty.2 hp)]
        have h:=hj1 (decide (fnd l p<0));refine Ev.congr (g:=fun k=>_) (f:=fun k=>(r10_Find.f k l p).bind fun t=>r10_Create.j1 k l n p (decide (t<0)) v.f0 v.f1 v.f2) (fun k=> ?_) (Ev.bind (r10_Find_ev l p hl) ?_)
        · rw [fnd_none hn,if_neg (by omega),if_neg (fun q=>hp (nm_empty.1 q))]
        have e:(p≠⟨#[]⟩∧(look l p).isNone=true)↔(decide (fnd l p<0)=true):=by
          rw [decide_eq_true_iff,fnd_neg];simp [hp]
        rw [ite_iff e];exact h
  unfold creR;by_cases hn:n≠⟨#[]⟩∧n.size≤24
  · have h := hj0 (!decide (MayP v))
    rw [ite_iff (q:=(!decide (MayP v))=true) (by simp [hn])]
    refine Ev.congr (fun k=> ?_) h
    unfold r10_Create.f
    rw [r10_MayName_eq,hmv]
    simp only [Option.bind_some]
    rw [if_pos (by exact decide_eq_true hn)]
  have h:=hj0 true;rw [if_pos (fun q=>hn q.1)];rw [if_pos rfl] at h;refine Ev.congr (fun k=> ?_) h;unfold r10_Create.f;rw [r10_MayName_eq];simp only [Option.bind_some];rw [if_neg (by simpa using hn)]
theorem creR_right {l:List Item} (hl:RightP l) {n p:ByteArray} {v:Vec} (h:(creR l n p v).2=0):
    (creR l n p v).1=insL l (newItem n p v)∧RightP (insL l (newItem n p v))∧look l n=none∧l.length<120∧n≠⟨#[]⟩∧n.size≤24∧MayP v∧(p=⟨#[]⟩∨ ∃y,look l p=some y):=by
  unfold creR at h ⊢
  split at h
  · simp at h
  rename_i h1
  split at h
  · simp at h
  rename_i h2
  split at h
  · simp at h
  rename_i h3
  split at h
  · simp at h
  rename_i h4
  rw [if_neg h1,if_neg h2,if_neg h3,if_neg h4];obtain ⟨⟨h5,h6⟩,h7⟩:=Classical.not_not.1 h1
  have hn:look l n=none:=by cases q:look l n with
    |none=>rfl
    |some x=>rw [q] at h2;simp at h2
  have hp:p=⟨#[]⟩∨ ∃y,look l p=some y:=by
    by_cases e:p=⟨#[]⟩
    · exact .inl e
    right
    cases q:look l p with
    |none=>rw [q] at h3;exact absurd ⟨e,rfl⟩ h3
    |some y=>exact ⟨y,rfl⟩
  have hz: ∀c:Comp,c.of zVec=0:=fun c=>by cases c<;>rfl
  refine ⟨rfl,ins_right hl ⟨h5,h6,h7,fun c=> ?_,fun c=> ?_,fun c=> ?_, ?_⟩ (fun c=>⟨hz c,hz c⟩) hn hp (by omega),hn,by omega,h5,h6,h7,hp⟩
  · show 0≤c.of zVec∧c.of zVec≤_;rw [hz];omega
  · show 0≤c.of zVec∧c.of zVec≤_;rw [hz];omega
  · show c.of zVec≤c.of v;rw [hz];exact (h7 c).1
  show (1:Int)≤1∧(1:Int)≤_;omega
theorem mem_insL {l:List Item} {it x:Item}:x∈insL l it↔x=it∨x∈l:=by
 obtain ⟨a,b,e,e',_,_⟩:=insL_eq l it;rw [e',e];simp;constructor<;>(intro h;rcases h with h|h|h<;>simp [h])
theorem len_insL (l:List Item) (it:Item):(insL l it).length=l.length+1:=by
 obtain ⟨a,b,e,e',_,_⟩:=insL_eq l it;rw [e',e];simp;omega
theorem admR_right {l:List Item} (hl:RightP l) {n:ByteArray} {v:Vec} (h:(admR l n v).2=0):(admR l n v).1=admL l n v∧RightP (admL l n v)∧MayP v∧(∃x,look l n=some x)∧ ∀x∈l,x.f0∈up l n→LeP (vadd x.f4 v) x.f2:=by
  unfold admR at h ⊢
  split at h
  · simp at h
  rename_i h1
  split at h
  · simp at h
  rename_i h2
  split at h
  rotate_left
  · simp at h
  rename_i h3
  rw [if_neg h1,if_neg h2,if_pos h3];have hv:MayP v:=Classical.not_not.1 h1
  have hin: ∃x,look l n=some x:=by
    cases q:look l n with
    |none=>rw [q] at h2;simp at h2
    |some x=>exact ⟨x,rfl⟩
  have hsub: ∀x∈l,x.f0∈up l n→MayP (vadd x.f4 v):=fun x hx hm c=>by
    have a:=(hl.ok x hx).sub c;have b:=hv c;have d:=h3 x hx hm c;have e:=(hl.ok x hx).lim c;rw [of_vadd] at d ⊢;omega
  refine ⟨rfl,adm_right hl v hin (fun x hx e c=> ?_) hsub h3,hv,hin,h3⟩;have hm:x.f0∈up l n:=by obtain ⟨y,hy⟩:=hin;rw [e];exact up_self hy
  have a:=(hl.ok x hx).own c;have b:=hv c;have d:=hsub x hx hm c;have f:=hl.sum c x hx
  have g:0≤csum c l x.f0:=sumBy_nonneg fun y hy=>by
    split
    · exact ((hl.ok y hy).sub c).1
    omega
  rw [of_vadd] at d ⊢;omega
end Go.Proofs.Ytahidkjncljkaaa.Print

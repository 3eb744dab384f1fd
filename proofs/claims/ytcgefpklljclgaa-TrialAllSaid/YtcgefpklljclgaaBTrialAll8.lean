/- TrialAll: a part -/
import Derived.Test.YtcgefpklljclgaaBTrialAll0
import Derived.Test.YtcgefpklljclgaaBTrialAll1
import Derived.Test.YtcgefpklljclgaaBTrialAll3
import Derived.Test.YtcgefpklljclgaaBTrialAll4
import Derived.Test.YtcgefpklljclgaaBTrialAll6
import Derived.Test.YtcgefpklljclgaaBTrialAll7
namespace Go.Proofs.Ytcgefpklljclgaa.Print
open Go.RowKit Go.Proofs.YtcgefpklljclgaaW.PrintWords Go.Proofs.YtcgefpklljclgaaW.PrintLast Go.Proofs.YtcgefpklljclgaaW.PrintMore
attribute [local go_sem] max2_int min2_int max_two min_two max_three min_three max_four min_four
set_option linter.unusedVariables false
set_option linter.unusedSimpArgs false

def trial_Would.f (k:Nat) (l0:List (S31)) (a1:ByteArray) (a2_0:Int) (a2_1:Int) (a2_2:Int) (l3:List (S58)):Option (Bool×Bool):=(trial_Steps.f k l0 l3).bind fun bt2=>((trial_live_fits.f k l0 a1 a2_0 a2_1 a2_2).bind fun t8=>((trial_live_fits.f k bt2.1 a1 a2_0 a2_1 a2_2).bind fun t9=>(some (t8,t9))))
theorem trial_Would.mono: ∀a0 a1 a2 a3 a4 a5 k,LeO (trial_Would.f k a0 a1 a2 a3 a4 a5) (trial_Would.f (k+1) a0 a1 a2 a3 a4 a5):=by
 intro a0 a1 a2 a3 a4 a5 k
 unfold trial_Would.f
 repeat' first
  |(with_reducible exact trial_Steps.mono _ _ _)
  |(with_reducible exact trial_live_fits.mono _ _ _ _ _ _)
  |(with_reducible exact LeO.refl _)
  |(with_reducible exact LeO.none _)
  |(with_reducible refine LeO.ite ?_ ?_)
  |(with_reducible refine LeO.bind ?_ (fun _=> ?_))
  |exact trial_Steps.mono _ _ _
  |exact trial_live_fits.mono _ _ _ _ _ _
  |exact LeO.none _
  |refine LeO.ite ?_ ?_
  |refine LeO.bind ?_ (fun _=> ?_)
def trial_Would.T2:Bool×List (List Nat×List Nat):=(true,[([],[]),([0],[0]),([],[]),([],[]),([1,2,3],[1,2,3]),([],[]),([5],[5]),([6],[6]),([],[]),([],[]),([7,8,9,4],[7,8,9]),([4,10,0,1,2,3,4],[4]),([10,11,0,1,2,3,4,5,6,7,8,9,10,11],[10])])
def trial_Would.B2:List Nat:=[0,1,0,0,15,0,32,96,0,0,1023,2047,4095]
theorem trial_Would.tab2:rtab .any (opsOf Try.f101 2)=trial_Would.T2:=by kernel_rfl
theorem trial_Would.bits2:waitsOk trial_Would.T2.2 trial_Would.B2=true:=by kernel_rfl
set_option maxHeartbeats 8000000 in
set_option maxRecDepth 100000 in
theorem trial_Would.calls (k:Nat) (A0:Option Addr) (c0:Nat) (l0:List (S31)) (a1:ByteArray) (a2_0:Int) (a2_1:Int) (a2_2:Int) (A3:Option Addr) (c3:Nat) (l3:List (S58)) (r1:Bool) (r2:Bool) (w:World) (hr0:Kd.C k31 w A0 l0.length l0) (hc0:l0.length≤c0) (hr3:Kd.C k58 w A3 l3.length l3) (hc3:l3.length≤c3) (h:trial_Would.f k l0 a1 a2_0 a2_1 a2_2 l3=some (r1,r2)):
  Calls Try.prog 101 #[.slice A0 l0.length c0, .string a1, .agg #[.int .i64 a2_0, .int .i64 a2_1, .int .i64 a2_2], .slice A3 l3.length c3] w fun e w'=>e= .returned (.tuple #[.bool r1, .bool r2])∧Below w.heap.size w w':=by
 have HR0:=Aside0.mk hr0
 have HC0:=Aside0.mk hc0
 clear hr0 hc0
 have HR3:=Aside0.mk hr3
 have HC3:=Aside0.mk hc3
 clear hr3 hc3
 have HB:=am_ (Below.refl w.heap.size w)
 have H:((trial_Steps.f k l0 l3).bind fun bt2=>((trial_live_fits.f k l0 a1 a2_0 a2_1 a2_2).bind fun t8=>((trial_live_fits.f k bt2.1 a1 a2_0 a2_1 a2_2).bind fun t9=>(some (t8,t9)))))=some (r1,r2):=h
 clear h
 replace H:=Option.bind_eq_some_iff.mp H
 obtain ⟨⟨t2,t5,t6⟩,A50,H⟩:=H
 try dsimp only at H
 have A5:=Aside0.mk A50
 clear A50
 replace H:=Option.bind_eq_some_iff.mp H
 obtain ⟨t8,A60,H⟩:=H
 try dsimp only at H
 have A6:=Aside0.mk A60
 clear A60
 replace H:=Option.bind_eq_some_iff.mp H
 obtain ⟨t9,A70,H⟩:=H
 try dsimp only at H
 have A7:=Aside0.mk A70
 clear A70
 simp only [Option.some.injEq,Prod.mk.injEq] at H
 obtain ⟨rfl,rfl⟩:=H
 go_enter Try.func101,Try.ntmps101
 try go_wp2_with (first|((with_reducible refine gate_dst (N:=6) rfl ?_);refine bx_ (N:=6) (cs:=#[.int .i64 a2_0, .int .i64 a2_1, .int .i64 a2_2]) (t:=27) ?_;intro gb1 hg w8 hbox hb;have n0_:=am_ (below_step (zl0_ HB) hb);have n1_:=am_ (hbox);have n2_:=am_ ((zg0_ HB hg:w.heap.size≤gb1));have n3_:=am_ ((zg0_ HB hg:w.heap.size≤gb1));clear HB;have HB:=n0_;have BK1:=n1_;have GE1:=n3_;clear n0_ n1_ n2_ n3_;clear hb hbox hg)|((with_reducible refine gate_callee (f:=99) rfl ?_);refine gl_ (some 13) Try.func99 #[.slice A0 l0.length c0, .slice A3 l3.length c3] ?_;(with_reducible refine (trial_Steps.calls k _ _ l0 _ _ l3 t2 t5 t6 _ ?side1 ?side2 ?side3 ?side4 A5.out).mono ?_);(case side1=>exact zc_ (Kd.C_below HR0.out HB.out));(case side2=>exact HC0.out);(case side3=>exact zc_ (Kd.C_below HR3.out HB.out));(case side4=>exact HC3.out);rintro e w9 ⟨v3,rfl,ho0,hb⟩;refine ⟨_,rfl, ?_⟩;have HO4:=am_ (Kd.R_lower ho0 (below_size (zl1_ HB GE1)));replace BK1:=am_ (blk_below (zb_ BK1) hb);replace HB:=am_ (below_step (zl1_ HB GE1) hb);(try clear hb);(try clear hb2);(try clear hk);(try clear hi);(try clear ho0))|((with_reducible refine gate_dst (N:=10) rfl ?_);refine bx_ (N:=10) (cs:=#[.slice none 0 0, .int .i64 0, .int .i64 0]) (t:=113) ?_;intro gb7 hg w10 hbox hb;have n0_:=am_ (Kd.R_below (zr_ HO4) hb);have n1_:=am_ (blk_below (zb_ BK1) hb);have n2_:=am_ (below_step (zl1_ HB GE1) hb);have n3_:=am_ (hbox);have n5_:=am_ ((zg1_ HB GE1 hg:w.heap.size≤gb7));have n6_:=am_ ((zn_ BK1 hg:gb1≠gb7));have n7_:=am_ ((zm_ BK1 hg:gb7≠gb1));clear HO4;clear BK1;clear HB;have HO4:=n0_;have BK1:=n1_;have HB:=n2_;have BK7:=n3_;have GE7:=n5_;have NB1_7:=n6_;clear n0_ n1_ n2_ n3_ n5_ n6_ n7_;clear hb hbox hg;obtain ⟨Ao11,co11,eo11⟩:=Kd.R_slice HO4.out;subst eo11;obtain ⟨hcz13_0,hcz13_1,hcz13_2⟩:=x3_ BK7;have hfz13_0:=blk_frozen BK7.out 0;have hfz13_1:=blk_frozen BK7.out 1;have hfz13_2:=blk_frozen BK7.out 2))
 have n0_:Aside0 (Kd.R k31 31 (((w10.setCell ⟨gb7,0,none⟩ (.slice Ao11 t2.length co11)).setCell ⟨gb7,1,none⟩ (.int .i64 t5)).setCell ⟨gb7,2,none⟩ (.int .i64 t6)) w.heap.size (fun _=>True) (.slice Ao11 t2.length co11) t2):=⟨zy_ HO4 BK7⟩
 have n1_:Aside0 ((((w10.setCell ⟨gb7,0,none⟩ (.slice Ao11 t2.length co11)).setCell ⟨gb7,1,none⟩ (.int .i64 t5)).setCell ⟨gb7,2,none⟩ (.int .i64 t6)).heap[gb1]?=some (.cells #[.int .i64 a2_0, .int .i64 a2_1, .int .i64 a2_2] 27 (0,0))):=⟨zw_ BK1⟩
 have n2_:Aside0 ((((w10.setCell ⟨gb7,0,none⟩ (.slice Ao11 t2.length co11)).setCell ⟨gb7,1,none⟩ (.int .i64 t5)).setCell ⟨gb7,2,none⟩ (.int .i64 t6)).heap[gb7]?=some (.cells #[.slice Ao11 t2.length co11, .int .i64 t5, .int .i64 t6] 113 (0,0))):=⟨zw_ BK7⟩
 have n3_:Aside0 (Below w.heap.size w (((w10.setCell ⟨gb7,0,none⟩ (.slice Ao11 t2.length co11)).setCell ⟨gb7,1,none⟩ (.int .i64 t5)).setCell ⟨gb7,2,none⟩ (.int .i64 t6))):=⟨zl2_ HB GE1 GE7⟩
 (try clear HO4)
 (try clear BK1)
 (try clear BK7)
 (try clear HB)
 generalize (((w10.setCell ⟨gb7,0,none⟩ (.slice Ao11 t2.length co11)).setCell ⟨gb7,1,none⟩ (.int .i64 t5)).setCell ⟨gb7,2,none⟩ (.int .i64 t6))=w14 at n0_ n1_ n2_ n3_ ⊢
 have HO4:=n0_
 have BK1:=n1_
 have BK7:=n2_
 have HB:=n3_
 clear n0_ n1_ n2_ n3_
 replace HO4:=am_ (Kd.R_drew HO4.out)
 replace BK1:=am_ (blk_drew BK1.out)
 replace BK7:=am_ (blk_drew BK7.out)
 replace HB:=am_ (below_drew1 HB.out)
 refine start_ (n:=13) (S:=fun w'=>w'.cell? ⟨gb1,0,none⟩=some (.int .i64 a2_0)∧w'.cell? ⟨gb1,1,none⟩=some (.int .i64 a2_1)∧w'.cell? ⟨gb1,2,none⟩=some (.int .i64 a2_2)∧w'.cell? ⟨gb7,0,none⟩=some (.slice Ao11 t2.length co11)∧w'.cell? ⟨gb7,1,none⟩=some (.int .i64 t5)∧w'.cell? ⟨gb7,2,none⟩=some (.int .i64 t6)) (ds:=[]) (bt_ 13 0) (by kernel_rfl) rfl rfl ⟨(blk_cell BK1.out 0).trans rfl,(blk_cell BK1.out 1).trans rfl,(blk_cell BK1.out 2).trans rfl,(blk_cell BK7.out 0).trans rfl,(blk_cell BK7.out 1).trans rfl,(blk_cell BK7.out 2).trans rfl⟩ (fun hHeld=> ?_);refine with_tabW trial_Would.tab2 trial_Would.bits2 (fun HT_ HW_=> ?_)
 generalize w14.drew=w15 at HO4 BK1 BK7 HB hHeld ⊢
 refine pu_ (i:=0) (N:=some 14) (bt_ 13 1) HT_ ?_
 refine pu_ (i:=1) (N:=some 15) (bt_ 13 3) HT_ ?_
 refine pu_ (i:=2) (N:=some 16) (bt_ 13 7) HT_ ?_
 refine pu_ (i:=5) (N:=some 19) (bt_ 13 39) HT_ ?_
 refine pu_ (i:=8) (N:=some 22) (bt_ 13 295) HT_ ?_
 refine tk_ (i:=3) (N:=some 17) (bt_ 13 303) HT_ HW_ hHeld ?_
 refine tk_ (i:=6) (N:=some 20) (bt_ 13 367) HT_ HW_ hHeld ?_
 refine pu_ (i:=7) (N:=some 21) (bt_ 13 495) HT_ ?_
 refine tk_ (i:=9) (N:=some 23) (bt_ 13 1007) HT_ HW_ hHeld ?_
 refine on_ (i:=4) (N:=some 18) (bt_ 13 1023) HT_ (fun K hK=> ?_)
 refine gs_ Try.func155 #[.agg #[.slice A0 l0.length c0], .string a1, .agg #[.int .i64 a2_0, .int .i64 a2_1, .int .i64 a2_2]] ?_
 with_reducible refine (trial_live_fits.calls k _ _ l0 a1 a2_0 a2_1 a2_2 t8 _ ?side1 ?side2 A6.out).mono ?_
 (case side1=>exact zc_ (Kd.C_below HR0.out HB.out))
 (case side2=>exact HC0.out)
 rintro e w16 ⟨rfl,hb⟩
 refine ⟨_,rfl, ?_⟩
 replace HO4:=am_ (Kd.R_below (zr_ HO4) hb)
 replace BK1:=am_ (blk_below (zb_ BK1) hb)
 replace BK7:=am_ (blk_below (zb_ BK7) hb)
 replace HB:=am_ (below_step (zl2_ HB GE1 GE7) hb)
 (try clear hb)
 (try clear hb2)
 (try clear hk)
 (try clear hi)
 refine hK.out _ _ ⟨(blk_cell BK1.out 0).trans rfl,(blk_cell BK1.out 1).trans rfl,(blk_cell BK1.out 2).trans rfl,(blk_cell BK7.out 0).trans rfl,(blk_cell BK7.out 1).trans rfl,(blk_cell BK7.out 2).trans rfl⟩ (fun hHeld=> ?_)
 clear hK K
 refine no_ (N:=some 18) ?_
 refine on_ (i:=10) (N:=some 24) (bt_ 13 2047) HT_ (fun K hK=> ?_)
 refine gs_ Try.func155 #[.agg #[.slice Ao11 t2.length co11], .string a1, .agg #[.int .i64 a2_0, .int .i64 a2_1, .int .i64 a2_2]] ?_
 with_reducible refine (trial_live_fits.calls k _ _ t2 a1 a2_0 a2_1 a2_2 t9 _ ?side1 ?side2 A7.out).mono ?_
 (case side1=>exact zc_ (Kd.R_reads' HO4.out).2.2)
 (case side2=>exact (Kd.R_reads' HO4.out).2.1)
 rintro e w17 ⟨rfl,hb⟩
 refine ⟨_,rfl, ?_⟩
 replace HO4:=am_ (Kd.R_below (zr_ HO4) hb)
 replace BK1:=am_ (blk_below (zb_ BK1) hb)
 replace BK7:=am_ (blk_below (zb_ BK7) hb)
 replace HB:=am_ (below_step (zl2_ HB GE1 GE7) hb)
 (try clear hb)
 (try clear hb2)
 (try clear hk)
 (try clear hi)
 refine hK.out _ _ ⟨(blk_cell BK1.out 0).trans rfl,(blk_cell BK1.out 1).trans rfl,(blk_cell BK1.out 2).trans rfl,(blk_cell BK7.out 0).trans rfl,(blk_cell BK7.out 1).trans rfl,(blk_cell BK7.out 2).trans rfl⟩ (fun hHeld=> ?_)
 clear hK K
 refine no_ (N:=some 24) ?_
 refine pu_ (i:=11) (N:=some 8) (bt_ 13 4095) HT_ ?_
 refine pu_ (i:=12) (N:=some 9) (bt_ 13 8191) HT_ ?_
 refine done_ (done_of HT_.out (by kernel_rfl)) ?_
 try go_wp2
 go_ret2
 exact ⟨by first|rfl|(simp [errW_none,errW_some]<;>rfl)|(simp [*,errW_none,errW_some]<;>rfl),zl2_ HB GE1 GE7⟩

def r10_Would.f (k:Nat) (l0:List (S31)) (a1:ByteArray) (a2_0:Int) (a2_1:Int) (a2_2:Int) (l3:List (S58)):Option (Bool×Bool):=(r10_Trial.f k l0 l3).bind fun bt2=>((r10_Admit.f k l0 a1 a2_0 a2_1 a2_2).bind fun bt8=>((r10_Admit.f k bt2.1 a1 a2_0 a2_1 a2_2).bind fun bt12=>(some ((bt8.2==0),(bt12.2==0)))))
theorem r10_Would.mono: ∀a0 a1 a2 a3 a4 a5 k,LeO (r10_Would.f k a0 a1 a2 a3 a4 a5) (r10_Would.f (k+1) a0 a1 a2 a3 a4 a5):=by
 intro a0 a1 a2 a3 a4 a5 k
 unfold r10_Would.f
 repeat' first
  |(with_reducible exact r10_Admit.mono _ _ _ _ _ _)
  |(with_reducible exact r10_Trial.mono _ _ _)
  |(with_reducible exact LeO.refl _)
  |(with_reducible exact LeO.none _)
  |(with_reducible refine LeO.ite ?_ ?_)
  |(with_reducible refine LeO.bind ?_ (fun _=> ?_))
  |exact r10_Admit.mono _ _ _ _ _ _
  |exact r10_Trial.mono _ _ _
  |exact LeO.none _
  |refine LeO.ite ?_ ?_
  |refine LeO.bind ?_ (fun _=> ?_)
def r10_Would.T2:Bool×List (List Nat×List Nat):=(true,[([],[]),([],[]),([],[]),([0,1,2],[0,1,2]),([3],[3]),([4],[4]),([],[]),([6],[6]),([],[]),([],[]),([7,8,9,3],[7,8,9]),([10],[10]),([11],[11]),([5,10,0,1,2,3,4,5],[5]),([12,13,0,1,2,3,4,5,6,7,8,9,10,11,12,13],[12])])
def r10_Would.B2:List Nat:=[0,0,0,7,15,31,0,64,0,0,975,1999,4047,2047,16383]
theorem r10_Would.tab2:rtab .any (opsOf Try.f102 2)=r10_Would.T2:=by kernel_rfl
theorem r10_Would.bits2:waitsOk r10_Would.T2.2 r10_Would.B2=true:=by kernel_rfl
theorem rw_fld2_1 {P:Program} {a:Value} {n:Int} {t:Nat} {f0 f1:Field} {w:World} (h:P.underlying t=some (.struct #[f0,f1])) (h1:f1.offset=1) (h2: ∀w,Sem.run P (isAgg f1.type) w= .ok false w):Sem.run P (Instr.field t (.agg #[a, .int .i64 n]) 1) w= .ok (.int .i64 n) w:=by
 simp [Instr.field,underlying,h,h1,asAgg,part,h2]
theorem rw_isAgg3 {P:Program} {t:Nat} (h:P.underlying t=some (.int .i64)): ∀w,Sem.run P (isAgg t) w= .ok false w:=by
 intro w
 simp [isAgg,underlying,h]
set_option maxHeartbeats 8000000 in
set_option maxRecDepth 100000 in
theorem r10_Would.calls (k:Nat) (A0:Option Addr) (c0:Nat) (l0:List (S31)) (a1:ByteArray) (a2_0:Int) (a2_1:Int) (a2_2:Int) (A3:Option Addr) (c3:Nat) (l3:List (S58)) (r1:Bool) (r2:Bool) (w:World) (hr0:Kd.C k31 w A0 l0.length l0) (hc0:l0.length≤c0) (hr3:Kd.C k58 w A3 l3.length l3) (hc3:l3.length≤c3) (h:r10_Would.f k l0 a1 a2_0 a2_1 a2_2 l3=some (r1,r2)):
  Calls Try.prog 102 #[.slice A0 l0.length c0, .string a1, .agg #[.int .i64 a2_0, .int .i64 a2_1, .int .i64 a2_2], .slice A3 l3.length c3] w fun e w'=>e= .returned (.tuple #[.bool r1, .bool r2])∧Below w.heap.size w w':=by
 have HR0:=Aside0.mk hr0
 have HC0:=Aside0.mk hc0
 clear hr0 hc0
 have HR3:=Aside0.mk hr3
 have HC3:=Aside0.mk hc3
 clear hr3 hc3
 have HB:=am_ (Below.refl w.heap.size w)
 have H:((r10_Trial.f k l0 l3).bind fun bt2=>((r10_Admit.f k l0 a1 a2_0 a2_1 a2_2).bind fun bt8=>((r10_Admit.f k bt2.1 a1 a2_0 a2_1 a2_2).bind fun bt12=>(some ((bt8.2==0),(bt12.2==0))))))=some (r1,r2):=h
 clear h
 replace H:=Option.bind_eq_some_iff.mp H
 obtain ⟨⟨t2,t5,t6⟩,A50,H⟩:=H
 try dsimp only at H
 have A5:=Aside0.mk A50
 clear A50
 replace H:=Option.bind_eq_some_iff.mp H
 obtain ⟨⟨t8,t11⟩,A60,H⟩:=H
 try dsimp only at H
 have A6:=Aside0.mk A60
 clear A60
 replace H:=Option.bind_eq_some_iff.mp H
 obtain ⟨⟨t12,t15⟩,A70,H⟩:=H
 try dsimp only at H
 have A7:=Aside0.mk A70
 clear A70
 simp only [Option.some.injEq,Prod.mk.injEq] at H
 obtain ⟨rfl,rfl⟩:=H
 go_enter Try.func102,Try.ntmps102
 try go_wp2_with (first|((with_reducible refine gate_dst (N:=6) rfl ?_);refine bx_ (N:=6) (cs:=#[.int .i64 a2_0, .int .i64 a2_1, .int .i64 a2_2]) (t:=27) ?_;intro gb1 hg w8 hbox hb;have n0_:=am_ (below_step (zl0_ HB) hb);have n1_:=am_ (hbox);have n2_:=am_ ((zg0_ HB hg:w.heap.size≤gb1));have n3_:=am_ ((zg0_ HB hg:w.heap.size≤gb1));clear HB;have HB:=n0_;have BK1:=n1_;have GE1:=n3_;clear n0_ n1_ n2_ n3_;clear hb hbox hg)|((with_reducible refine gate_callee (f:=100) rfl ?_);refine gl_ (some 13) Try.func100 #[.slice A0 l0.length c0, .slice A3 l3.length c3] ?_;(with_reducible refine (r10_Trial.calls k _ _ l0 _ _ l3 t2 t5 t6 _ ?side1 ?side2 ?side3 ?side4 A5.out).mono ?_);(case side1=>exact zc_ (Kd.C_below HR0.out HB.out));(case side2=>exact HC0.out);(case side3=>exact zc_ (Kd.C_below HR3.out HB.out));(case side4=>exact HC3.out);rintro e w9 ⟨v3,rfl,ho0,hb⟩;refine ⟨_,rfl, ?_⟩;have HO4:=am_ (Kd.R_lower ho0 (below_size (zl1_ HB GE1)));replace BK1:=am_ (blk_below (zb_ BK1) hb);replace HB:=am_ (below_step (zl1_ HB GE1) hb);(try clear hb);(try clear hb2);(try clear hk);(try clear hi);(try clear ho0))|((with_reducible refine gate_dst (N:=10) rfl ?_);refine bx_ (N:=10) (cs:=#[.slice none 0 0, .int .i64 0, .int .i64 0]) (t:=116) ?_;intro gb7 hg w10 hbox hb;have n0_:=am_ (Kd.R_below (zr_ HO4) hb);have n1_:=am_ (blk_below (zb_ BK1) hb);have n2_:=am_ (below_step (zl1_ HB GE1) hb);have n3_:=am_ (hbox);have n4_:=am_ ((zg1_ HB GE1 hg:w.heap.size≤gb7));have n5_:=am_ ((zg1_ HB GE1 hg:w.heap.size≤gb7));have n6_:=am_ ((zn_ BK1 hg:gb1≠gb7));have n7_:=am_ ((zm_ BK1 hg:gb7≠gb1));clear HO4;clear BK1;clear HB;have HO4:=n0_;have BK1:=n1_;have HB:=n2_;have BK7:=n3_;have GE7:=n5_;have NB1_7:=n6_;clear n0_ n1_ n2_ n3_ n4_ n5_ n6_ n7_;clear hb hbox hg;obtain ⟨Ao11,co11,eo11⟩:=Kd.R_slice HO4.out;subst eo11;obtain ⟨hcz13_0,hcz13_1,hcz13_2⟩:=x3_ BK7;have hfz13_0:=blk_frozen BK7.out 0;have hfz13_1:=blk_frozen BK7.out 1;have hfz13_2:=blk_frozen BK7.out 2))
 have n0_:Aside0 (Kd.R k31 31 (((w10.setCell ⟨gb7,0,none⟩ (.slice Ao11 t2.length co11)).setCell ⟨gb7,1,none⟩ (.int .i64 t5)).setCell ⟨gb7,2,none⟩ (.int .i64 t6)) w.heap.size (fun _=>True) (.slice Ao11 t2.length co11) t2):=⟨zy_ HO4 BK7⟩
 have n1_:Aside0 ((((w10.setCell ⟨gb7,0,none⟩ (.slice Ao11 t2.length co11)).setCell ⟨gb7,1,none⟩ (.int .i64 t5)).setCell ⟨gb7,2,none⟩ (.int .i64 t6)).heap[gb1]?=some (.cells #[.int .i64 a2_0, .int .i64 a2_1, .int .i64 a2_2] 27 (0,0))):=⟨zw_ BK1⟩
 have n2_:Aside0 ((((w10.setCell ⟨gb7,0,none⟩ (.slice Ao11 t2.length co11)).setCell ⟨gb7,1,none⟩ (.int .i64 t5)).setCell ⟨gb7,2,none⟩ (.int .i64 t6)).heap[gb7]?=some (.cells #[.slice Ao11 t2.length co11, .int .i64 t5, .int .i64 t6] 116 (0,0))):=⟨zw_ BK7⟩
 have n3_:Aside0 (Below w.heap.size w (((w10.setCell ⟨gb7,0,none⟩ (.slice Ao11 t2.length co11)).setCell ⟨gb7,1,none⟩ (.int .i64 t5)).setCell ⟨gb7,2,none⟩ (.int .i64 t6))):=⟨zl2_ HB GE1 GE7⟩
 (try clear HO4)
 (try clear BK1)
 (try clear BK7)
 (try clear HB)
 generalize (((w10.setCell ⟨gb7,0,none⟩ (.slice Ao11 t2.length co11)).setCell ⟨gb7,1,none⟩ (.int .i64 t5)).setCell ⟨gb7,2,none⟩ (.int .i64 t6))=w14 at n0_ n1_ n2_ n3_ ⊢
 have HO4:=n0_
 have BK1:=n1_
 have BK7:=n2_
 have HB:=n3_
 clear n0_ n1_ n2_ n3_
 replace HO4:=am_ (Kd.R_drew HO4.out)
 replace BK1:=am_ (blk_drew BK1.out)
 replace BK7:=am_ (blk_drew BK7.out)
 replace HB:=am_ (below_drew1 HB.out)
 refine start_ (n:=15) (S:=fun w'=>w'.cell? ⟨gb1,0,none⟩=some (.int .i64 a2_0)∧w'.cell? ⟨gb1,1,none⟩=some (.int .i64 a2_1)∧w'.cell? ⟨gb1,2,none⟩=some (.int .i64 a2_2)∧w'.cell? ⟨gb7,0,none⟩=some (.slice Ao11 t2.length co11)∧w'.cell? ⟨gb7,1,none⟩=some (.int .i64 t5)∧w'.cell? ⟨gb7,2,none⟩=some (.int .i64 t6)) (ds:=[]) (bt_ 15 0) (by kernel_rfl) rfl rfl ⟨(blk_cell BK1.out 0).trans rfl,(blk_cell BK1.out 1).trans rfl,(blk_cell BK1.out 2).trans rfl,(blk_cell BK7.out 0).trans rfl,(blk_cell BK7.out 1).trans rfl,(blk_cell BK7.out 2).trans rfl⟩ (fun hHeld=> ?_);refine with_tabW r10_Would.tab2 r10_Would.bits2 (fun HT_ HW_=> ?_)
 generalize w14.drew=w15 at HO4 BK1 BK7 HB hHeld ⊢
 refine pu_ (i:=0) (N:=some 14) (bt_ 15 1) HT_ ?_
 refine pu_ (i:=1) (N:=some 15) (bt_ 15 3) HT_ ?_
 refine pu_ (i:=6) (N:=some 20) (bt_ 15 67) HT_ ?_
 refine pu_ (i:=8) (N:=some 22) (bt_ 15 323) HT_ ?_
 refine tk_ (i:=2) (N:=some 16) (bt_ 15 327) HT_ HW_ hHeld ?_
 refine tk_ (i:=7) (N:=some 21) (bt_ 15 455) HT_ HW_ hHeld ?_
 refine tk_ (i:=9) (N:=some 23) (bt_ 15 967) HT_ HW_ hHeld ?_
 refine on_ (i:=3) (N:=some 17) (bt_ 15 975) HT_ (fun K hK=> ?_)
 refine gs_ Try.func66 #[.slice A0 l0.length c0, .string a1, .agg #[.int .i64 a2_0, .int .i64 a2_1, .int .i64 a2_2]] ?_
 with_reducible refine (r10_Admit.calls k _ _ l0 a1 a2_0 a2_1 a2_2 t8 t11 _ ?side1 ?side2 A6.out).mono ?_
 (case side1=>exact zc_ (Kd.C_below HR0.out HB.out))
 (case side2=>exact HC0.out)
 rintro e w16 ⟨v9,rfl,ho0,hb⟩
 refine ⟨_,rfl, ?_⟩
 have HO10:=am_ (Kd.R_lower (Kd.R_new' ho0 (Kd.R_lt (zr_ HO4))) (below_size (zl2_ HB GE1 GE7)))
 replace HO4:=am_ (Kd.R_elder' (zr_ HO4) (Kd.R_base ho0) hb)
 replace BK1:=am_ (blk_below (zb_ BK1) hb)
 replace BK7:=am_ (blk_below (zb_ BK7) hb)
 replace HB:=am_ (below_step (zl2_ HB GE1 GE7) hb)
 (try clear hb)
 (try clear hb2)
 (try clear hk)
 (try clear hi)
 (try clear ho0)
 refine hK.out _ _ ⟨(blk_cell BK1.out 0).trans rfl,(blk_cell BK1.out 1).trans rfl,(blk_cell BK1.out 2).trans rfl,(blk_cell BK7.out 0).trans rfl,(blk_cell BK7.out 1).trans rfl,(blk_cell BK7.out 2).trans rfl⟩ (fun hHeld=> ?_)
 clear hK K
 refine no_ (N:=some 17) ?_
 refine pure_ (i:=4) (N:=some 18) (v:= ?_) (a':= ?_) (bt_ 15 991) rfl rfl (any_of HT_.out (by kernel_rfl)) (fun _ _ _ h=>h) (Or.inl ⟨by rfl, ?_⟩) ?_ ?_
 rotate_left
 ·intro w'
  go_simp
  rw [rw_fld2_1 Try.underlying67 rfl (rw_isAgg3 Try.underlying3)]
  (try simp only [Result.andThen_ok])
  with_reducible rfl
 rotate_left
 ·simp only [Act.put,List.setIfInBounds_toArray,List.set_cons_zero,List.set_cons_succ,i64_w,i32_w]
  rfl
 refine pu_ (i:=5) (N:=some 19) (bt_ 15 1023) HT_ ?_
 refine on_ (i:=10) (N:=some 24) (bt_ 15 2047) HT_ (fun K hK=> ?_)
 refine gs_ Try.func66 #[.slice Ao11 t2.length co11, .string a1, .agg #[.int .i64 a2_0, .int .i64 a2_1, .int .i64 a2_2]] ?_
 with_reducible refine (r10_Admit.calls k _ _ t2 a1 a2_0 a2_1 a2_2 t12 t15 _ ?side1 ?side2 A7.out).mono ?_
 (case side1=>exact zc_ (Kd.R_reads' HO4.out).2.2)
 (case side2=>exact (Kd.R_reads' HO4.out).2.1)
 rintro e w17 ⟨v13,rfl,ho0,hb⟩
 refine ⟨_,rfl, ?_⟩
 have n0_:=am_ (Kd.R_elder' (zr_ HO4) (Kd.R_base ho0) hb)
 have n1_:=am_ (Kd.R_elder' (zr_ HO10) (Kd.R_base ho0) hb)
 have n2_:=am_ (Kd.R_lower (Kd.R_new' (Kd.R_new' ho0 (Kd.R_lt (zr_ HO4))) (Kd.R_lt (zr_ HO10))) (below_size (zl2_ HB GE1 GE7)))
 have n3_:=am_ (blk_below (zb_ BK1) hb)
 have n4_:=am_ (blk_below (zb_ BK7) hb)
 have n5_:=am_ (below_step (zl2_ HB GE1 GE7) hb)
 clear HO4
 clear HO10
 clear BK1
 clear BK7
 clear HB
 have HO4:=n0_
 have HO10:=n1_
 have BK1:=n3_
 have BK7:=n4_
 have HB:=n5_
 clear n0_ n1_ n2_ n3_ n4_ n5_
 (try clear hb)
 (try clear hb2)
 (try clear hk)
 (try clear hi)
 (try clear ho0)
 refine hK.out _ _ ⟨(blk_cell BK1.out 0).trans rfl,(blk_cell BK1.out 1).trans rfl,(blk_cell BK1.out 2).trans rfl,(blk_cell BK7.out 0).trans rfl,(blk_cell BK7.out 1).trans rfl,(blk_cell BK7.out 2).trans rfl⟩ (fun hHeld=> ?_)
 clear hK K
 refine no_ (N:=some 24) ?_
 refine pure_ (i:=11) (N:=some 25) (v:= ?_) (a':= ?_) (bt_ 15 4095) rfl rfl (any_of HT_.out (by kernel_rfl)) (fun _ _ _ h=>h) (Or.inl ⟨by rfl, ?_⟩) ?_ ?_
 rotate_left
 ·intro w'
  go_simp
  rw [rw_fld2_1 Try.underlying67 rfl (rw_isAgg3 Try.underlying3)]
  (try simp only [Result.andThen_ok])
  with_reducible rfl
 rotate_left
 ·simp only [Act.put,List.setIfInBounds_toArray,List.set_cons_zero,List.set_cons_succ,i64_w,i32_w]
  rfl
 refine pu_ (i:=12) (N:=some 26) (bt_ 15 8191) HT_ ?_
 refine pu_ (i:=13) (N:=some 8) (bt_ 15 16383) HT_ ?_
 refine pu_ (i:=14) (N:=some 9) (bt_ 15 32767) HT_ ?_
 refine done_ (done_of HT_.out (by kernel_rfl)) ?_
 try go_wp2
 go_ret2
 exact ⟨by first|rfl|(simp [errW_none,errW_some]<;>rfl)|(simp [*,errW_none,errW_some]<;>rfl),zl2_ HB GE1 GE7⟩

mutual
def law16_Great.l0:Nat→Int→List (S54)→List (S58)→Int→Option (Bool)
 |0,_,_,_,_=>none
 |k+1,x3,x2000,x2001,x2002=>if x3<(x2000.length:Int) then (law16_Great.j1 k x3 (decide (x3<300)) x2000 x2001 x2002) else (law16_Great.j1 k x3 false x2000 x2001 x2002)
def law16_Great.j1:Nat→Int→Bool→List (S54)→List (S58)→Int→Option (Bool)
 |0,_,_,_,_,_=>none
 |k+1,x3,x13,x2000,x2001,x2002=>if x13=true then (if 0≤x3 then (if x3<(x2000.length:Int) then (if (((rd_T54 x2000 x3).f0).size:Int)>100 then (some true) else (if (((rd_T54 x2000 x3).f1).size:Int)>100 then (some true) else (law16_Great.l0 k (wrap64 (x3+1)) x2000 x2001 x2002))) else (none)) else (none)) else (law16_Great.l1 k 0 x2000 x2001 x2002)
def law16_Great.l1:Nat→Int→List (S54)→List (S58)→Int→Option (Bool)
 |0,_,_,_,_=>none
 |k+1,x4,x2000,x2001,x2002=>if x4<(x2001.length:Int) then (law16_Great.j3 k x4 (decide (x4<600)) x2000 x2001 x2002) else (law16_Great.j3 k x4 false x2000 x2001 x2002)
def law16_Great.j3:Nat→Int→Bool→List (S54)→List (S58)→Int→Option (Bool)
 |0,_,_,_,_,_=>none
 |k+1,x4,x42,x2000,x2001,x2002=>if x42=true then (if 0≤x4 then (if x4<(x2001.length:Int) then (if (((rd_T58 x2001 x4).f1).size:Int)>100 then (some true) else (if (((rd_T58 x2001 x4).f2).size:Int)>100 then (some true) else (law16_Great.l1 k (wrap64 (x4+1)) x2000 x2001 x2002))) else (none)) else (none)) else (if (x2000.length:Int)>260 then (some true) else (some (decide ((x2001.length:Int)>500))))
end
def law16_Great.f (k:Nat) (l0_0:List (S54)) (l0_1:List (S58)) (a0_2:Int):Option (Bool):=law16_Great.l0 k 0 l0_0 l0_1 a0_2
theorem law16_Great.mono_l: ∀k,(∀y0 y1 y2 y3,LeO (law16_Great.l0 k y0 y1 y2 y3) (law16_Great.l0 (k+1) y0 y1 y2 y3))∧(∀y0 y1 y2 y3 y4,LeO (law16_Great.j1 k y0 y1 y2 y3 y4) (law16_Great.j1 (k+1) y0 y1 y2 y3 y4))∧(∀y0 y1 y2 y3,LeO (law16_Great.l1 k y0 y1 y2 y3) (law16_Great.l1 (k+1) y0 y1 y2 y3))∧(∀y0 y1 y2 y3 y4,LeO (law16_Great.j3 k y0 y1 y2 y3 y4) (law16_Great.j3 (k+1) y0 y1 y2 y3 y4))
 |0=>⟨fun _ _ _ _ r h=>by simp [law16_Great.l0] at h,fun _ _ _ _ _ r h=>by simp [law16_Great.j1] at h,fun _ _ _ _ r h=>by simp [law16_Great.l1] at h,fun _ _ _ _ _ r h=>by simp [law16_Great.j3] at h⟩
 |k+1=>by
  obtain ⟨ih0,ih1,ih2,ih3⟩:=law16_Great.mono_l k
  refine ⟨?_, ?_, ?_, ?_⟩
  ·intro y0 y1 y2 y3
   unfold law16_Great.l0
   repeat' first
   |(with_reducible exact ih0 _ _ _ _)
   |(with_reducible exact ih1 _ _ _ _ _)
   |(with_reducible exact ih2 _ _ _ _)
   |(with_reducible exact ih3 _ _ _ _ _)
   |(with_reducible exact LeO.refl _)
   |(with_reducible exact LeO.none _)
   |(with_reducible refine LeO.ite ?_ ?_)
   |(with_reducible refine LeO.bind ?_ (fun _=> ?_))
   |exact ih0 _ _ _ _
   |exact ih1 _ _ _ _ _
   |exact ih2 _ _ _ _
   |exact ih3 _ _ _ _ _
   |exact LeO.none _
   |refine LeO.ite ?_ ?_
   |refine LeO.bind ?_ (fun _=> ?_)
  ·intro y0 y1 y2 y3 y4
   unfold law16_Great.j1
   repeat' first
   |(with_reducible exact ih0 _ _ _ _)
   |(with_reducible exact ih1 _ _ _ _ _)
   |(with_reducible exact ih2 _ _ _ _)
   |(with_reducible exact ih3 _ _ _ _ _)
   |(with_reducible exact LeO.refl _)
   |(with_reducible exact LeO.none _)
   |(with_reducible refine LeO.ite ?_ ?_)
   |(with_reducible refine LeO.bind ?_ (fun _=> ?_))
   |exact ih0 _ _ _ _
   |exact ih1 _ _ _ _ _
   |exact ih2 _ _ _ _
   |exact ih3 _ _ _ _ _
   |exact LeO.none _
   |refine LeO.ite ?_ ?_
   |refine LeO.bind ?_ (fun _=> ?_)
  ·intro y0 y1 y2 y3
   unfold law16_Great.l1
   repeat' first
   |(with_reducible exact ih0 _ _ _ _)
   |(with_reducible exact ih1 _ _ _ _ _)
   |(with_reducible exact ih2 _ _ _ _)
   |(with_reducible exact ih3 _ _ _ _ _)
   |(with_reducible exact LeO.refl _)
   |(with_reducible exact LeO.none _)
   |(with_reducible refine LeO.ite ?_ ?_)
   |(with_reducible refine LeO.bind ?_ (fun _=> ?_))
   |exact ih0 _ _ _ _
   |exact ih1 _ _ _ _ _
   |exact ih2 _ _ _ _
   |exact ih3 _ _ _ _ _
   |exact LeO.none _
   |refine LeO.ite ?_ ?_
   |refine LeO.bind ?_ (fun _=> ?_)
  intro y0 y1 y2 y3 y4
  unfold law16_Great.j3
  repeat' first
  |(with_reducible exact ih0 _ _ _ _)
  |(with_reducible exact ih1 _ _ _ _ _)
  |(with_reducible exact ih2 _ _ _ _)
  |(with_reducible exact ih3 _ _ _ _ _)
  |(with_reducible exact LeO.refl _)
  |(with_reducible exact LeO.none _)
  |(with_reducible refine LeO.ite ?_ ?_)
  |(with_reducible refine LeO.bind ?_ (fun _=> ?_))
  |exact ih0 _ _ _ _
  |exact ih1 _ _ _ _ _
  |exact ih2 _ _ _ _
  |exact ih3 _ _ _ _ _
  |exact LeO.none _
  |refine LeO.ite ?_ ?_
  |refine LeO.bind ?_ (fun _=> ?_)
theorem law16_Great.mono: ∀a0 a1 a2 k,LeO (law16_Great.f k a0 a1 a2) (law16_Great.f (k+1) a0 a1 a2):=by
 intro a0 a1 a2 k
 obtain ⟨ih0,ih1,ih2,ih3⟩:=law16_Great.mono_l k
 unfold law16_Great.f
 repeat' first
  |(with_reducible exact ih0 _ _ _ _)
  |(with_reducible exact ih1 _ _ _ _ _)
  |(with_reducible exact ih2 _ _ _ _)
  |(with_reducible exact ih3 _ _ _ _ _)
  |(with_reducible exact LeO.refl _)
  |(with_reducible exact LeO.none _)
  |(with_reducible refine LeO.ite ?_ ?_)
  |(with_reducible refine LeO.bind ?_ (fun _=> ?_))
  |exact ih0 _ _ _ _
  |exact ih1 _ _ _ _ _
  |exact ih2 _ _ _ _
  |exact ih3 _ _ _ _ _
  |exact LeO.none _
  |refine LeO.ite ?_ ?_
  |refine LeO.bind ?_ (fun _=> ?_)
set_option maxHeartbeats 8000000 in
set_option maxRecDepth 100000 in
theorem law16_Great.calls (k:Nat) (A0_0:Option Addr) (c0_0:Nat) (l0_0:List (S54)) (A0_1:Option Addr) (c0_1:Nat) (l0_1:List (S58)) (a0_2:Int) (r:Bool) (w:World) (hr0_0:Kd.C k54 w A0_0 l0_0.length l0_0) (hc0_0:l0_0.length≤c0_0) (hr0_1:Kd.C k58 w A0_1 l0_1.length l0_1) (hc0_1:l0_1.length≤c0_1) (h:law16_Great.f k l0_0 l0_1 a0_2=some r):
  Calls Try.prog 37 #[.agg #[.slice A0_0 l0_0.length c0_0, .slice A0_1 l0_1.length c0_1, .int .i64 a0_2]] w fun e w'=>e= .returned (.bool r)∧Below w.heap.size w w':=by
 have HR0_0:=Aside0.mk hr0_0
 clear hr0_0 hc0_0
 have HR0_1:=Aside0.mk hr0_1
 clear hr0_1 hc0_1
 have HB:=am_ (Below.refl w.heap.size w)
 have H:(law16_Great.l0 k 0 l0_0 l0_1 a0_2)=some r:=h
 clear h
 have H':=Aside0.mk H
 clear H
 go_enter Try.func37,Try.ntmps37
 go_wp2_with (first|((with_reducible refine gate_dst (N:=1) rfl ?_);(try (refine gate_guard (by rfl) ?_;dsimp only));refine bx_ (N:=1) (cs:=#[.slice A0_0 l0_0.length c0_0, .slice A0_1 l0_1.length c0_1, .int .i64 a0_2]) (t:=42) ?_;intro gb1 hg w2 hbox hb;have n0_:=am_ (below_step (zl0_ HB) hb);have n1_:=am_ (hbox);have n3_:=am_ ((zg0_ HB hg:w.heap.size≤gb1));clear HB;have HB:=n0_;have BK1:=n1_;have GE1:=n3_;clear n0_ n1_ n3_;clear hb hbox hg))
 go_loopg [3] k (fun kq v3 w'=> ∃(x3_1:Int),v3= .int .i64 x3_1∧Aside0 (law16_Great.l0 kq x3_1 l0_0 l0_1 a0_2=some r)∧Aside0 (kq≤k)∧Aside0 (w'.heap[gb1]?=some (.cells #[(.slice A0_0 l0_0.length c0_0),(.slice A0_1 l0_1.length c0_1), .int .i64 a0_2] 42 (0,0)))∧Aside0 (Below w.heap.size w w'))
 case atStart=>exact ⟨(0),(by first|rfl|(simp;done)|(simp [*];done)),H',⟨Nat.le_refl _⟩,⟨by refine zk_ ?_;exact BK1.out⟩,⟨zl1_ HB GE1⟩⟩
 case round=>
  clear H'
  try clear p2
  obtain ⟨x3_1,rfl,HA,HK1,BK1,HB⟩:=hrel
  cases gk with
  |zero=>exact absurd HA.out (by simp [law16_Great.l0])
  |succ k1=>
   have H:=HA.out
   clear HA
   simp only [law16_Great.l0] at H
   have HC3:=Aside0.mk H
   clear H
   go_upto_region 2 with (fail)
   go_cut [13] (fun v13 wc=> ∃(kq:Nat) (x13_2:Bool),v13= .bool x13_2∧Aside0 (law16_Great.j1 kq x3_1 x13_2 l0_0 l0_1 a0_2=some r)∧Aside0 (kq≤k1)∧Aside0 (wc.heap[gb1]?=some (.cells #[(.slice A0_0 l0_0.length c0_0),(.slice A0_1 l0_1.length c0_1), .int .i64 a0_2] 42 (0,0)))∧Aside0 (Below w.heap.size w wc))
   case first=>
    have H:=HC3.out
    clear HC3
    by_cases c4:x3_1<(l0_0.length:Int)
    ·rw [if_pos c4] at H
     have c4b0:decide (x3_1<(l0_0.length:Int))=true:=decide_eq_true c4
     clear c4
     (first|rw [c4b0]|(simp only [i64_w,i32_w];rw [c4b0])|skip)
     have H':=Aside0.mk H
     clear H
     have hcz5_0:=zz_ BK1 0
     go_wp2
     go_meet
     case rel=>exact ⟨_,(decide (x3_1<300)),(by first|rfl|(simp;done)|(simp [*];done)),H',⟨by have:=HK1.out;first|omega|exact Nat.le_refl _⟩,⟨by refine zk_ ?_;exact BK1.out⟩,⟨zl1_ HB GE1⟩⟩
    rw [if_neg c4] at H
    have c4b0:decide (x3_1<(l0_0.length:Int))=false:=decide_eq_false c4
    clear c4
    (first|rw [c4b0]|(simp only [i64_w,i32_w];rw [c4b0])|skip)
    have H':=Aside0.mk H
    clear H
    have hcz6_0:=zz_ BK1 0
    go_wp2
    go_meet
    case rel=>exact ⟨_,(false),(by first|rfl|(simp;done)|(simp [*];done)),H',⟨by have:=HK1.out;first|omega|exact Nat.le_refl _⟩,⟨by refine zk_ ?_;exact BK1.out⟩,⟨zl1_ HB GE1⟩⟩
   case rest=>
    clear HC3
    try clear p2
    try clear c3
    try clear c4
    try clear c4b0
    try clear hcz5_0
    try clear hcz6_0
    try clear p2
    obtain ⟨kq,x13_2,rfl,HA,HJ2,BK1,HB⟩:=hcut
    cases kq with
    |zero=>exact absurd HA.out (by simp [law16_Great.j1])
    |succ kj2=>
     have H:=HA.out
     clear HA
     simp only [law16_Great.j1] at H
     by_cases c7:x13_2=true
     ·subst c7
      have H1:(if 0≤x3_1 then (if x3_1<(l0_0.length:Int) then (if (((rd_T54 l0_0 x3_1).f0).size:Int)>100 then (some true) else (if (((rd_T54 l0_0 x3_1).f1).size:Int)>100 then (some true) else (law16_Great.l0 kj2 (wrap64 (x3_1+1)) l0_0 l0_1 a0_2))) else (none)) else (none))=some r:=by rw [if_pos rfl] at H;exact H
      clear H
      have H:=H1
      clear H1
      by_cases c8:0≤x3_1
      rotate_left
      ·rw [if_neg c8] at H
       exact absurd H (by simp)
      rw [if_pos c8] at H
      have c8b0:decide (0≤x3_1)=true:=decide_eq_true c8
      clear c8
      by_cases c9:x3_1<(l0_0.length:Int)
      rotate_left
      ·rw [if_neg c9] at H
       exact absurd H (by simp)
      rw [if_pos c9] at H
      have c9b0:decide (x3_1<(l0_0.length:Int))=true:=decide_eq_true c9
      clear c9
      by_cases c10:(((rd_T54 l0_0 x3_1).f0).size:Int)>100
      ·rw [if_pos c10] at H
       have c10b0:decide (100<(((rd_T54 l0_0 x3_1).f0).size:Int))=true:=decide_eq_true c10
       clear c10
       obtain rfl:=Option.some.inj H
       have hcz11_0:=zz_ BK1 0
       have p2:0≤(x3_1:Int):=of_decide_eq_true zq_
       have q2:x3_1<(l0_0.length:Int):=of_decide_eq_true zq_
       obtain ⟨ad2,e2,hx2_0,hx2_1,hx2_2,hx2_3,hx2_4,hx2_5⟩:=at_T54 HR0_0.out x3_1 p2 q2
       cases e2
       replace hx2_0:=zx_ HB hx2_0
       replace hx2_1:=zx_ HB hx2_1
       replace hx2_2:=zx_ HB hx2_2
       replace hx2_3:=zx_ HB hx2_3
       replace hx2_4:=zx_ HB hx2_4
       replace hx2_5:=zx_ HB hx2_5
       replace p2:=eq_true p2
       replace q2:=eq_true q2
       go_wp2
       go_ret
       exact ⟨by first|rfl|(simp [errW_none,errW_some]<;>rfl)|(simp [*,errW_none,errW_some]<;>rfl),zl1_ HB GE1⟩
      rw [if_neg c10] at H
      have c10b0:decide (100<(((rd_T54 l0_0 x3_1).f0).size:Int))=false:=decide_eq_false c10
      clear c10
      by_cases c12:(((rd_T54 l0_0 x3_1).f1).size:Int)>100
      ·rw [if_pos c12] at H
       have c12b0:decide (100<(((rd_T54 l0_0 x3_1).f1).size:Int))=true:=decide_eq_true c12
       clear c12
       obtain rfl:=Option.some.inj H
       have hcz13_0:=zz_ BK1 0
       have p2:0≤(x3_1:Int):=of_decide_eq_true zq_
       have q2:x3_1<(l0_0.length:Int):=of_decide_eq_true zq_
       obtain ⟨ad2,e2,hx2_0,hx2_1,hx2_2,hx2_3,hx2_4,hx2_5⟩:=at_T54 HR0_0.out x3_1 p2 q2
       cases e2
       replace hx2_0:=zx_ HB hx2_0
       replace hx2_1:=zx_ HB hx2_1
       replace hx2_2:=zx_ HB hx2_2
       replace hx2_3:=zx_ HB hx2_3
       replace hx2_4:=zx_ HB hx2_4
       replace hx2_5:=zx_ HB hx2_5
       replace p2:=eq_true p2
       replace q2:=eq_true q2
       have p3:0≤(x3_1:Int):=of_decide_eq_true zq_
       have q3:x3_1<(l0_0.length:Int):=of_decide_eq_true zq_
       obtain ⟨ad3,e3,hx3_0,hx3_1,hx3_2,hx3_3,hx3_4,hx3_5⟩:=at_T54 HR0_0.out x3_1 p3 q3
       obtain rfl:ad2=ad3:=(by injection e3)
       replace hx3_0:=zx_ HB hx3_0
       replace hx3_1:=zx_ HB hx3_1
       replace hx3_2:=zx_ HB hx3_2
       replace hx3_3:=zx_ HB hx3_3
       replace hx3_4:=zx_ HB hx3_4
       replace hx3_5:=zx_ HB hx3_5
       replace p3:=eq_true p3
       replace q3:=eq_true q3
       go_wp2
       go_ret
       exact ⟨by first|rfl|(simp [errW_none,errW_some]<;>rfl)|(simp [*,errW_none,errW_some]<;>rfl),zl1_ HB GE1⟩
      rw [if_neg c12] at H
      have c12b0:decide (100<(((rd_T54 l0_0 x3_1).f1).size:Int))=false:=decide_eq_false c12
      clear c12
      have H':=Aside0.mk H
      clear H
      have hcz14_0:=zz_ BK1 0
      have p2:0≤(x3_1:Int):=of_decide_eq_true zq_
      have q2:x3_1<(l0_0.length:Int):=of_decide_eq_true zq_
      obtain ⟨ad2,e2,hx2_0,hx2_1,hx2_2,hx2_3,hx2_4,hx2_5⟩:=at_T54 HR0_0.out x3_1 p2 q2
      cases e2
      replace hx2_0:=zx_ HB hx2_0
      replace hx2_1:=zx_ HB hx2_1
      replace hx2_2:=zx_ HB hx2_2
      replace hx2_3:=zx_ HB hx2_3
      replace hx2_4:=zx_ HB hx2_4
      replace hx2_5:=zx_ HB hx2_5
      replace p2:=eq_true p2
      replace q2:=eq_true q2
      have p3:0≤(x3_1:Int):=of_decide_eq_true zq_
      have q3:x3_1<(l0_0.length:Int):=of_decide_eq_true zq_
      obtain ⟨ad3,e3,hx3_0,hx3_1,hx3_2,hx3_3,hx3_4,hx3_5⟩:=at_T54 HR0_0.out x3_1 p3 q3
      obtain rfl:ad2=ad3:=(by injection e3)
      replace hx3_0:=zx_ HB hx3_0
      replace hx3_1:=zx_ HB hx3_1
      replace hx3_2:=zx_ HB hx3_2
      replace hx3_3:=zx_ HB hx3_3
      replace hx3_4:=zx_ HB hx3_4
      replace hx3_5:=zx_ HB hx3_5
      replace p3:=eq_true p3
      replace q3:=eq_true q3
      go_wp2
      go_roundg kj2
      case measure=>have:=HK1.out;have:=HJ2.out;omega
      case rel=>exact ⟨(wrap64 (x3_1+1)),(by first|rfl|(simp;done)|(simp [*];done)),H',⟨by have:=HK1.out;have:=HJ2.out;omega⟩,⟨by refine zk_ ?_;exact BK1.out⟩,⟨zl1_ HB GE1⟩⟩
     replace c7:=Bool.eq_false_iff.mpr c7
     subst c7
     have H1:(law16_Great.l1 kj2 0 l0_0 l0_1 a0_2)=some r:=by rw [if_neg (show¬(false=true) by decide)] at H;exact H
     clear H
     have H:=H1
     clear H1
     have H':=Aside0.mk H
     clear H
     go_wp2
     go_loopg [4] kj2 (fun kq v4 w'=> ∃(x4_3:Int),v4= .int .i64 x4_3∧Aside0 (law16_Great.l1 kq x4_3 l0_0 l0_1 a0_2=some r)∧Aside0 (kq≤kj2)∧Aside0 (w'.heap[gb1]?=some (.cells #[(.slice A0_0 l0_0.length c0_0),(.slice A0_1 l0_1.length c0_1), .int .i64 a0_2] 42 (0,0)))∧Aside0 (Below w.heap.size w w'))
     case atStart=>exact ⟨(0),(by first|rfl|(simp;done)|(simp [*];done)),H',⟨Nat.le_refl _⟩,⟨by refine zk_ ?_;exact BK1.out⟩,⟨zl1_ HB GE1⟩⟩
     case round=>
      clear H'
      try clear c1
      try clear p2
      try clear q2
      try clear hx2
      try clear c3
      try clear p3
      try clear q3
      try clear hx3
      try clear c4
      try clear c4b0
      try clear p6
      try clear c7
      try clear c8
      try clear c8b0
      try clear c9
      try clear c9b0
      try clear c10
      try clear c10b0
      try clear c12
      try clear c12b0
      try clear hcz11_0
      try clear hcz13_0
      try clear hcz14_0
      try clear hcz5_0
      try clear hcz6_0
      try clear hx2_0
      try clear hx2_1
      try clear hx2_2
      try clear hx2_3
      try clear hx2_4
      try clear hx2_5
      try clear hx3_0
      try clear hx3_1
      try clear hx3_2
      try clear hx3_3
      try clear hx3_4
      try clear hx3_5
      try clear p2
      try clear p3
      try clear q2
      try clear q3
      obtain ⟨x4_3,rfl,HA,HK3,BK1,HB⟩:=hrel
      cases gk with
      |zero=>exact absurd HA.out (by simp [law16_Great.l1])
      |succ k3=>
       have H:=HA.out
       clear HA
       simp only [law16_Great.l1] at H
       have HC15:=Aside0.mk H
       clear H
       go_upto_region 7 with (fail)
       go_cut [42] (fun v42 wc=> ∃(kq:Nat) (x42_14:Bool),v42= .bool x42_14∧Aside0 (law16_Great.j3 kq x4_3 x42_14 l0_0 l0_1 a0_2=some r)∧Aside0 (kq≤k3)∧Aside0 (wc.heap[gb1]?=some (.cells #[(.slice A0_0 l0_0.length c0_0),(.slice A0_1 l0_1.length c0_1), .int .i64 a0_2] 42 (0,0)))∧Aside0 (Below w.heap.size w wc))
       case first=>
        have H:=HC15.out
        clear HC15
        by_cases c16:x4_3<(l0_1.length:Int)
        ·rw [if_pos c16] at H
         have c16b0:decide (x4_3<(l0_1.length:Int))=true:=decide_eq_true c16
         clear c16
         (first|rw [c16b0]|(simp only [i64_w,i32_w];rw [c16b0])|skip)
         have H':=Aside0.mk H
         clear H
         have hcz17_1:=zz_ BK1 1
         go_wp2
         go_meet
         case rel=>exact ⟨_,(decide (x4_3<600)),(by first|rfl|(simp;done)|(simp [*];done)),H',⟨by have:=HK1.out;have:=HJ2.out;have:=HK3.out;first|omega|exact Nat.le_refl _⟩,⟨by refine zk_ ?_;exact BK1.out⟩,⟨zl1_ HB GE1⟩⟩
        rw [if_neg c16] at H
        have c16b0:decide (x4_3<(l0_1.length:Int))=false:=decide_eq_false c16
        clear c16
        (first|rw [c16b0]|(simp only [i64_w,i32_w];rw [c16b0])|skip)
        have H':=Aside0.mk H
        clear H
        have hcz18_1:=zz_ BK1 1
        go_wp2
        go_meet
        case rel=>exact ⟨_,(false),(by first|rfl|(simp;done)|(simp [*];done)),H',⟨by have:=HK1.out;have:=HJ2.out;have:=HK3.out;first|omega|exact Nat.le_refl _⟩,⟨by refine zk_ ?_;exact BK1.out⟩,⟨zl1_ HB GE1⟩⟩
       case rest=>
        clear HC15
        try clear c1
        try clear p2
        try clear q2
        try clear hx2
        try clear c3
        try clear p3
        try clear q3
        try clear hx3
        try clear c4
        try clear c4b0
        try clear p6
        try clear c7
        try clear c8
        try clear c8b0
        try clear c9
        try clear c9b0
        try clear c10
        try clear c10b0
        try clear c12
        try clear c12b0
        try clear c16
        try clear c16b0
        try clear hcz11_0
        try clear hcz13_0
        try clear hcz14_0
        try clear hcz17_1
        try clear hcz18_1
        try clear hcz5_0
        try clear hcz6_0
        try clear hx2_0
        try clear hx2_1
        try clear hx2_2
        try clear hx2_3
        try clear hx2_4
        try clear hx2_5
        try clear hx3_0
        try clear hx3_1
        try clear hx3_2
        try clear hx3_3
        try clear hx3_4
        try clear hx3_5
        try clear p2
        try clear p3
        try clear p6
        try clear q2
        try clear q3
        obtain ⟨kq,x42_14,rfl,HA,HJ14,BK1,HB⟩:=hcut
        cases kq with
        |zero=>exact absurd HA.out (by simp [law16_Great.j3])
        |succ kj14=>
         have H:=HA.out
         clear HA
         simp only [law16_Great.j3] at H
         by_cases c19:x42_14=true
         rotate_left
         ·replace c19:=Bool.eq_false_iff.mpr c19
          subst c19
          have H1:(if (l0_0.length:Int)>260 then (some true) else (some (decide ((l0_1.length:Int)>500))))=some r:=by rw [if_neg (show¬(false=true) by decide)] at H;exact H
          clear H
          have H:=H1
          clear H1
          by_cases c27:(l0_0.length:Int)>260
          ·rw [if_pos c27] at H
           have c27b0:decide (260<(l0_0.length:Int))=true:=decide_eq_true c27
           clear c27
           obtain rfl:=Option.some.inj H
           have hcz28_0:=zz_ BK1 0
           go_wp2
           go_ret
           exact ⟨by first|rfl|(simp [errW_none,errW_some]<;>rfl)|(simp [*,errW_none,errW_some]<;>rfl),zl1_ HB GE1⟩
          rw [if_neg c27] at H
          have c27b0:decide (260<(l0_0.length:Int))=false:=decide_eq_false c27
          clear c27
          obtain rfl:=Option.some.inj H
          obtain ⟨hcz29_0,hcz29_1⟩:=x2_ BK1
          go_wp2
          go_ret
          exact ⟨by first|rfl|(simp [errW_none,errW_some]<;>rfl)|(simp [*,errW_none,errW_some]<;>rfl),zl1_ HB GE1⟩

         subst c19
         have H1:(if 0≤x4_3 then (if x4_3<(l0_1.length:Int) then (if (((rd_T58 l0_1 x4_3).f1).size:Int)>100 then (some true) else (if (((rd_T58 l0_1 x4_3).f2).size:Int)>100 then (some true) else (law16_Great.l1 kj14 (wrap64 (x4_3+1)) l0_0 l0_1 a0_2))) else (none)) else (none))=some r:=by rw [if_pos rfl] at H;exact H
         clear H
         have H:=H1
         clear H1
         by_cases c20:0≤x4_3
         rotate_left
         ·rw [if_neg c20] at H
          exact absurd H (by simp)
         rw [if_pos c20] at H
         have c20b0:decide (0≤x4_3)=true:=decide_eq_true c20
         clear c20
         by_cases c21:x4_3<(l0_1.length:Int)
         rotate_left
         ·rw [if_neg c21] at H
          exact absurd H (by simp)
         rw [if_pos c21] at H
         have c21b0:decide (x4_3<(l0_1.length:Int))=true:=decide_eq_true c21
         clear c21
         by_cases c22:(((rd_T58 l0_1 x4_3).f1).size:Int)>100
         ·rw [if_pos c22] at H
          have c22b0:decide (100<(((rd_T58 l0_1 x4_3).f1).size:Int))=true:=decide_eq_true c22
          clear c22
          obtain rfl:=Option.some.inj H
          have hcz23_1:=zz_ BK1 1
          have p4:0≤(x4_3:Int):=of_decide_eq_true zq_
          have q4:x4_3<(l0_1.length:Int):=of_decide_eq_true zq_
          obtain ⟨ad4,e4,hx4_0,hx4_1,hx4_2,hx4_3,hx4_4,hx4_5⟩:=at_T58 HR0_1.out x4_3 p4 q4
          cases e4
          replace hx4_0:=zx_ HB hx4_0
          replace hx4_1:=zx_ HB hx4_1
          replace hx4_2:=zx_ HB hx4_2
          replace hx4_3:=zx_ HB hx4_3
          replace hx4_4:=zx_ HB hx4_4
          replace hx4_5:=zx_ HB hx4_5
          replace p4:=eq_true p4
          replace q4:=eq_true q4
          go_wp2
          go_ret
          exact ⟨by first|rfl|(simp [errW_none,errW_some]<;>rfl)|(simp [*,errW_none,errW_some]<;>rfl),zl1_ HB GE1⟩
         rw [if_neg c22] at H
         have c22b0:decide (100<(((rd_T58 l0_1 x4_3).f1).size:Int))=false:=decide_eq_false c22
         clear c22
         by_cases c24:(((rd_T58 l0_1 x4_3).f2).size:Int)>100
         ·rw [if_pos c24] at H
          have c24b0:decide (100<(((rd_T58 l0_1 x4_3).f2).size:Int))=true:=decide_eq_true c24
          clear c24
          obtain rfl:=Option.some.inj H
          have hcz25_1:=zz_ BK1 1
          have p4:0≤(x4_3:Int):=of_decide_eq_true zq_
          have q4:x4_3<(l0_1.length:Int):=of_decide_eq_true zq_
          obtain ⟨ad4,e4,hx4_0,hx4_1,hx4_2,hx4_3,hx4_4,hx4_5⟩:=at_T58 HR0_1.out x4_3 p4 q4
          cases e4
          replace hx4_0:=zx_ HB hx4_0
          replace hx4_1:=zx_ HB hx4_1
          replace hx4_2:=zx_ HB hx4_2
          replace hx4_3:=zx_ HB hx4_3
          replace hx4_4:=zx_ HB hx4_4
          replace hx4_5:=zx_ HB hx4_5
          replace p4:=eq_true p4
          replace q4:=eq_true q4
          have p5:0≤(x4_3:Int):=of_decide_eq_true zq_
          have q5:x4_3<(l0_1.length:Int):=of_decide_eq_true zq_
          obtain ⟨ad5,e5,hx5_0,hx5_1,hx5_2,hx5_3,hx5_4,hx5_5⟩:=at_T58 HR0_1.out x4_3 p5 q5
          obtain rfl:ad4=ad5:=(by injection e5)
          replace hx5_0:=zx_ HB hx5_0
          replace hx5_1:=zx_ HB hx5_1
          replace hx5_2:=zx_ HB hx5_2
          replace hx5_3:=zx_ HB hx5_3
          replace hx5_4:=zx_ HB hx5_4
          replace hx5_5:=zx_ HB hx5_5
          replace p5:=eq_true p5
          replace q5:=eq_true q5
          go_wp2
          go_ret
          exact ⟨by first|rfl|(simp [errW_none,errW_some]<;>rfl)|(simp [*,errW_none,errW_some]<;>rfl),zl1_ HB GE1⟩
         rw [if_neg c24] at H
         have c24b0:decide (100<(((rd_T58 l0_1 x4_3).f2).size:Int))=false:=decide_eq_false c24
         clear c24
         have H':=Aside0.mk H
         clear H
         have hcz26_1:=zz_ BK1 1
         have p4:0≤(x4_3:Int):=of_decide_eq_true zq_
         have q4:x4_3<(l0_1.length:Int):=of_decide_eq_true zq_
         obtain ⟨ad4,e4,hx4_0,hx4_1,hx4_2,hx4_3,hx4_4,hx4_5⟩:=at_T58 HR0_1.out x4_3 p4 q4
         cases e4
         replace hx4_0:=zx_ HB hx4_0
         replace hx4_1:=zx_ HB hx4_1
         replace hx4_2:=zx_ HB hx4_2
         replace hx4_3:=zx_ HB hx4_3
         replace hx4_4:=zx_ HB hx4_4
         replace hx4_5:=zx_ HB hx4_5
         replace p4:=eq_true p4
         replace q4:=eq_true q4
         have p5:0≤(x4_3:Int):=of_decide_eq_true zq_
         have q5:x4_3<(l0_1.length:Int):=of_decide_eq_true zq_
         obtain ⟨ad5,e5,hx5_0,hx5_1,hx5_2,hx5_3,hx5_4,hx5_5⟩:=at_T58 HR0_1.out x4_3 p5 q5
         obtain rfl:ad4=ad5:=(by injection e5)
         replace hx5_0:=zx_ HB hx5_0
         replace hx5_1:=zx_ HB hx5_1
         replace hx5_2:=zx_ HB hx5_2
         replace hx5_3:=zx_ HB hx5_3
         replace hx5_4:=zx_ HB hx5_4
         replace hx5_5:=zx_ HB hx5_5
         replace p5:=eq_true p5
         replace q5:=eq_true q5
         go_wp2
         go_roundg kj14
         case measure=>have:=HK1.out;have:=HJ2.out;have:=HK3.out;have:=HJ14.out;omega
         case rel=>exact ⟨(wrap64 (x4_3+1)),(by first|rfl|(simp;done)|(simp [*];done)),H',⟨by have:=HK1.out;have:=HJ2.out;have:=HK3.out;have:=HJ14.out;omega⟩,⟨by refine zk_ ?_;exact BK1.out⟩,⟨zl1_ HB GE1⟩⟩
def law19_awake.f (k:Nat):Option (Bool):=(some (([(⟨(⟨#[97]⟩:ByteArray),(⟨#[]⟩:ByteArray),(⟨0,0,0⟩:S27),(⟨0,0,0⟩:S27),(⟨0,0,0⟩:S27),1⟩:S31)]:List (S31)):List (S31))).bind fun y1=>((trial_Steps.f k y1 ([]:List (S58))).bind fun bt4=>((trial_Steps.f k y1 (([(⟨4,(⟨#[97]⟩:ByteArray),(⟨#[]⟩:ByteArray),(⟨0,0,0⟩:S27)⟩:S58),(⟨4,(⟨#[97]⟩:ByteArray),(⟨#[]⟩:ByteArray),(⟨0,0,0⟩:S27)⟩:S58)]:List (S58)))).bind fun bt13=>(if (bt4.1.length:Int)=1 then (if bt4.2.1=0 then (if (bt13.1.length:Int)=0 then (if bt13.2.1=1 then ((law1_Num.f bt13.2.2).bind fun t19=>(some (t19==2))) else (some false)) else (some false)) else (some false)) else (some false))))
theorem law19_awake.mono: ∀k,LeO (law19_awake.f k) (law19_awake.f (k+1)):=by
 intro k
 unfold law19_awake.f
 repeat' first
  |(with_reducible exact trial_Steps.mono _ _ _)
  |(with_reducible exact LeO.refl _)
  |(with_reducible exact LeO.none _)
  |(with_reducible refine LeO.ite ?_ ?_)
  |(with_reducible refine LeO.bind ?_ (fun _=> ?_))
  |exact trial_Steps.mono _ _ _
  |exact LeO.none _
  |refine LeO.ite ?_ ?_
  |refine LeO.bind ?_ (fun _=> ?_)
set_option maxHeartbeats 8000000 in
set_option maxRecDepth 100000 in
theorem law19_awake.calls (k:Nat) (r:Bool) (w:World) (h:law19_awake.f k=some r):
  Calls Try.prog 94 #[] w fun e w'=>e= .returned (.bool r)∧Below w.heap.size w w':=by
 have HB:=am_ (Below.refl w.heap.size w)
 have H:((some (([(⟨(⟨#[97]⟩:ByteArray),(⟨#[]⟩:ByteArray),(⟨0,0,0⟩:S27),(⟨0,0,0⟩:S27),(⟨0,0,0⟩:S27),1⟩:S31)]:List (S31)):List (S31))).bind fun y1=>((trial_Steps.f k y1 ([]:List (S58))).bind fun bt4=>((trial_Steps.f k y1 (([(⟨4,(⟨#[97]⟩:ByteArray),(⟨#[]⟩:ByteArray),(⟨0,0,0⟩:S27)⟩:S58),(⟨4,(⟨#[97]⟩:ByteArray),(⟨#[]⟩:ByteArray),(⟨0,0,0⟩:S27)⟩:S58)]:List (S58)))).bind fun bt13=>(if (bt4.1.length:Int)=1 then (if bt4.2.1=0 then (if (bt13.1.length:Int)=0 then (if bt13.2.1=1 then ((law1_Num.f bt13.2.2).bind fun t19=>(some (t19==2))) else (some false)) else (some false)) else (some false)) else (some false)))))=some r:=h
 clear h
 obtain ⟨y1,hy1⟩: ∃y_:List (S31),y_=(([(⟨(⟨#[97]⟩:ByteArray),(⟨#[]⟩:ByteArray),(⟨0,0,0⟩:S27),(⟨0,0,0⟩:S27),(⟨0,0,0⟩:S27),1⟩:S31)]:List (S31))):=⟨_,rfl⟩
 replace H:((trial_Steps.f k y1 ([]:List (S58))).bind fun bt4=>((trial_Steps.f k y1 (([(⟨4,(⟨#[97]⟩:ByteArray),(⟨#[]⟩:ByteArray),(⟨0,0,0⟩:S27)⟩:S58),(⟨4,(⟨#[97]⟩:ByteArray),(⟨#[]⟩:ByteArray),(⟨0,0,0⟩:S27)⟩:S58)]:List (S58)))).bind fun bt13=>(if (bt4.1.length:Int)=1 then (if bt4.2.1=0 then (if (bt13.1.length:Int)=0 then (if bt13.2.1=1 then ((law1_Num.f bt13.2.2).bind fun t19=>(some (t19==2))) else (some false)) else (some false)) else (some false)) else (some false))))=some r:=by first|(rw [hy1];with_reducible exact H)|(have H2_:=(Option.bind_some _ _).symm.trans H;rw [hy1];with_reducible exact H2_)|(have H2_:=(Option.bind_some _ _).symm.trans H;with_reducible exact H2_)|with_reducible exact H|(rw [hy1];exact H)|exact H
 have Ny1:=Aside0.mk hy1
 clear hy1
 replace H:=Option.bind_eq_some_iff.mp H
 obtain ⟨⟨t4,t7,t8⟩,A10,H⟩:=H
 try dsimp only at H
 have A1:=Aside0.mk A10
 clear A10
 obtain ⟨y10,hy10⟩: ∃y_:List (S58),y_=(([(⟨4,(⟨#[97]⟩:ByteArray),(⟨#[]⟩:ByteArray),(⟨0,0,0⟩:S27)⟩:S58),(⟨4,(⟨#[97]⟩:ByteArray),(⟨#[]⟩:ByteArray),(⟨0,0,0⟩:S27)⟩:S58)]:List (S58))):=⟨_,rfl⟩
 replace H:((trial_Steps.f k y1 y10).bind fun bt13=>(if (t4.length:Int)=1 then (if t7=0 then (if (bt13.1.length:Int)=0 then (if bt13.2.1=1 then ((law1_Num.f bt13.2.2).bind fun t19=>(some (t19==2))) else (some false)) else (some false)) else (some false)) else (some false)))=some r:=by first|(rw [hy10];with_reducible exact H)|(have H2_:=(Option.bind_some _ _).symm.trans H;rw [hy10];with_reducible exact H2_)|(have H2_:=(Option.bind_some _ _).symm.trans H;with_reducible exact H2_)|with_reducible exact H|(rw [hy10];exact H)|exact H
 have Ny10:=Aside0.mk hy10
 clear hy10
 replace H:=Option.bind_eq_some_iff.mp H
 obtain ⟨⟨t13,t16,t17⟩,A20,H⟩:=H
 try dsimp only at H
 have A2:=Aside0.mk A20
 clear A20
 by_cases c3:(t4.length:Int)=1
 rotate_left
 ·rw [if_neg c3] at H
  have c3b0:((t4.length:Int)==1)=false:=beq_eq_false_iff_ne.mpr c3
  obtain rfl:=Option.some.inj H
  go_enter Try.func94,Try.ntmps94
  go_wp2_with (first|((with_reducible refine gate_dst (N:=5) rfl ?_);(try (refine gate_guard (by rfl) ?_;dsimp only));refine Kd.R_lit k31 _ 31 ?hg (N:=5) ?hd (xs:=([(⟨(⟨#[97]⟩:ByteArray),(⟨#[]⟩:ByteArray),(⟨0,0,0⟩:S27),(⟨0,0,0⟩:S27),(⟨0,0,0⟩:S27),1⟩:S31)]:List (S31))) (inner:=[.string (⟨#[97]⟩:ByteArray), .string (⟨#[]⟩:ByteArray), .int .i64 0, .int .i64 0, .int .i64 0, .int .i64 0, .int .i64 0, .int .i64 0, .int .i64 0, .int .i64 0, .int .i64 0, .int .i64 1]) (ok:=fun _=>True) (okp:=fun _=>True) ?hr ?hp (fun _ hk=>hk) trivial (Below.refl _ _) (Nat.le_refl _) (by simp) ?_;(case hd=>rfl);(case hg=>rfl);(case hr=>first|(go_simp;done)|(go_simp;rfl));(case hp=>exact (Reps.front (show Kd.M k31 _ _ _ (⟨(⟨#[97]⟩:ByteArray),(⟨#[]⟩:ByteArray),(⟨0,0,0⟩:S27),(⟨0,0,0⟩:S27),(⟨0,0,0⟩:S27),1⟩:S31) [.string (⟨#[97]⟩:ByteArray), .string (⟨#[]⟩:ByteArray), .int .i64 0, .int .i64 0, .int .i64 0, .int .i64 0, .int .i64 0, .int .i64 0, .int .i64 0, .int .i64 0, .int .i64 0, .int .i64 1] from (k31_mkM _ _ _ (⟨(⟨#[97]⟩:ByteArray),(⟨#[]⟩:ByteArray),(⟨0,0,0⟩:S27),(⟨0,0,0⟩:S27),(⟨0,0,0⟩:S27),1⟩:S31))) rfl (Reps.none _ _) rfl));intro v2 w72 ho73 hb hg_ hnew_;clear hg_ hnew_;(first|rw [←Ny1.out] at ho73|(simp only [Int.reduceToNat] at ho73;rw [←Ny1.out] at ho73));have HO3:=am_ (Kd.R_lower ho73 (below_size (zl0_ HB)));replace HB:=am_ (below_step (zl0_ HB) hb);clear hb ho73;obtain ⟨Ao74,co74,eo74⟩:=Kd.R_slice HO3.out;subst eo74)|((with_reducible refine gate_callee (f:=99) rfl ?_);refine gl_ (some 7) Try.func99 #[.slice Ao74 y1.length co74, .slice none 0 0] ?_;(refine (trial_Steps.calls k _ _ y1 _ _ ([]:List (S58)) t4 t7 t8 _ ?side1 ?side2 ?side3 ?side4 A1.out).mono ?_);(case side1=>exact zc_ (Kd.R_reads' HO3.out).2.2);(case side2=>exact (Kd.R_reads' HO3.out).2.1);(case side3=>exact Kd.C_nil _ _);(case side4=>exact Nat.le_refl _);rintro e w75 ⟨v5,rfl,ho0,hb⟩;refine ⟨_,rfl, ?_⟩;have HO6:=am_ (Kd.R_lower (Kd.R_new' ho0 (Kd.R_lt (zr_ HO3))) (below_size (zl0_ HB)));replace HO3:=am_ (Kd.R_elder' (zr_ HO3) (Kd.R_base ho0) hb);replace HB:=am_ (below_step (zl0_ HB) hb);(try clear hb);(try clear hb2);(try clear hk);(try clear hi);(try clear ho0))|((with_reducible refine gate_dst (N:=2) rfl ?_);(try (refine gate_guard (by rfl) ?_;dsimp only));refine bx_ (N:=2) (cs:=#[.slice none 0 0, .int .i64 0, .int .i64 0]) (t:=113) ?_;intro gb9 hg w76 hbox hb;have n0_:=am_ (Kd.R_below (zr_ HO3) hb);have n1_:=am_ (Kd.R_below (zr_ HO6) hb);have n2_:=am_ (below_step (zl0_ HB) hb);have n3_:=am_ (hbox);have n4_:=am_ ((zg0_ HB hg:w.heap.size≤gb9));have n5_:=am_ ((zg0_ HB hg:w.heap.size≤gb9));clear HO3;clear HO6;clear HB;have HO3:=n0_;have HO6:=n1_;have HB:=n2_;have BK9:=n3_;have GE9:=n5_;clear n0_ n1_ n2_ n3_ n4_ n5_;clear hb hbox hg;obtain ⟨Ao77,co77,eo77⟩:=Kd.R_slice HO6.out;subst eo77;obtain ⟨hcz78_0,hcz78_1,hcz78_2⟩:=x3_ BK9;have hfz78_0:=blk_frozen BK9.out 0;have hfz78_1:=blk_frozen BK9.out 1;have hfz78_2:=blk_frozen BK9.out 2)|((with_reducible refine gate_dst (N:=11) rfl ?_);(try (refine gate_guard (by rfl) ?_;dsimp only));refine Kd.R_lit k58 _ 58 ?hg (N:=11) ?hd (xs:=([(⟨4,(⟨#[97]⟩:ByteArray),(⟨#[]⟩:ByteArray),(⟨0,0,0⟩:S27)⟩:S58),(⟨4,(⟨#[97]⟩:ByteArray),(⟨#[]⟩:ByteArray),(⟨0,0,0⟩:S27)⟩:S58)]:List (S58))) (inner:=[.int .i64 4, .string (⟨#[97]⟩:ByteArray), .string (⟨#[]⟩:ByteArray), .int .i64 0, .int .i64 0, .int .i64 0, .int .i64 4, .string (⟨#[97]⟩:ByteArray), .string (⟨#[]⟩:ByteArray), .int .i64 0, .int .i64 0, .int .i64 0]) (ok:=fun _=>True) (okp:=fun _=>True) ?hr ?hp (fun _ hk=>hk) trivial (Below.refl _ _) (Nat.le_refl _) (by simp) ?_;(case hd=>rfl);(case hg=>rfl);(case hr=>first|(go_simp;done)|(go_simp;rfl));(case hp=>exact (Reps.c6 (show Kd.M k58 _ _ _ (⟨4,(⟨#[97]⟩:ByteArray),(⟨#[]⟩:ByteArray),(⟨0,0,0⟩:S27)⟩:S58) [.int .i64 4, .string (⟨#[97]⟩:ByteArray), .string (⟨#[]⟩:ByteArray), .int .i64 0, .int .i64 0, .int .i64 0] from (k58_mkM _ _ _ (⟨4,(⟨#[97]⟩:ByteArray),(⟨#[]⟩:ByteArray),(⟨0,0,0⟩:S27)⟩:S58))) (Reps.c6 (show Kd.M k58 _ _ _ (⟨4,(⟨#[97]⟩:ByteArray),(⟨#[]⟩:ByteArray),(⟨0,0,0⟩:S27)⟩:S58) [.int .i64 4, .string (⟨#[97]⟩:ByteArray), .string (⟨#[]⟩:ByteArray), .int .i64 0, .int .i64 0, .int .i64 0] from (k58_mkM _ _ _ (⟨4,(⟨#[97]⟩:ByteArray),(⟨#[]⟩:ByteArray),(⟨0,0,0⟩:S27)⟩:S58))) (Reps.none _ _))));intro v11 w79 ho80 hb hg_ hnew_;clear hg_ hnew_;(first|rw [←Ny10.out] at ho80|(simp only [Int.reduceToNat] at ho80;rw [←Ny10.out] at ho80));replace HO3:=am_ (Kd.R_below (by refine zt_ ?_;exact (Kd.R_mono (Kd.R_far (p:=⟨gb9,2,none⟩) (Kd.R_far (p:=⟨gb9,1,none⟩) (Kd.R_far (p:=⟨gb9,0,none⟩) (Kd.R_types HO3.out BK9.out (by decide)) (fun _ hk=>hk.2) (.slice Ao77 t4.length co77)) (fun _ hk=>hk.2) (.int .i64 t7)) (fun _ hk=>hk.2) (.int .i64 t8)) (fun _ h_=>h_.1))) hb);replace HO6:=am_ (Kd.R_below (by refine zt_ ?_;exact (Kd.R_mono (Kd.R_far (p:=⟨gb9,2,none⟩) (Kd.R_far (p:=⟨gb9,1,none⟩) (Kd.R_far (p:=⟨gb9,0,none⟩) (Kd.R_types HO6.out BK9.out (by decide)) (fun _ hk=>hk.2) (.slice Ao77 t4.length co77)) (fun _ hk=>hk.2) (.int .i64 t7)) (fun _ hk=>hk.2) (.int .i64 t8)) (fun _ h_=>h_.1))) hb);have HO12:=am_ (Kd.R_lower ho80 (below_size (zl1_ HB GE9)));replace BK9:=am_ (blk_below (g:=gb9) (o:= .cells #[.slice Ao77 t4.length co77, .int .i64 t7, .int .i64 t8] 113 (0,0)) (zw_ BK9) hb);replace HB:=am_ (below_step (zl1_ HB GE9) hb);clear hb ho80;obtain ⟨Ao81,co81,eo81⟩:=Kd.R_slice HO12.out;subst eo81)|((with_reducible refine gate_callee (f:=99) rfl ?_);refine gl_ (some 12) Try.func99 #[.slice Ao74 y1.length co74, .slice Ao81 y10.length co81] ?_;(with_reducible refine (trial_Steps.calls k _ _ y1 _ _ y10 t13 t16 t17 _ ?side1 ?side2 ?side3 ?side4 A2.out).mono ?_);(case side1=>exact zc_ (Kd.R_reads' HO3.out).2.2);(case side2=>exact (Kd.R_reads' HO3.out).2.1);(case side3=>exact zc_ (Kd.R_reads' HO12.out).2.2);(case side4=>exact (Kd.R_reads' HO12.out).2.1);rintro e w82 ⟨v14,rfl,ho0,hb⟩;refine ⟨_,rfl, ?_⟩;replace HO12:=am_ (Kd.R_below (zr_ HO12) hb);have HO15:=am_ (Kd.R_lower (Kd.R_new' (Kd.R_new' ho0 (Kd.R_lt (zr_ HO3))) (Kd.R_lt (zr_ HO6))) (below_size (zl1_ HB GE9)));replace HO3:=am_ (Kd.R_elder' (zr_ HO3) (Kd.R_base ho0) hb);replace HO6:=am_ (Kd.R_elder' (zr_ HO6) (Kd.R_base ho0) hb);replace BK9:=am_ (blk_below (zb_ BK9) hb);replace HB:=am_ (below_step (zl1_ HB GE9) hb);(try clear hb);(try clear hb2);(try clear hk);(try clear hi);(try clear ho0))|((with_reducible refine gate_dst (N:=3) rfl ?_);(try (refine gate_guard (by rfl) ?_;dsimp only));refine bx_ (N:=3) (cs:=#[.slice none 0 0, .int .i64 0, .int .i64 0]) (t:=113) ?_;intro gb18 hg w83 hbox hb;have n0_:=am_ (Kd.R_below (zr_ HO3) hb);have n1_:=am_ (Kd.R_below (zr_ HO6) hb);have n2_:=am_ (Kd.R_below (zr_ HO12) hb);have n3_:=am_ (Kd.R_below (zr_ HO15) hb);have n4_:=am_ (blk_below (zb_ BK9) hb);have n5_:=am_ (below_step (zl1_ HB GE9) hb);have n6_:=am_ (hbox);have n8_:=am_ ((zg1_ HB GE9 hg:w.heap.size≤gb18));have n9_:=am_ ((zn_ BK9 hg:gb9≠gb18));have n10_:=am_ ((zm_ BK9 hg:gb18≠gb9));clear HO3;clear HO6;clear HO12;clear HO15;clear BK9;clear HB;have HO3:=n0_;have HO6:=n1_;have HO12:=n2_;have HO15:=n3_;have BK9:=n4_;have HB:=n5_;have BK18:=n6_;have GE18:=n8_;have NB9_18:=n9_;clear n0_ n1_ n2_ n3_ n4_ n5_ n6_ n8_ n9_ n10_;clear hb hbox hg;obtain ⟨Ao84,co84,eo84⟩:=Kd.R_slice HO15.out;subst eo84;have hnc85:=NB9_18.out;obtain ⟨hcz86_0,hcz86_1,hcz86_2,hfz86_0,hfz86_1,hfz86_2⟩:=y3_ BK18;have hcz87_0:=zz_ BK9 0))
  go_ret
  exact ⟨by first|rfl|(simp [errW_none,errW_some]<;>rfl)|(simp [*,errW_none,errW_some]<;>rfl),zl2_ HB GE9 GE18⟩

 rw [if_pos c3] at H
 have c3b0:((t4.length:Int)==1)=true:=beq_iff_eq.mpr c3
 clear c3
 by_cases c4:t7=0
 rotate_left
 ·rw [if_neg c4] at H
  have c4b0:(t7==0)=false:=beq_eq_false_iff_ne.mpr c4
  obtain rfl:=Option.some.inj H
  go_enter Try.func94,Try.ntmps94
  go_wp2_with (first|((with_reducible refine gate_dst (N:=5) rfl ?_);(try (refine gate_guard (by rfl) ?_;dsimp only));refine Kd.R_lit k31 _ 31 ?hg (N:=5) ?hd (xs:=([(⟨(⟨#[97]⟩:ByteArray),(⟨#[]⟩:ByteArray),(⟨0,0,0⟩:S27),(⟨0,0,0⟩:S27),(⟨0,0,0⟩:S27),1⟩:S31)]:List (S31))) (inner:=[.string (⟨#[97]⟩:ByteArray), .string (⟨#[]⟩:ByteArray), .int .i64 0, .int .i64 0, .int .i64 0, .int .i64 0, .int .i64 0, .int .i64 0, .int .i64 0, .int .i64 0, .int .i64 0, .int .i64 1]) (ok:=fun _=>True) (okp:=fun _=>True) ?hr ?hp (fun _ hk=>hk) trivial (Below.refl _ _) (Nat.le_refl _) (by simp) ?_;(case hd=>rfl);(case hg=>rfl);(case hr=>first|(go_simp;done)|(go_simp;rfl));(case hp=>exact (Reps.front (show Kd.M k31 _ _ _ (⟨(⟨#[97]⟩:ByteArray),(⟨#[]⟩:ByteArray),(⟨0,0,0⟩:S27),(⟨0,0,0⟩:S27),(⟨0,0,0⟩:S27),1⟩:S31) [.string (⟨#[97]⟩:ByteArray), .string (⟨#[]⟩:ByteArray), .int .i64 0, .int .i64 0, .int .i64 0, .int .i64 0, .int .i64 0, .int .i64 0, .int .i64 0, .int .i64 0, .int .i64 0, .int .i64 1] from (k31_mkM _ _ _ (⟨(⟨#[97]⟩:ByteArray),(⟨#[]⟩:ByteArray),(⟨0,0,0⟩:S27),(⟨0,0,0⟩:S27),(⟨0,0,0⟩:S27),1⟩:S31))) rfl (Reps.none _ _) rfl));intro v2 w56 ho57 hb hg_ hnew_;clear hg_ hnew_;(first|rw [←Ny1.out] at ho57|(simp only [Int.reduceToNat] at ho57;rw [←Ny1.out] at ho57));have HO3:=am_ (Kd.R_lower ho57 (below_size (zl0_ HB)));replace HB:=am_ (below_step (zl0_ HB) hb);clear hb ho57;obtain ⟨Ao58,co58,eo58⟩:=Kd.R_slice HO3.out;subst eo58)|((with_reducible refine gate_callee (f:=99) rfl ?_);refine gl_ (some 7) Try.func99 #[.slice Ao58 y1.length co58, .slice none 0 0] ?_;(refine (trial_Steps.calls k _ _ y1 _ _ ([]:List (S58)) t4 t7 t8 _ ?side1 ?side2 ?side3 ?side4 A1.out).mono ?_);(case side1=>exact zc_ (Kd.R_reads' HO3.out).2.2);(case side2=>exact (Kd.R_reads' HO3.out).2.1);(case side3=>exact Kd.C_nil _ _);(case side4=>exact Nat.le_refl _);rintro e w59 ⟨v5,rfl,ho0,hb⟩;refine ⟨_,rfl, ?_⟩;have HO6:=am_ (Kd.R_lower (Kd.R_new' ho0 (Kd.R_lt (zr_ HO3))) (below_size (zl0_ HB)));replace HO3:=am_ (Kd.R_elder' (zr_ HO3) (Kd.R_base ho0) hb);replace HB:=am_ (below_step (zl0_ HB) hb);(try clear hb);(try clear hb2);(try clear hk);(try clear hi);(try clear ho0))|((with_reducible refine gate_dst (N:=2) rfl ?_);(try (refine gate_guard (by rfl) ?_;dsimp only));refine bx_ (N:=2) (cs:=#[.slice none 0 0, .int .i64 0, .int .i64 0]) (t:=113) ?_;intro gb9 hg w60 hbox hb;have n0_:=am_ (Kd.R_below (zr_ HO3) hb);have n1_:=am_ (Kd.R_below (zr_ HO6) hb);have n2_:=am_ (below_step (zl0_ HB) hb);have n3_:=am_ (hbox);have n4_:=am_ ((zg0_ HB hg:w.heap.size≤gb9));have n5_:=am_ ((zg0_ HB hg:w.heap.size≤gb9));clear HO3;clear HO6;clear HB;have HO3:=n0_;have HO6:=n1_;have HB:=n2_;have BK9:=n3_;have GE9:=n5_;clear n0_ n1_ n2_ n3_ n4_ n5_;clear hb hbox hg;obtain ⟨Ao61,co61,eo61⟩:=Kd.R_slice HO6.out;subst eo61;obtain ⟨hcz62_0,hcz62_1,hcz62_2⟩:=x3_ BK9;have hfz62_0:=blk_frozen BK9.out 0;have hfz62_1:=blk_frozen BK9.out 1;have hfz62_2:=blk_frozen BK9.out 2)|((with_reducible refine gate_dst (N:=11) rfl ?_);(try (refine gate_guard (by rfl) ?_;dsimp only));refine Kd.R_lit k58 _ 58 ?hg (N:=11) ?hd (xs:=([(⟨4,(⟨#[97]⟩:ByteArray),(⟨#[]⟩:ByteArray),(⟨0,0,0⟩:S27)⟩:S58),(⟨4,(⟨#[97]⟩:ByteArray),(⟨#[]⟩:ByteArray),(⟨0,0,0⟩:S27)⟩:S58)]:List (S58))) (inner:=[.int .i64 4, .string (⟨#[97]⟩:ByteArray), .string (⟨#[]⟩:ByteArray), .int .i64 0, .int .i64 0, .int .i64 0, .int .i64 4, .string (⟨#[97]⟩:ByteArray), .string (⟨#[]⟩:ByteArray), .int .i64 0, .int .i64 0, .int .i64 0]) (ok:=fun _=>True) (okp:=fun _=>True) ?hr ?hp (fun _ hk=>hk) trivial (Below.refl _ _) (Nat.le_refl _) (by simp) ?_;(case hd=>rfl);(case hg=>rfl);(case hr=>first|(go_simp;done)|(go_simp;rfl));(case hp=>exact (Reps.c6 (show Kd.M k58 _ _ _ (⟨4,(⟨#[97]⟩:ByteArray),(⟨#[]⟩:ByteArray),(⟨0,0,0⟩:S27)⟩:S58) [.int .i64 4, .string (⟨#[97]⟩:ByteArray), .string (⟨#[]⟩:ByteArray), .int .i64 0, .int .i64 0, .int .i64 0] from (k58_mkM _ _ _ (⟨4,(⟨#[97]⟩:ByteArray),(⟨#[]⟩:ByteArray),(⟨0,0,0⟩:S27)⟩:S58))) (Reps.c6 (show Kd.M k58 _ _ _ (⟨4,(⟨#[97]⟩:ByteArray),(⟨#[]⟩:ByteArray),(⟨0,0,0⟩:S27)⟩:S58) [.int .i64 4, .string (⟨#[97]⟩:ByteArray), .string (⟨#[]⟩:ByteArray), .int .i64 0, .int .i64 0, .int .i64 0] from (k58_mkM _ _ _ (⟨4,(⟨#[97]⟩:ByteArray),(⟨#[]⟩:ByteArray),(⟨0,0,0⟩:S27)⟩:S58))) (Reps.none _ _))));intro v11 w63 ho64 hb hg_ hnew_;clear hg_ hnew_;(first|rw [←Ny10.out] at ho64|(simp only [Int.reduceToNat] at ho64;rw [←Ny10.out] at ho64));replace HO3:=am_ (Kd.R_below (by refine zt_ ?_;exact (Kd.R_mono (Kd.R_far (p:=⟨gb9,2,none⟩) (Kd.R_far (p:=⟨gb9,1,none⟩) (Kd.R_far (p:=⟨gb9,0,none⟩) (Kd.R_types HO3.out BK9.out (by decide)) (fun _ hk=>hk.2) (.slice Ao61 t4.length co61)) (fun _ hk=>hk.2) (.int .i64 t7)) (fun _ hk=>hk.2) (.int .i64 t8)) (fun _ h_=>h_.1))) hb);replace HO6:=am_ (Kd.R_below (by refine zt_ ?_;exact (Kd.R_mono (Kd.R_far (p:=⟨gb9,2,none⟩) (Kd.R_far (p:=⟨gb9,1,none⟩) (Kd.R_far (p:=⟨gb9,0,none⟩) (Kd.R_types HO6.out BK9.out (by decide)) (fun _ hk=>hk.2) (.slice Ao61 t4.length co61)) (fun _ hk=>hk.2) (.int .i64 t7)) (fun _ hk=>hk.2) (.int .i64 t8)) (fun _ h_=>h_.1))) hb);have HO12:=am_ (Kd.R_lower ho64 (below_size (zl1_ HB GE9)));replace BK9:=am_ (blk_below (g:=gb9) (o:= .cells #[.slice Ao61 t4.length co61, .int .i64 t7, .int .i64 t8] 113 (0,0)) (zw_ BK9) hb);replace HB:=am_ (below_step (zl1_ HB GE9) hb);clear hb ho64;obtain ⟨Ao65,co65,eo65⟩:=Kd.R_slice HO12.out;subst eo65)|((with_reducible refine gate_callee (f:=99) rfl ?_);refine gl_ (some 12) Try.func99 #[.slice Ao58 y1.length co58, .slice Ao65 y10.length co65] ?_;(with_reducible refine (trial_Steps.calls k _ _ y1 _ _ y10 t13 t16 t17 _ ?side1 ?side2 ?side3 ?side4 A2.out).mono ?_);(case side1=>exact zc_ (Kd.R_reads' HO3.out).2.2);(case side2=>exact (Kd.R_reads' HO3.out).2.1);(case side3=>exact zc_ (Kd.R_reads' HO12.out).2.2);(case side4=>exact (Kd.R_reads' HO12.out).2.1);rintro e w66 ⟨v14,rfl,ho0,hb⟩;refine ⟨_,rfl, ?_⟩;replace HO12:=am_ (Kd.R_below (zr_ HO12) hb);have HO15:=am_ (Kd.R_lower (Kd.R_new' (Kd.R_new' ho0 (Kd.R_lt (zr_ HO3))) (Kd.R_lt (zr_ HO6))) (below_size (zl1_ HB GE9)));replace HO3:=am_ (Kd.R_elder' (zr_ HO3) (Kd.R_base ho0) hb);replace HO6:=am_ (Kd.R_elder' (zr_ HO6) (Kd.R_base ho0) hb);replace BK9:=am_ (blk_below (zb_ BK9) hb);replace HB:=am_ (below_step (zl1_ HB GE9) hb);(try clear hb);(try clear hb2);(try clear hk);(try clear hi);(try clear ho0))|((with_reducible refine gate_dst (N:=3) rfl ?_);(try (refine gate_guard (by rfl) ?_;dsimp only));refine bx_ (N:=3) (cs:=#[.slice none 0 0, .int .i64 0, .int .i64 0]) (t:=113) ?_;intro gb18 hg w67 hbox hb;have n0_:=am_ (Kd.R_below (zr_ HO3) hb);have n1_:=am_ (Kd.R_below (zr_ HO6) hb);have n2_:=am_ (Kd.R_below (zr_ HO12) hb);have n3_:=am_ (Kd.R_below (zr_ HO15) hb);have n4_:=am_ (blk_below (zb_ BK9) hb);have n5_:=am_ (below_step (zl1_ HB GE9) hb);have n6_:=am_ (hbox);have n8_:=am_ ((zg1_ HB GE9 hg:w.heap.size≤gb18));have n9_:=am_ ((zn_ BK9 hg:gb9≠gb18));have n10_:=am_ ((zm_ BK9 hg:gb18≠gb9));clear HO3;clear HO6;clear HO12;clear HO15;clear BK9;clear HB;have HO3:=n0_;have HO6:=n1_;have HO12:=n2_;have HO15:=n3_;have BK9:=n4_;have HB:=n5_;have BK18:=n6_;have GE18:=n8_;have NB9_18:=n9_;clear n0_ n1_ n2_ n3_ n4_ n5_ n6_ n8_ n9_ n10_;clear hb hbox hg;obtain ⟨Ao68,co68,eo68⟩:=Kd.R_slice HO15.out;subst eo68;have hnc69:=NB9_18.out;obtain ⟨hcz70_0,hcz70_1,hcz70_2,hfz70_0,hfz70_1,hfz70_2⟩:=y3_ BK18;obtain ⟨hcz71_0,hcz71_1⟩:=x2_ BK9))
  go_ret
  exact ⟨by first|rfl|(simp [errW_none,errW_some]<;>rfl)|(simp [*,errW_none,errW_some]<;>rfl),zl2_ HB GE9 GE18⟩
 rw [if_pos c4] at H
 have c4b0:(t7==0)=true:=beq_iff_eq.mpr c4
 clear c4
 by_cases c5:(t13.length:Int)=0
 rotate_left
 ·rw [if_neg c5] at H
  have c5b0:((t13.length:Int)==0)=false:=beq_eq_false_iff_ne.mpr c5
  obtain rfl:=Option.some.inj H
  go_enter Try.func94,Try.ntmps94
  go_wp2_with (first|((with_reducible refine gate_dst (N:=5) rfl ?_);(try (refine gate_guard (by rfl) ?_;dsimp only));refine Kd.R_lit k31 _ 31 ?hg (N:=5) ?hd (xs:=([(⟨(⟨#[97]⟩:ByteArray),(⟨#[]⟩:ByteArray),(⟨0,0,0⟩:S27),(⟨0,0,0⟩:S27),(⟨0,0,0⟩:S27),1⟩:S31)]:List (S31))) (inner:=[.string (⟨#[97]⟩:ByteArray), .string (⟨#[]⟩:ByteArray), .int .i64 0, .int .i64 0, .int .i64 0, .int .i64 0, .int .i64 0, .int .i64 0, .int .i64 0, .int .i64 0, .int .i64 0, .int .i64 1]) (ok:=fun _=>True) (okp:=fun _=>True) ?hr ?hp (fun _ hk=>hk) trivial (Below.refl _ _) (Nat.le_refl _) (by simp) ?_;(case hd=>rfl);(case hg=>rfl);(case hr=>first|(go_simp;done)|(go_simp;rfl));(case hp=>exact (Reps.front (show Kd.M k31 _ _ _ (⟨(⟨#[97]⟩:ByteArray),(⟨#[]⟩:ByteArray),(⟨0,0,0⟩:S27),(⟨0,0,0⟩:S27),(⟨0,0,0⟩:S27),1⟩:S31) [.string (⟨#[97]⟩:ByteArray), .string (⟨#[]⟩:ByteArray), .int .i64 0, .int .i64 0, .int .i64 0, .int .i64 0, .int .i64 0, .int .i64 0, .int .i64 0, .int .i64 0, .int .i64 0, .int .i64 1] from (k31_mkM _ _ _ (⟨(⟨#[97]⟩:ByteArray),(⟨#[]⟩:ByteArray),(⟨0,0,0⟩:S27),(⟨0,0,0⟩:S27),(⟨0,0,0⟩:S27),1⟩:S31))) rfl (Reps.none _ _) rfl));intro v2 w40 ho41 hb hg_ hnew_;clear hg_ hnew_;(first|rw [←Ny1.out] at ho41|(simp only [Int.reduceToNat] at ho41;rw [←Ny1.out] at ho41));have HO3:=am_ (Kd.R_lower ho41 (below_size (zl0_ HB)));replace HB:=am_ (below_step (zl0_ HB) hb);clear hb ho41;obtain ⟨Ao42,co42,eo42⟩:=Kd.R_slice HO3.out;subst eo42)|((with_reducible refine gate_callee (f:=99) rfl ?_);refine gl_ (some 7) Try.func99 #[.slice Ao42 y1.length co42, .slice none 0 0] ?_;(refine (trial_Steps.calls k _ _ y1 _ _ ([]:List (S58)) t4 t7 t8 _ ?side1 ?side2 ?side3 ?side4 A1.out).mono ?_);(case side1=>exact zc_ (Kd.R_reads' HO3.out).2.2);(case side2=>exact (Kd.R_reads' HO3.out).2.1);(case side3=>exact Kd.C_nil _ _);(case side4=>exact Nat.le_refl _);rintro e w43 ⟨v5,rfl,ho0,hb⟩;refine ⟨_,rfl, ?_⟩;have HO6:=am_ (Kd.R_lower (Kd.R_new' ho0 (Kd.R_lt (zr_ HO3))) (below_size (zl0_ HB)));replace HO3:=am_ (Kd.R_elder' (zr_ HO3) (Kd.R_base ho0) hb);replace HB:=am_ (below_step (zl0_ HB) hb);(try clear hb);(try clear hb2);(try clear hk);(try clear hi);(try clear ho0))|((with_reducible refine gate_dst (N:=2) rfl ?_);(try (refine gate_guard (by rfl) ?_;dsimp only));refine bx_ (N:=2) (cs:=#[.slice none 0 0, .int .i64 0, .int .i64 0]) (t:=113) ?_;intro gb9 hg w44 hbox hb;have n0_:=am_ (Kd.R_below (zr_ HO3) hb);have n1_:=am_ (Kd.R_below (zr_ HO6) hb);have n2_:=am_ (below_step (zl0_ HB) hb);have n3_:=am_ (hbox);have n4_:=am_ ((zg0_ HB hg:w.heap.size≤gb9));have n5_:=am_ ((zg0_ HB hg:w.heap.size≤gb9));clear HO3;clear HO6;clear HB;have HO3:=n0_;have HO6:=n1_;have HB:=n2_;have BK9:=n3_;have GE9:=n5_;clear n0_ n1_ n2_ n3_ n4_ n5_;clear hb hbox hg;obtain ⟨Ao45,co45,eo45⟩:=Kd.R_slice HO6.out;subst eo45;obtain ⟨hcz46_0,hcz46_1,hcz46_2⟩:=x3_ BK9;have hfz46_0:=blk_frozen BK9.out 0;have hfz46_1:=blk_frozen BK9.out 1;have hfz46_2:=blk_frozen BK9.out 2)|((with_reducible refine gate_dst (N:=11) rfl ?_);(try (refine gate_guard (by rfl) ?_;dsimp only));refine Kd.R_lit k58 _ 58 ?hg (N:=11) ?hd (xs:=([(⟨4,(⟨#[97]⟩:ByteArray),(⟨#[]⟩:ByteArray),(⟨0,0,0⟩:S27)⟩:S58),(⟨4,(⟨#[97]⟩:ByteArray),(⟨#[]⟩:ByteArray),(⟨0,0,0⟩:S27)⟩:S58)]:List (S58))) (inner:=[.int .i64 4, .string (⟨#[97]⟩:ByteArray), .string (⟨#[]⟩:ByteArray), .int .i64 0, .int .i64 0, .int .i64 0, .int .i64 4, .string (⟨#[97]⟩:ByteArray), .string (⟨#[]⟩:ByteArray), .int .i64 0, .int .i64 0, .int .i64 0]) (ok:=fun _=>True) (okp:=fun _=>True) ?hr ?hp (fun _ hk=>hk) trivial (Below.refl _ _) (Nat.le_refl _) (by simp) ?_;(case hd=>rfl);(case hg=>rfl);(case hr=>first|(go_simp;done)|(go_simp;rfl));(case hp=>exact (Reps.c6 (show Kd.M k58 _ _ _ (⟨4,(⟨#[97]⟩:ByteArray),(⟨#[]⟩:ByteArray),(⟨0,0,0⟩:S27)⟩:S58) [.int .i64 4, .string (⟨#[97]⟩:ByteArray), .string (⟨#[]⟩:ByteArray), .int .i64 0, .int .i64 0, .int .i64 0] from (k58_mkM _ _ _ (⟨4,(⟨#[97]⟩:ByteArray),(⟨#[]⟩:ByteArray),(⟨0,0,0⟩:S27)⟩:S58))) (Reps.c6 (show Kd.M k58 _ _ _ (⟨4,(⟨#[97]⟩:ByteArray),(⟨#[]⟩:ByteArray),(⟨0,0,0⟩:S27)⟩:S58) [.int .i64 4, .string (⟨#[97]⟩:ByteArray), .string (⟨#[]⟩:ByteArray), .int .i64 0, .int .i64 0, .int .i64 0] from (k58_mkM _ _ _ (⟨4,(⟨#[97]⟩:ByteArray),(⟨#[]⟩:ByteArray),(⟨0,0,0⟩:S27)⟩:S58))) (Reps.none _ _))));intro v11 w47 ho48 hb hg_ hnew_;clear hg_ hnew_;(first|rw [←Ny10.out] at ho48|(simp only [Int.reduceToNat] at ho48;rw [←Ny10.out] at ho48));replace HO3:=am_ (Kd.R_below (by refine zt_ ?_;exact (Kd.R_mono (Kd.R_far (p:=⟨gb9,2,none⟩) (Kd.R_far (p:=⟨gb9,1,none⟩) (Kd.R_far (p:=⟨gb9,0,none⟩) (Kd.R_types HO3.out BK9.out (by decide)) (fun _ hk=>hk.2) (.slice Ao45 t4.length co45)) (fun _ hk=>hk.2) (.int .i64 t7)) (fun _ hk=>hk.2) (.int .i64 t8)) (fun _ h_=>h_.1))) hb);replace HO6:=am_ (Kd.R_below (by refine zt_ ?_;exact (Kd.R_mono (Kd.R_far (p:=⟨gb9,2,none⟩) (Kd.R_far (p:=⟨gb9,1,none⟩) (Kd.R_far (p:=⟨gb9,0,none⟩) (Kd.R_types HO6.out BK9.out (by decide)) (fun _ hk=>hk.2) (.slice Ao45 t4.length co45)) (fun _ hk=>hk.2) (.int .i64 t7)) (fun _ hk=>hk.2) (.int .i64 t8)) (fun _ h_=>h_.1))) hb);have HO12:=am_ (Kd.R_lower ho48 (below_size (zl1_ HB GE9)));replace BK9:=am_ (blk_below (g:=gb9) (o:= .cells #[.slice Ao45 t4.length co45, .int .i64 t7, .int .i64 t8] 113 (0,0)) (zw_ BK9) hb);replace HB:=am_ (below_step (zl1_ HB GE9) hb);clear hb ho48;obtain ⟨Ao49,co49,eo49⟩:=Kd.R_slice HO12.out;subst eo49)|((with_reducible refine gate_callee (f:=99) rfl ?_);refine gl_ (some 12) Try.func99 #[.slice Ao42 y1.length co42, .slice Ao49 y10.length co49] ?_;(with_reducible refine (trial_Steps.calls k _ _ y1 _ _ y10 t13 t16 t17 _ ?side1 ?side2 ?side3 ?side4 A2.out).mono ?_);(case side1=>exact zc_ (Kd.R_reads' HO3.out).2.2);(case side2=>exact (Kd.R_reads' HO3.out).2.1);(case side3=>exact zc_ (Kd.R_reads' HO12.out).2.2);(case side4=>exact (Kd.R_reads' HO12.out).2.1);rintro e w50 ⟨v14,rfl,ho0,hb⟩;refine ⟨_,rfl, ?_⟩;replace HO12:=am_ (Kd.R_below (zr_ HO12) hb);have HO15:=am_ (Kd.R_lower (Kd.R_new' (Kd.R_new' ho0 (Kd.R_lt (zr_ HO3))) (Kd.R_lt (zr_ HO6))) (below_size (zl1_ HB GE9)));replace HO3:=am_ (Kd.R_elder' (zr_ HO3) (Kd.R_base ho0) hb);replace HO6:=am_ (Kd.R_elder' (zr_ HO6) (Kd.R_base ho0) hb);replace BK9:=am_ (blk_below (zb_ BK9) hb);replace HB:=am_ (below_step (zl1_ HB GE9) hb);(try clear hb);(try clear hb2);(try clear hk);(try clear hi);(try clear ho0))|((with_reducible refine gate_dst (N:=3) rfl ?_);(try (refine gate_guard (by rfl) ?_;dsimp only));refine bx_ (N:=3) (cs:=#[.slice none 0 0, .int .i64 0, .int .i64 0]) (t:=113) ?_;intro gb18 hg w51 hbox hb;have n0_:=am_ (Kd.R_below (zr_ HO3) hb);have n1_:=am_ (Kd.R_below (zr_ HO6) hb);have n2_:=am_ (Kd.R_below (zr_ HO12) hb);have n3_:=am_ (Kd.R_below (zr_ HO15) hb);have n4_:=am_ (blk_below (zb_ BK9) hb);have n5_:=am_ (below_step (zl1_ HB GE9) hb);have n6_:=am_ (hbox);have n8_:=am_ ((zg1_ HB GE9 hg:w.heap.size≤gb18));have n9_:=am_ ((zn_ BK9 hg:gb9≠gb18));have n10_:=am_ ((zm_ BK9 hg:gb18≠gb9));clear HO3;clear HO6;clear HO12;clear HO15;clear BK9;clear HB;have HO3:=n0_;have HO6:=n1_;have HO12:=n2_;have HO15:=n3_;have BK9:=n4_;have HB:=n5_;have BK18:=n6_;have GE18:=n8_;have NB9_18:=n9_;clear n0_ n1_ n2_ n3_ n4_ n5_ n6_ n8_ n9_ n10_;clear hb hbox hg;obtain ⟨Ao52,co52,eo52⟩:=Kd.R_slice HO15.out;subst eo52;have hnc53:=NB9_18.out;obtain ⟨hcz54_0,hcz54_1,hcz54_2,hfz54_0,hfz54_1,hfz54_2⟩:=y3_ BK18;obtain ⟨hcz55_0,hcz55_1⟩:=x2_ BK9))
  go_ret
  exact ⟨by first|rfl|(simp [errW_none,errW_some]<;>rfl)|(simp [*,errW_none,errW_some]<;>rfl),zl2_ HB GE9 GE18⟩
 rw [if_pos c5] at H
 have c5b0:((t13.length:Int)==0)=true:=beq_iff_eq.mpr c5
 clear c5
 by_cases c6:t16=1
 rotate_left
 ·rw [if_neg c6] at H
  have c6b0:(t16==1)=false:=beq_eq_false_iff_ne.mpr c6
  obtain rfl:=Option.some.inj H
  go_enter Try.func94,Try.ntmps94
  go_wp2_with (first|((with_reducible refine gate_dst (N:=5) rfl ?_);(try (refine gate_guard (by rfl) ?_;dsimp only));refine Kd.R_lit k31 _ 31 ?hg (N:=5) ?hd (xs:=([(⟨(⟨#[97]⟩:ByteArray),(⟨#[]⟩:ByteArray),(⟨0,0,0⟩:S27),(⟨0,0,0⟩:S27),(⟨0,0,0⟩:S27),1⟩:S31)]:List (S31))) (inner:=[.string (⟨#[97]⟩:ByteArray), .string (⟨#[]⟩:ByteArray), .int .i64 0, .int .i64 0, .int .i64 0, .int .i64 0, .int .i64 0, .int .i64 0, .int .i64 0, .int .i64 0, .int .i64 0, .int .i64 1]) (ok:=fun _=>True) (okp:=fun _=>True) ?hr ?hp (fun _ hk=>hk) trivial (Below.refl _ _) (Nat.le_refl _) (by simp) ?_;(case hd=>rfl);(case hg=>rfl);(case hr=>first|(go_simp;done)|(go_simp;rfl));(case hp=>exact (Reps.front (show Kd.M k31 _ _ _ (⟨(⟨#[97]⟩:ByteArray),(⟨#[]⟩:ByteArray),(⟨0,0,0⟩:S27),(⟨0,0,0⟩:S27),(⟨0,0,0⟩:S27),1⟩:S31) [.string (⟨#[97]⟩:ByteArray), .string (⟨#[]⟩:ByteArray), .int .i64 0, .int .i64 0, .int .i64 0, .int .i64 0, .int .i64 0, .int .i64 0, .int .i64 0, .int .i64 0, .int .i64 0, .int .i64 1] from (k31_mkM _ _ _ (⟨(⟨#[97]⟩:ByteArray),(⟨#[]⟩:ByteArray),(⟨0,0,0⟩:S27),(⟨0,0,0⟩:S27),(⟨0,0,0⟩:S27),1⟩:S31))) rfl (Reps.none _ _) rfl));intro v2 w24 ho25 hb hg_ hnew_;clear hg_ hnew_;(first|rw [←Ny1.out] at ho25|(simp only [Int.reduceToNat] at ho25;rw [←Ny1.out] at ho25));have HO3:=am_ (Kd.R_lower ho25 (below_size (zl0_ HB)));replace HB:=am_ (below_step (zl0_ HB) hb);clear hb ho25;obtain ⟨Ao26,co26,eo26⟩:=Kd.R_slice HO3.out;subst eo26)|((with_reducible refine gate_callee (f:=99) rfl ?_);refine gl_ (some 7) Try.func99 #[.slice Ao26 y1.length co26, .slice none 0 0] ?_;(refine (trial_Steps.calls k _ _ y1 _ _ ([]:List (S58)) t4 t7 t8 _ ?side1 ?side2 ?side3 ?side4 A1.out).mono ?_);(case side1=>exact zc_ (Kd.R_reads' HO3.out).2.2);(case side2=>exact (Kd.R_reads' HO3.out).2.1);(case side3=>exact Kd.C_nil _ _);(case side4=>exact Nat.le_refl _);rintro e w27 ⟨v5,rfl,ho0,hb⟩;refine ⟨_,rfl, ?_⟩;have HO6:=am_ (Kd.R_lower (Kd.R_new' ho0 (Kd.R_lt (zr_ HO3))) (below_size (zl0_ HB)));replace HO3:=am_ (Kd.R_elder' (zr_ HO3) (Kd.R_base ho0) hb);replace HB:=am_ (below_step (zl0_ HB) hb);(try clear hb);(try clear hb2);(try clear hk);(try clear hi);(try clear ho0))|((with_reducible refine gate_dst (N:=2) rfl ?_);(try (refine gate_guard (by rfl) ?_;dsimp only));refine bx_ (N:=2) (cs:=#[.slice none 0 0, .int .i64 0, .int .i64 0]) (t:=113) ?_;intro gb9 hg w28 hbox hb;have n0_:=am_ (Kd.R_below (zr_ HO3) hb);have n1_:=am_ (Kd.R_below (zr_ HO6) hb);have n2_:=am_ (below_step (zl0_ HB) hb);have n3_:=am_ (hbox);have n4_:=am_ ((zg0_ HB hg:w.heap.size≤gb9));have n5_:=am_ ((zg0_ HB hg:w.heap.size≤gb9));clear HO3;clear HO6;clear HB;have HO3:=n0_;have HO6:=n1_;have HB:=n2_;have BK9:=n3_;have GE9:=n5_;clear n0_ n1_ n2_ n3_ n4_ n5_;clear hb hbox hg;obtain ⟨Ao29,co29,eo29⟩:=Kd.R_slice HO6.out;subst eo29;obtain ⟨hcz30_0,hcz30_1,hcz30_2⟩:=x3_ BK9;have hfz30_0:=blk_frozen BK9.out 0;have hfz30_1:=blk_frozen BK9.out 1;have hfz30_2:=blk_frozen BK9.out 2)|((with_reducible refine gate_dst (N:=11) rfl ?_);(try (refine gate_guard (by rfl) ?_;dsimp only));refine Kd.R_lit k58 _ 58 ?hg (N:=11) ?hd (xs:=([(⟨4,(⟨#[97]⟩:ByteArray),(⟨#[]⟩:ByteArray),(⟨0,0,0⟩:S27)⟩:S58),(⟨4,(⟨#[97]⟩:ByteArray),(⟨#[]⟩:ByteArray),(⟨0,0,0⟩:S27)⟩:S58)]:List (S58))) (inner:=[.int .i64 4, .string (⟨#[97]⟩:ByteArray), .string (⟨#[]⟩:ByteArray), .int .i64 0, .int .i64 0, .int .i64 0, .int .i64 4, .string (⟨#[97]⟩:ByteArray), .string (⟨#[]⟩:ByteArray), .int .i64 0, .int .i64 0, .int .i64 0]) (ok:=fun _=>True) (okp:=fun _=>True) ?hr ?hp (fun _ hk=>hk) trivial (Below.refl _ _) (Nat.le_refl _) (by simp) ?_;(case hd=>rfl);(case hg=>rfl);(case hr=>first|(go_simp;done)|(go_simp;rfl));(case hp=>exact (Reps.c6 (show Kd.M k58 _ _ _ (⟨4,(⟨#[97]⟩:ByteArray),(⟨#[]⟩:ByteArray),(⟨0,0,0⟩:S27)⟩:S58) [.int .i64 4, .string (⟨#[97]⟩:ByteArray), .string (⟨#[]⟩:ByteArray), .int .i64 0, .int .i64 0, .int .i64 0] from (k58_mkM _ _ _ (⟨4,(⟨#[97]⟩:ByteArray),(⟨#[]⟩:ByteArray),(⟨0,0,0⟩:S27)⟩:S58))) (Reps.c6 (show Kd.M k58 _ _ _ (⟨4,(⟨#[97]⟩:ByteArray),(⟨#[]⟩:ByteArray),(⟨0,0,0⟩:S27)⟩:S58) [.int .i64 4, .string (⟨#[97]⟩:ByteArray), .string (⟨#[]⟩:ByteArray), .int .i64 0, .int .i64 0, .int .i64 0] from (k58_mkM _ _ _ (⟨4,(⟨#[97]⟩:ByteArray),(⟨#[]⟩:ByteArray),(⟨0,0,0⟩:S27)⟩:S58))) (Reps.none _ _))));intro v11 w31 ho32 hb hg_ hnew_;clear hg_ hnew_;(first|rw [←Ny10.out] at ho32|(simp only [Int.reduceToNat] at ho32;rw [←Ny10.out] at ho32));replace HO3:=am_ (Kd.R_below (by refine zt_ ?_;exact (Kd.R_mono (Kd.R_far (p:=⟨gb9,2,none⟩) (Kd.R_far (p:=⟨gb9,1,none⟩) (Kd.R_far (p:=⟨gb9,0,none⟩) (Kd.R_types HO3.out BK9.out (by decide)) (fun _ hk=>hk.2) (.slice Ao29 t4.length co29)) (fun _ hk=>hk.2) (.int .i64 t7)) (fun _ hk=>hk.2) (.int .i64 t8)) (fun _ h_=>h_.1))) hb);replace HO6:=am_ (Kd.R_below (by refine zt_ ?_;exact (Kd.R_mono (Kd.R_far (p:=⟨gb9,2,none⟩) (Kd.R_far (p:=⟨gb9,1,none⟩) (Kd.R_far (p:=⟨gb9,0,none⟩) (Kd.R_types HO6.out BK9.out (by decide)) (fun _ hk=>hk.2) (.slice Ao29 t4.length co29)) (fun _ hk=>hk.2) (.int .i64 t7)) (fun _ hk=>hk.2) (.int .i64 t8)) (fun _ h_=>h_.1))) hb);have HO12:=am_ (Kd.R_lower ho32 (below_size (zl1_ HB GE9)));replace BK9:=am_ (blk_below (g:=gb9) (o:= .cells #[.slice Ao29 t4.length co29, .int .i64 t7, .int .i64 t8] 113 (0,0)) (zw_ BK9) hb);replace HB:=am_ (below_step (zl1_ HB GE9) hb);clear hb ho32;obtain ⟨Ao33,co33,eo33⟩:=Kd.R_slice HO12.out;subst eo33)|((with_reducible refine gate_callee (f:=99) rfl ?_);refine gl_ (some 12) Try.func99 #[.slice Ao26 y1.length co26, .slice Ao33 y10.length co33] ?_;(with_reducible refine (trial_Steps.calls k _ _ y1 _ _ y10 t13 t16 t17 _ ?side1 ?side2 ?side3 ?side4 A2.out).mono ?_);(case side1=>exact zc_ (Kd.R_reads' HO3.out).2.2);(case side2=>exact (Kd.R_reads' HO3.out).2.1);(case side3=>exact zc_ (Kd.R_reads' HO12.out).2.2);(case side4=>exact (Kd.R_reads' HO12.out).2.1);rintro e w34 ⟨v14,rfl,ho0,hb⟩;refine ⟨_,rfl, ?_⟩;replace HO12:=am_ (Kd.R_below (zr_ HO12) hb);have HO15:=am_ (Kd.R_lower (Kd.R_new' (Kd.R_new' ho0 (Kd.R_lt (zr_ HO3))) (Kd.R_lt (zr_ HO6))) (below_size (zl1_ HB GE9)));replace HO3:=am_ (Kd.R_elder' (zr_ HO3) (Kd.R_base ho0) hb);replace HO6:=am_ (Kd.R_elder' (zr_ HO6) (Kd.R_base ho0) hb);replace BK9:=am_ (blk_below (zb_ BK9) hb);replace HB:=am_ (below_step (zl1_ HB GE9) hb);(try clear hb);(try clear hb2);(try clear hk);(try clear hi);(try clear ho0))|((with_reducible refine gate_dst (N:=3) rfl ?_);(try (refine gate_guard (by rfl) ?_;dsimp only));refine bx_ (N:=3) (cs:=#[.slice none 0 0, .int .i64 0, .int .i64 0]) (t:=113) ?_;intro gb18 hg w35 hbox hb;have n0_:=am_ (Kd.R_below (zr_ HO3) hb);have n1_:=am_ (Kd.R_below (zr_ HO6) hb);have n2_:=am_ (Kd.R_below (zr_ HO12) hb);have n3_:=am_ (Kd.R_below (zr_ HO15) hb);have n4_:=am_ (blk_below (zb_ BK9) hb);have n5_:=am_ (below_step (zl1_ HB GE9) hb);have n6_:=am_ (hbox);have n8_:=am_ ((zg1_ HB GE9 hg:w.heap.size≤gb18));have n9_:=am_ ((zn_ BK9 hg:gb9≠gb18));have n10_:=am_ ((zm_ BK9 hg:gb18≠gb9));clear HO3;clear HO6;clear HO12;clear HO15;clear BK9;clear HB;have HO3:=n0_;have HO6:=n1_;have HO12:=n2_;have HO15:=n3_;have BK9:=n4_;have HB:=n5_;have BK18:=n6_;have GE18:=n8_;have NB9_18:=n9_;clear n0_ n1_ n2_ n3_ n4_ n5_ n6_ n8_ n9_ n10_;clear hb hbox hg;obtain ⟨Ao36,co36,eo36⟩:=Kd.R_slice HO15.out;subst eo36;have hnc37:=NB9_18.out;obtain ⟨hcz38_0,hcz38_1,hcz38_2,hfz38_0,hfz38_1,hfz38_2⟩:=y3_ BK18;obtain ⟨hcz39_0,hcz39_1⟩:=x2_ BK9))
  go_ret
  exact ⟨by first|rfl|(simp [errW_none,errW_some]<;>rfl)|(simp [*,errW_none,errW_some]<;>rfl),zl2_ HB GE9 GE18⟩
 rw [if_pos c6] at H
 have c6b0:(t16==1)=true:=beq_iff_eq.mpr c6
 clear c6
 replace H:=Option.bind_eq_some_iff.mp H
 obtain ⟨t19,A70,H⟩:=H
 try dsimp only at H
 have A7:=Aside0.mk A70
 clear A70
 obtain rfl:=Option.some.inj H
 go_enter Try.func94,Try.ntmps94
 go_wp2_with (first|((with_reducible refine gate_dst (N:=5) rfl ?_);(try (refine gate_guard (by rfl) ?_;dsimp only));refine Kd.R_lit k31 _ 31 ?hg (N:=5) ?hd (xs:=([(⟨(⟨#[97]⟩:ByteArray),(⟨#[]⟩:ByteArray),(⟨0,0,0⟩:S27),(⟨0,0,0⟩:S27),(⟨0,0,0⟩:S27),1⟩:S31)]:List (S31))) (inner:=[.string (⟨#[97]⟩:ByteArray), .string (⟨#[]⟩:ByteArray), .int .i64 0, .int .i64 0, .int .i64 0, .int .i64 0, .int .i64 0, .int .i64 0, .int .i64 0, .int .i64 0, .int .i64 0, .int .i64 1]) (ok:=fun _=>True) (okp:=fun _=>True) ?hr ?hp (fun _ hk=>hk) trivial (Below.refl _ _) (Nat.le_refl _) (by simp) ?_;(case hd=>rfl);(case hg=>rfl);(case hr=>first|(go_simp;done)|(go_simp;rfl));(case hp=>exact (Reps.front (show Kd.M k31 _ _ _ (⟨(⟨#[97]⟩:ByteArray),(⟨#[]⟩:ByteArray),(⟨0,0,0⟩:S27),(⟨0,0,0⟩:S27),(⟨0,0,0⟩:S27),1⟩:S31) [.string (⟨#[97]⟩:ByteArray), .string (⟨#[]⟩:ByteArray), .int .i64 0, .int .i64 0, .int .i64 0, .int .i64 0, .int .i64 0, .int .i64 0, .int .i64 0, .int .i64 0, .int .i64 0, .int .i64 1] from (k31_mkM _ _ _ (⟨(⟨#[97]⟩:ByteArray),(⟨#[]⟩:ByteArray),(⟨0,0,0⟩:S27),(⟨0,0,0⟩:S27),(⟨0,0,0⟩:S27),1⟩:S31))) rfl (Reps.none _ _) rfl));intro v2 w8 ho9 hb hg_ hnew_;clear hg_ hnew_;(first|rw [←Ny1.out] at ho9|(simp only [Int.reduceToNat] at ho9;rw [←Ny1.out] at ho9));have HO3:=am_ (Kd.R_lower ho9 (below_size (zl0_ HB)));replace HB:=am_ (below_step (zl0_ HB) hb);clear hb ho9;obtain ⟨Ao10,co10,eo10⟩:=Kd.R_slice HO3.out;subst eo10)|((with_reducible refine gate_callee (f:=99) rfl ?_);refine gl_ (some 7) Try.func99 #[.slice Ao10 y1.length co10, .slice none 0 0] ?_;(refine (trial_Steps.calls k _ _ y1 _ _ ([]:List (S58)) t4 t7 t8 _ ?side1 ?side2 ?side3 ?side4 A1.out).mono ?_);(case side1=>exact zc_ (Kd.R_reads' HO3.out).2.2);(case side2=>exact (Kd.R_reads' HO3.out).2.1);(case side3=>exact Kd.C_nil _ _);(case side4=>exact Nat.le_refl _);rintro e w11 ⟨v5,rfl,ho0,hb⟩;refine ⟨_,rfl, ?_⟩;have HO6:=am_ (Kd.R_lower (Kd.R_new' ho0 (Kd.R_lt (zr_ HO3))) (below_size (zl0_ HB)));replace HO3:=am_ (Kd.R_elder' (zr_ HO3) (Kd.R_base ho0) hb);replace HB:=am_ (below_step (zl0_ HB) hb);(try clear hb);(try clear hb2);(try clear hk);(try clear hi);(try clear ho0))|((with_reducible refine gate_dst (N:=2) rfl ?_);(try (refine gate_guard (by rfl) ?_;dsimp only));refine bx_ (N:=2) (cs:=#[.slice none 0 0, .int .i64 0, .int .i64 0]) (t:=113) ?_;intro gb9 hg w12 hbox hb;have n0_:=am_ (Kd.R_below (zr_ HO3) hb);have n1_:=am_ (Kd.R_below (zr_ HO6) hb);have n2_:=am_ (below_step (zl0_ HB) hb);have n3_:=am_ (hbox);have n4_:=am_ ((zg0_ HB hg:w.heap.size≤gb9));have n5_:=am_ ((zg0_ HB hg:w.heap.size≤gb9));clear HO3;clear HO6;clear HB;have HO3:=n0_;have HO6:=n1_;have HB:=n2_;have BK9:=n3_;have GE9:=n5_;clear n0_ n1_ n2_ n3_ n4_ n5_;clear hb hbox hg;obtain ⟨Ao13,co13,eo13⟩:=Kd.R_slice HO6.out;subst eo13;obtain ⟨hcz14_0,hcz14_1,hcz14_2⟩:=x3_ BK9;have hfz14_0:=blk_frozen BK9.out 0;have hfz14_1:=blk_frozen BK9.out 1;have hfz14_2:=blk_frozen BK9.out 2)|((with_reducible refine gate_dst (N:=11) rfl ?_);(try (refine gate_guard (by rfl) ?_;dsimp only));refine Kd.R_lit k58 _ 58 ?hg (N:=11) ?hd (xs:=([(⟨4,(⟨#[97]⟩:ByteArray),(⟨#[]⟩:ByteArray),(⟨0,0,0⟩:S27)⟩:S58),(⟨4,(⟨#[97]⟩:ByteArray),(⟨#[]⟩:ByteArray),(⟨0,0,0⟩:S27)⟩:S58)]:List (S58))) (inner:=[.int .i64 4, .string (⟨#[97]⟩:ByteArray), .string (⟨#[]⟩:ByteArray), .int .i64 0, .int .i64 0, .int .i64 0, .int .i64 4, .string (⟨#[97]⟩:ByteArray), .string (⟨#[]⟩:ByteArray), .int .i64 0, .int .i64 0, .int .i64 0]) (ok:=fun _=>True) (okp:=fun _=>True) ?hr ?hp (fun _ hk=>hk) trivial (Below.refl _ _) (Nat.le_refl _) (by simp) ?_;(case hd=>rfl);(case hg=>rfl);(case hr=>first|(go_simp;done)|(go_simp;rfl));(case hp=>exact (Reps.c6 (show Kd.M k58 _ _ _ (⟨4,(⟨#[97]⟩:ByteArray),(⟨#[]⟩:ByteArray),(⟨0,0,0⟩:S27)⟩:S58) [.int .i64 4, .string (⟨#[97]⟩:ByteArray), .string (⟨#[]⟩:ByteArray), .int .i64 0, .int .i64 0, .int .i64 0] from (k58_mkM _ _ _ (⟨4,(⟨#[97]⟩:ByteArray),(⟨#[]⟩:ByteArray),(⟨0,0,0⟩:S27)⟩:S58))) (Reps.c6 (show Kd.M k58 _ _ _ (⟨4,(⟨#[97]⟩:ByteArray),(⟨#[]⟩:ByteArray),(⟨0,0,0⟩:S27)⟩:S58) [.int .i64 4, .string (⟨#[97]⟩:ByteArray), .string (⟨#[]⟩:ByteArray), .int .i64 0, .int .i64 0, .int .i64 0] from (k58_mkM _ _ _ (⟨4,(⟨#[97]⟩:ByteArray),(⟨#[]⟩:ByteArray),(⟨0,0,0⟩:S27)⟩:S58))) (Reps.none _ _))));intro v11 w15 ho16 hb hg_ hnew_;clear hg_ hnew_;(first|rw [←Ny10.out] at ho16|(simp only [Int.reduceToNat] at ho16;rw [←Ny10.out] at ho16));replace HO3:=am_ (Kd.R_below (by refine zt_ ?_;exact (Kd.R_mono (Kd.R_far (p:=⟨gb9,2,none⟩) (Kd.R_far (p:=⟨gb9,1,none⟩) (Kd.R_far (p:=⟨gb9,0,none⟩) (Kd.R_types HO3.out BK9.out (by decide)) (fun _ hk=>hk.2) (.slice Ao13 t4.length co13)) (fun _ hk=>hk.2) (.int .i64 t7)) (fun _ hk=>hk.2) (.int .i64 t8)) (fun _ h_=>h_.1))) hb);replace HO6:=am_ (Kd.R_below (by refine zt_ ?_;exact (Kd.R_mono (Kd.R_far (p:=⟨gb9,2,none⟩) (Kd.R_far (p:=⟨gb9,1,none⟩) (Kd.R_far (p:=⟨gb9,0,none⟩) (Kd.R_types HO6.out BK9.out (by decide)) (fun _ hk=>hk.2) (.slice Ao13 t4.length co13)) (fun _ hk=>hk.2) (.int .i64 t7)) (fun _ hk=>hk.2) (.int .i64 t8)) (fun _ h_=>h_.1))) hb);have HO12:=am_ (Kd.R_lower ho16 (below_size (zl1_ HB GE9)));replace BK9:=am_ (blk_below (g:=gb9) (o:= .cells #[.slice Ao13 t4.length co13, .int .i64 t7, .int .i64 t8] 113 (0,0)) (zw_ BK9) hb);replace HB:=am_ (below_step (zl1_ HB GE9) hb);clear hb ho16;obtain ⟨Ao17,co17,eo17⟩:=Kd.R_slice HO12.out;subst eo17)|((with_reducible refine gate_callee (f:=99) rfl ?_);refine gl_ (some 12) Try.func99 #[.slice Ao10 y1.length co10, .slice Ao17 y10.length co17] ?_;(with_reducible refine (trial_Steps.calls k _ _ y1 _ _ y10 t13 t16 t17 _ ?side1 ?side2 ?side3 ?side4 A2.out).mono ?_);(case side1=>exact zc_ (Kd.R_reads' HO3.out).2.2);(case side2=>exact (Kd.R_reads' HO3.out).2.1);(case side3=>exact zc_ (Kd.R_reads' HO12.out).2.2);(case side4=>exact (Kd.R_reads' HO12.out).2.1);rintro e w18 ⟨v14,rfl,ho0,hb⟩;refine ⟨_,rfl, ?_⟩;replace HO12:=am_ (Kd.R_below (zr_ HO12) hb);have HO15:=am_ (Kd.R_lower (Kd.R_new' (Kd.R_new' ho0 (Kd.R_lt (zr_ HO3))) (Kd.R_lt (zr_ HO6))) (below_size (zl1_ HB GE9)));replace HO3:=am_ (Kd.R_elder' (zr_ HO3) (Kd.R_base ho0) hb);replace HO6:=am_ (Kd.R_elder' (zr_ HO6) (Kd.R_base ho0) hb);replace BK9:=am_ (blk_below (zb_ BK9) hb);replace HB:=am_ (below_step (zl1_ HB GE9) hb);(try clear hb);(try clear hb2);(try clear hk);(try clear hi);(try clear ho0))|((with_reducible refine gate_dst (N:=3) rfl ?_);(try (refine gate_guard (by rfl) ?_;dsimp only));refine bx_ (N:=3) (cs:=#[.slice none 0 0, .int .i64 0, .int .i64 0]) (t:=113) ?_;intro gb18 hg w19 hbox hb;have n0_:=am_ (Kd.R_below (zr_ HO3) hb);have n1_:=am_ (Kd.R_below (zr_ HO6) hb);have n2_:=am_ (Kd.R_below (zr_ HO12) hb);have n3_:=am_ (Kd.R_below (zr_ HO15) hb);have n4_:=am_ (blk_below (zb_ BK9) hb);have n5_:=am_ (below_step (zl1_ HB GE9) hb);have n6_:=am_ (hbox);have n8_:=am_ ((zg1_ HB GE9 hg:w.heap.size≤gb18));have n9_:=am_ ((zn_ BK9 hg:gb9≠gb18));have n10_:=am_ ((zm_ BK9 hg:gb18≠gb9));clear HO3;clear HO6;clear HO12;clear HO15;clear BK9;clear HB;have HO3:=n0_;have HO6:=n1_;have HO12:=n2_;have HO15:=n3_;have BK9:=n4_;have HB:=n5_;have BK18:=n6_;have GE18:=n8_;have NB9_18:=n9_;clear n0_ n1_ n2_ n3_ n4_ n5_ n6_ n8_ n9_ n10_;clear hb hbox hg;obtain ⟨Ao20,co20,eo20⟩:=Kd.R_slice HO15.out;subst eo20;have hnc21:=NB9_18.out;obtain ⟨hcz22_0,hcz22_1,hcz22_2,hfz22_0,hfz22_1,hfz22_2⟩:=y3_ BK18;obtain ⟨hcz23_0,hcz23_1⟩:=x2_ BK9)|(go_at_call 61;(with_reducible refine (law1_Num.calls t17 t19 _ A7.out).mono ?_);rintro e w' ⟨rfl,⟨nd,rfl⟩⟩))
 go_ret
 exact ⟨by first|rfl|(simp [errW_none,errW_some]<;>rfl)|(simp [*,errW_none,errW_some]<;>rfl),zl2_ HB GE9 GE18⟩
attribute [local go_sem high] eqA31
end Go.Proofs.Ytcgefpklljclgaa.Print

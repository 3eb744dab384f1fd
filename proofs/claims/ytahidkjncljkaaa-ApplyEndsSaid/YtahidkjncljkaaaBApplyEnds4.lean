/- ApplyEnds: a part -/
import Derived.Laws.Strings
import Derived.Test.YtahidkjncljkaaaBApplyEnds0
import Derived.Test.YtahidkjncljkaaaBApplyEnds1
import Derived.Test.YtahidkjncljkaaaBApplyEnds2
import Derived.Test.YtahidkjncljkaaaBApplyEnds3
set_option linter.unusedVariables false
set_option linter.unusedSimpArgs false
namespace Go.Proofs.Ytahidkjncljkaaa.Print
open Go.RowKit Go.Proofs.YtahidkjncljkaaaW.PrintWords Go.Proofs.YtahidkjncljkaaaW.PrintLast Go.Proofs.YtahidkjncljkaaaW.PrintMore
attribute [local go_sem] max2_int min2_int max_two min_two max_three min_three max_four min_four

def r10_Admit.l0:Nat→ByteArray→List ByteArray→List (S79)→Int→Int→Int→Int→Option ((List (S79))×Int)
 |0,_,_,_,_,_,_,_=>none
 |k+1,x1,x7,x8,x9,x2000,x2001,x2002=>if x9<(x7.length:Int) then (if 0≤x9 then ((r10_Find.f k x8 (rdOf ByteArray.empty x7 x9)).bind fun t25=>(if 0≤t25 then (if t25<(x8.length:Int) then ((r10_Add.f ((rd_T79 x8 t25).f4.f0) ((rd_T79 x8 t25).f4.f1) ((rd_T79 x8 t25).f4.f2) x2000 x2001 x2002).bind fun bt27=>((some (x8.set (t25:Int).toNat (⟨(rd_T79 x8 t25).f0,(rd_T79 x8 t25).f1,(⟨(rd_T79 x8 t25).f2.f0,(rd_T79 x8 t25).f2.f1,(rd_T79 x8 t25).f2.f2⟩:S37),(⟨(rd_T79 x8 t25).f3.f0,(rd_T79 x8 t25).f3.f1,(rd_T79 x8 t25).f3.f2⟩:S37),(⟨bt27.1,bt27.2.1,bt27.2.2⟩:S37),(rd_T79 x8 t25).f5⟩:S79):List (S79))).bind fun y30=>((r10_Le.f ((rd_T79 y30 t25).f4.f0) ((rd_T79 y30 t25).f4.f1) ((rd_T79 y30 t25).f4.f2) ((rd_T79 y30 t25).f2.f0) ((rd_T79 y30 t25).f2.f1) ((rd_T79 y30 t25).f2.f2)).bind fun t33=>(if t33=true then (r10_Admit.l0 k x1 x7 y30 (wrap64 (x9+1)) x2000 x2001 x2002) else ((r10_no.f 12).bind fun bt34=>(some (bt34.1,bt34.2))))))) else (none)) else (none))) else (none)) else ((r10_Find.f k x8 x1).bind fun t18=>(if 0≤t18 then (if t18<(x8.length:Int) then ((r10_Add.f ((rd_T79 x8 t18).f3.f0) ((rd_T79 x8 t18).f3.f1) ((rd_T79 x8 t18).f3.f2) x2000 x2001 x2002).bind fun bt20=>(some ((x8.set (t18:Int).toNat (⟨(rd_T79 x8 t18).f0,(rd_T79 x8 t18).f1,(⟨(rd_T79 x8 t18).f2.f0,(rd_T79 x8 t18).f2.f1,(rd_T79 x8 t18).f2.f2⟩:S37),(⟨bt20.1,bt20.2.1,bt20.2.2⟩:S37),(⟨(rd_T79 x8 t18).f4.f0,(rd_T79 x8 t18).f4.f1,(rd_T79 x8 t18).f4.f2⟩:S37),(rd_T79 x8 t18).f5⟩:S79)),0))) else (none)) else (none)))
def r10_Admit.f (k:Nat) (l0:List (S79)) (a1:ByteArray) (a2_0:Int) (a2_1:Int) (a2_2:Int):Option ((List (S79))×Int):=(r10_Up.f k l0 a1).bind fun t3=>((r10_MayVec.f a2_0 a2_1 a2_2).bind fun t6=>(if t6=true then (if (t3.length:Int)=0 then ((r10_no.f 2).bind fun bt11=>(some (bt11.1,bt11.2))) else ((r10_copied.f l0).bind fun t15=>(r10_Admit.l0 k a1 t3 t15 0 a2_0 a2_1 a2_2))) else ((r10_no.f 1).bind fun bt7=>(some (bt7.1,bt7.2)))))
theorem r10_Admit.mono_l: ∀k,(∀y0 y1 y2 y3 y4 y5 y6,LeO (r10_Admit.l0 k y0 y1 y2 y3 y4 y5 y6) (r10_Admit.l0 (k+1) y0 y1 y2 y3 y4 y5 y6))
 |0=>fun _ _ _ _ _ _ _ r h=>by simp [r10_Admit.l0] at h
 |k+1=>by
  have ih0:=r10_Admit.mono_l k;intro y0 y1 y2 y3 y4 y5 y6;unfold r10_Admit.l0
  repeat' with_reducible first|apply ih0|apply r10_Find.mono|apply r10_Up.mono|apply LeO.refl|apply LeO.none|apply LeO.ite|refine LeO.bind ?_ fun _=> ?_
theorem r10_Admit.mono: ∀a0 a1 a2 a3 a4 k,LeO (r10_Admit.f k a0 a1 a2 a3 a4) (r10_Admit.f (k+1) a0 a1 a2 a3 a4):=by
 intro a0 a1 a2 a3 a4 k;have ih0:=r10_Admit.mono_l k;unfold r10_Admit.f
 repeat' with_reducible first|apply ih0|apply r10_Find.mono|apply r10_Up.mono|apply LeO.refl|apply LeO.none|apply LeO.ite|refine LeO.bind ?_ fun _=> ?_
def r10_Admit.T11:Bool×List (List Nat×List Nat):=(true,[([],[]),([],[]),([],[]),([],[]),([2,3],[2,3]),([4],[4]),([5],[5]),([],[]),([6,7],[6,7]),([0,1,0,1,2,3,4,5,6,7,8],[0,1]),([9,0,1,2,3,4,5,6,7,8],[9]),([10,8,8,0,1,2,3,4,5,6,7,8],[8,10])])
def r10_Admit.B11:List Nat:=[0,0,0,0,12,28,60,0,252,511,1023,2047]
theorem r10_Admit.tab11:rtab .any (opsOf Try.f84 11)=r10_Admit.T11:=by kernel_rfl
theorem r10_Admit.bits11:waitsOk r10_Admit.T11.2 r10_Admit.B11=true:=by kernel_rfl
def r10_Admit.T12:Bool×List (List Nat×List Nat):=(true,[([],[]),([],[]),([0,1],[0,1]),([2],[2]),([3],[3]),([],[]),([],[]),([5,6],[5,6]),([7],[7]),([8],[8]),([4,9],[4,9]),([10],[10])])
def r10_Admit.B12:List Nat:=[0,0,3,7,15,0,0,96,224,480,1023,2047]
theorem r10_Admit.tab12:rtab .any (opsOf Try.f84 12)=r10_Admit.T12:=by kernel_rfl
theorem r10_Admit.bits12:waitsOk r10_Admit.T12.2 r10_Admit.B12=true:=by kernel_rfl
def r10_Admit.T15:Bool×List (List Nat×List Nat):=(true,[([],[]),([],[]),([],[]),([],[]),([2,3],[2,3]),([4],[4]),([5],[5]),([],[]),([6,7],[6,7]),([0,1,0,1,2,3,4,5,6,7,8],[0,1]),([9,0,1,2,3,4,5,6,7,8],[9]),([10,8,8,0,1,2,3,4,5,6,7,8],[8,10])])
def r10_Admit.B15:List Nat:=[0,0,0,0,12,28,60,0,252,511,1023,2047]
theorem r10_Admit.tab15:rtab .any (opsOf Try.f84 15)=r10_Admit.T15:=by kernel_rfl
theorem r10_Admit.bits15:waitsOk r10_Admit.T15.2 r10_Admit.B15=true:=by kernel_rfl
set_option maxHeartbeats 8000000 in
set_option maxRecDepth 100000 in
theorem r10_Admit.calls (k:Nat) (A0:Option Addr) (c0:Nat) (l0:List (S79)) (a1:ByteArray) (a2_0:Int) (a2_1:Int) (a2_2:Int) (r1:List (S79)) (r2:Int) (w:World) (hr0:Kd.C k79 w A0 l0.length l0) (hc0:l0.length≤c0) (h:r10_Admit.f k l0 a1 a2_0 a2_1 a2_2=some (r1,r2)):
  Calls Try.prog 84 #[.slice A0 l0.length c0, .string a1, .agg #[.int .i64 a2_0, .int .i64 a2_1, .int .i64 a2_2]] w fun e w'=> ∃v0_:Value,e= .returned (.agg #[v0_, .int .i64 r2])∧Kd.R k79 79 w' w.heap.size (fun _=>True) v0_ r1∧Below w.heap.size w w':=by
 have hu37:=Try.underlying37;have hu73:=Try.underlying73;have HR0:=Aside0.mk hr0;have HC0:=Aside0.mk hc0;clear hr0 hc0;have HB:=am_ (Below.refl w.heap.size w);have H:((r10_Up.f k l0 a1).bind fun t3=>((r10_MayVec.f a2_0 a2_1 a2_2).bind fun t6=>(if t6=true then (if (t3.length:Int)=0 then ((r10_no.f 2).bind fun bt11=>(some (bt11.1,bt11.2))) else ((r10_copied.f l0).bind fun t15=>(r10_Admit.l0 k a1 t3 t15 0 a2_0 a2_1 a2_2))) else ((r10_no.f 1).bind fun bt7=>(some (bt7.1,bt7.2))))))=some (r1,r2):=h;clear h;replace H:=zbd_ H;obtain ⟨t3,A4,H⟩:=H;try dsimp only at H
 replace H:=zbd_ H;obtain ⟨t6,A5,H⟩:=H;try dsimp only at H
 by_cases c6:t6=true;subst c6;rw [if_pos rfl] at H;by_cases c7:(t3.length:Int)=0;rw [if_pos c7] at H;have c7b0:=beq_iff_eq.mpr c7;have c7b1:=bne_eq_false_iff_eq.mpr c7;clear c7;replace H:=zbd_ H;obtain ⟨⟨t11,t14⟩,A8,H⟩:=H;try dsimp only at H
 simp only [Option.some.injEq,Prod.mk.injEq] at H;obtain ⟨rfl,rfl⟩:=H;rotate_left;rw [if_neg c7] at H;have c7b0:=beq_eq_false_iff_ne.mpr c7;have c7b1:=bne_iff_ne.mpr c7;have c7b2: ¬(t3=[]):=fun h_=>c7 (by rw [h_];rfl)
 replace H:=zbd_ H;obtain ⟨t15,A19,H⟩:=H;try dsimp only at H
 have H':=Aside0.mk H;clear H;rotate_left;replace c6:=Bool.eq_false_iff.mpr c6;subst c6;rw [if_neg (show¬(false=true) by decide)] at H;replace H:=zbd_ H;obtain ⟨⟨t7,t10⟩,A68,H⟩:=H;try dsimp only at H
 simp only [Option.some.injEq,Prod.mk.injEq] at H;obtain ⟨rfl,rfl⟩:=H;rotate_left
 all_goals (
 go_enter Try.func84,Try.ntmps84
 go_wp2_with (first|((with_reducible refine gate_dst (N:=5) rfl ?_);refine bx_ (N:=5) (cs:=#[.int .i64 a2_0, .int .i64 a2_1, .int .i64 a2_2]) (t:=37) ?_;intro gb1 hg w9 hbox hb;have BK1:=am_ (hbox);have GE1:=am_ ((zg0_ HB hg:w.heap.size≤gb1));replace HB:=am_ (below_step (zl0_ HB) hb);clear hb hbox hg)|((with_reducible refine gate_dst (N:=6) rfl ?_);refine bx_ (N:=6) (cs:=#[.slice none 0 0, .int .i64 0]) (t:=73) ?_;intro gb2 hg w10 hbox hb;have BK2:=am_ (hbox);have GE2:=am_ ((zg1_ HB GE1 hg:w.heap.size≤gb2));replace HB:=am_ (below_step (zl1_ HB GE1) hb);have NB1_2:=am_ ((zn_ BK1 hg:gb1≠gb2));have NB2_1:=am_ ((zm_ BK1 hg:gb2≠gb1));replace BK1:=bb_ BK1 hb;clear hb hbox hg)|((with_reducible refine gate_callee (f:=55) rfl ?_);refine gl_ (some 14) Try.func55 #[.slice A0 l0.length c0, .string a1] ?_;(with_reducible refine (r10_Up.calls k _ _ l0 a1 t3 _ ?side1 ?side2 A4.out).mono ?_);(case side1=>exact zc_ (Kd.C_below HR0.out HB.out));(case side2=>exact HC0.out);rintro e w11 ⟨v4,rfl,ho0,hb⟩;refine ⟨_,rfl, ?_⟩;have HO5:=am_ (Kd.R_lower ho0 (below_size (zl2_ HB GE1 GE2)));replace BK1:=bb_ BK1 hb;replace BK2:=bb_ BK2 hb;replace HB:=am_ (below_step (zl2_ HB GE1 GE2) hb);(try clear hb ho0);have:=NB1_2.out;have:=NB2_1.out;(try ((try obtain ⟨_,_,_⟩:=x3_ BK1);(try obtain ⟨_,_,_⟩:=x3_ BK1);(try have:=blk_frozen BK1.out 0);(try have:=blk_frozen BK1.out 0);(try have:=blk_frozen BK1.out 1);(try have:=blk_frozen BK1.out 1);(try have:=blk_frozen BK1.out 2);(try have:=blk_frozen BK1.out 2)));(try (obtain ⟨_,_,_⟩:=x3_ BK1;obtain ⟨_,_,_⟩:=ff3_ BK1)))|((with_reducible refine gate_callee (f:=68) rfl ?_);refine gl_ (some 16) Try.func68 #[.agg #[.int .i64 a2_0, .int .i64 a2_1, .int .i64 a2_2]] ?_;(with_reducible refine (r10_MayVec.calls a2_0 a2_1 a2_2 _ _ A5.out).mono ?_);rintro e w14 ⟨rfl,hb⟩;refine ⟨_,rfl, ?_⟩;replace HO5:=ob_ HO5 hb;replace BK1:=bb_ BK1 hb;replace BK2:=bb_ BK2 hb;replace HB:=am_ (below_step (zl2_ HB GE1 GE2) hb);(try clear hb);(try (obtain ⟨Ao15,co15,eo15⟩:=Kd.R_slice HO5.out;subst eo15)))|((with_reducible refine gate_callee (f:=101) rfl ?_);refine gl_ (some 22) Try.func101 #[.int .i64 2] ?_;(with_reducible refine (r10_no.calls 2 t11 t14 _ A8.out).mono ?_);rintro e w16 ⟨v12,rfl,ho0,hb⟩;refine ⟨_,rfl, ?_⟩;replace HO5:=ob_ HO5 hb;have HO13:=am_ (Kd.R_lower ho0 (below_size (zl2_ HB GE1 GE2)));replace BK1:=bb_ BK1 hb;replace BK2:=bb_ BK2 hb;replace HB:=am_ (below_step (zl2_ HB GE1 GE2) hb);(try clear hb ho0);obtain ⟨Ao17,co17,eo17⟩:=Kd.R_slice HO13.out;subst eo17;obtain ⟨_,_⟩:=x2_ BK2;obtain ⟨_,_⟩:=ff2_ BK2)|((with_reducible refine gate_callee (f:=119) rfl ?_);refine gl_ (some 24) Try.func119 #[.slice A0 l0.length c0] ?_;(with_reducible refine (r10_copied.calls _ _ l0 t15 _ ?side1 ?side2 A19.out).mono ?_);(case side1=>exact zc_ (Kd.C_below HR0.out HB.out));(case side2=>exact HC0.out);rintro e w27 ⟨v16,rfl,ho0,hb⟩;refine ⟨_,rfl, ?_⟩;replace HO5:=ob_ HO5 hb;have HO17:=am_ (Kd.R_lower ho0 (below_size (zl2_ HB GE1 GE2)));replace BK1:=bb_ BK1 hb;replace BK2:=bb_ BK2 hb;replace HB:=am_ (below_step (zl2_ HB GE1 GE2) hb);(try clear hb ho0))|((with_reducible refine gate_callee (f:=101) rfl ?_);refine gl_ (some 18) Try.func101 #[.int .i64 1] ?_;(with_reducible refine (r10_no.calls 1 t7 t10 _ A68.out).mono ?_);rintro e w75 ⟨v8,rfl,ho0,hb⟩;refine ⟨_,rfl, ?_⟩;replace HO5:=ob_ HO5 hb;have HO9:=am_ (Kd.R_lower ho0 (below_size (zl2_ HB GE1 GE2)));replace BK1:=bb_ BK1 hb;replace BK2:=bb_ BK2 hb;replace HB:=am_ (below_step (zl2_ HB GE1 GE2) hb);(try clear hb ho0);obtain ⟨Ao76,co76,eo76⟩:=Kd.R_slice HO9.out;subst eo76;obtain ⟨_,_⟩:=x2_ BK2;obtain ⟨_,_⟩:=ff2_ BK2)))
 ·refine bodyPost_ret (results_cell_row rfl _ _ gb2 73 #[.slice Ao17 t11.length co17, .int .i64 t14] (0,0) _ rfl (zw_ BK2) Try.underlying73 rfl (by kernel_rfl)) rfl ?_;exact ⟨_,er_,zy_ HO13 BK2,zl2_ HB GE1 GE2⟩
 ·go_loopg [9] k (fun kq v9 w'=> ∃(x8_1:List (S79)) (x9_1:Int) (x3001_1:Int),v9= .int .i64 x9_1∧Aside0 (r10_Admit.l0 kq a1 t3 x8_1 x9_1 a2_0 a2_1 a2_2=some (r1,r2))∧Aside0 (kq≤k)∧Aside0 (Kd.R Kd.string 9 w' w.heap.size (fun _=>True) (.slice Ao15 t3.length co15) t3)∧Aside0 (Kd.R k79 79 w' w.heap.size (fun _=>True) v16 x8_1)∧Aside0 (w'.heap[gb1]?=some (.cells #[.int .i64 a2_0, .int .i64 a2_1, .int .i64 a2_2] 37 (0,0)))∧Aside0 (w'.heap[gb2]?=some (.cells #[(.slice none 0 0), .int .i64 x3001_1] 73 (0,0)))∧Aside0 (Below w.heap.size w w'))
  case atStart=>exact ⟨(t15),(0),(0),rf_,H',⟨Nat.le_refl _⟩,am_ (zr_ HO5),am_ (zr_ HO17),am_ (zb_ BK1),am_ (zb_ BK2),⟨zl2_ HB GE1 GE2⟩⟩
  case round=>
   clear H';obtain ⟨x8_1,x9_1,x3001_1,rfl,HA,HK1,HO_7,HO_8,BK1,BK2,HB⟩:=hrel
   cases gk with
   |zero=>exact absurd HA.out (by simp [r10_Admit.l0])
   |succ k1=>
    have H:=HA.out;clear HA;simp only [r10_Admit.l0] at H;by_cases c28:x9_1<(t3.length:Int);rotate_left
    ·rw [if_neg c28] at H;have c28b0:=decide_eq_false c28;clear c28;replace H:=zbd_ H;obtain ⟨t18,A56,H⟩:=H;try dsimp only at H
     replace H:=zif_ H;obtain ⟨c57,H⟩:=H;replace c57:=decide_eq_true c57;replace H:=zif_ H;obtain ⟨c58,H⟩:=H;replace c58:=decide_eq_true c58;replace H:=zbd_ H;obtain ⟨⟨t20,t21,t22⟩,A59,H⟩:=H;try dsimp only at H
     obtain ⟨y23,hy23⟩: ∃y_:List (S79),y_=(x8_1.set (t18:Int).toNat (⟨(rd_T79 x8_1 t18).f0,(rd_T79 x8_1 t18).f1,(⟨(rd_T79 x8_1 t18).f2.f0,(rd_T79 x8_1 t18).f2.f1,(rd_T79 x8_1 t18).f2.f2⟩:S37),(⟨t20,t21,t22⟩:S37),(⟨(rd_T79 x8_1 t18).f4.f0,(rd_T79 x8_1 t18).f4.f1,(rd_T79 x8_1 t18).f4.f2⟩:S37),(rd_T79 x8_1 t18).f5⟩:S79)):=⟨_,rfl⟩;(first|replace H:=zsb_ hy23 H|rw [←hy23] at H);have Ny23:=Aside0.mk hy23;clear hy23;simp only [Option.some.injEq,Prod.mk.injEq] at H;obtain ⟨rfl,rfl⟩:=H;obtain ⟨Ao61,co61,eo61⟩:=Kd.R_slice HO_8.out;subst eo61;try go_wp2_with (first|((with_reducible refine gate_callee (f:=52) rfl ?_);refine gl_ (some 63) Try.func52 #[.slice Ao61 x8_1.length co61, .string a1] ?_;(with_reducible refine (r10_Find.calls k1 _ _ x8_1 a1 t18 _ ?side1 ?side2 A56.out).mono ?_);(case side1=>exact zc_ (Kd.R_reads' HO_8.out).2.2);(case side2=>exact (Kd.R_reads' HO_8.out).2.1);rintro e w' ⟨rfl,⟨nd,rfl⟩⟩;refine ⟨_,rfl, ?_⟩;(try (rw [drewN_self wr];generalize hq_:World.drewN wr _=wr;replace HO_7:=am_ (qr_ hq_ HO_7.out);replace HO_8:=am_ (qr_ hq_ HO_8.out);replace BK1:=am_ (qb_ hq_ BK1.out);replace BK2:=am_ (qb_ hq_ BK2.out);replace HB:=am_ (ql_ hq_ HB.out);clear hq_))))
     replace HO_7:=am_ (Kd.R_drew HO_7.out);replace HO_8:=am_ (Kd.R_drew HO_8.out);replace BK1:=am_ (blk_drew BK1.out);replace BK2:=am_ (blk_drew BK2.out);replace HB:=am_ (below_drew1 HB.out);obtain ⟨p19,q19,ad19,e19,hx19_0,hx19_1,hx19_2,hx19_3,hx19_4,hx19_5,hx19_6,hx19_7,hx19_8,hx19_9,hx19_10,hx19_11⟩:=zat_ (at_T79 (Kd.R_reads' HO_8.out).2.2 t18);cases e19
     refine start_ (n:=12) (S:=fun w'=>w'.cell? ⟨gb1,0,none⟩=some (.int .i64 a2_0)∧w'.cell? ⟨gb1,1,none⟩=some (.int .i64 a2_1)∧w'.cell? ⟨gb1,2,none⟩=some (.int .i64 a2_2)∧w'.cell? (ad19.add ((t18).toNat*12))=some (.string ((rd_T79 x8_1 t18).f0))∧w'.cell? ⟨(ad19.add ((t18).toNat*12)).block,(ad19.add ((t18).toNat*12)).off+1,none⟩=some (.string ((rd_T79 x8_1 t18).f1))∧w'.cell? ⟨(ad19.add ((t18).toNat*12)).block,(ad19.add ((t18).toNat*12)).off+2,none⟩=some (.int .i64 ((rd_T79 x8_1 t18).f2.f0))∧w'.cell? ⟨(ad19.add ((t18).toNat*12)).block,(ad19.add ((t18).toNat*12)).off+3,none⟩=some (.int .i64 ((rd_T79 x8_1 t18).f2.f1))∧w'.cell? ⟨(ad19.add ((t18).toNat*12)).block,(ad19.add ((t18).toNat*12)).off+4,none⟩=some (.int .i64 ((rd_T79 x8_1 t18).f2.f2))∧w'.cell? ⟨(ad19.add ((t18).toNat*12)).block,(ad19.add ((t18).toNat*12)).off+5,none⟩=some (.int .i64 ((rd_T79 x8_1 t18).f3.f0))∧w'.cell? ⟨(ad19.add ((t18).toNat*12)).block,(ad19.add ((t18).toNat*12)).off+6,none⟩=some (.int .i64 ((rd_T79 x8_1 t18).f3.f1))∧w'.cell? ⟨(ad19.add ((t18).toNat*12)).block,(ad19.add ((t18).toNat*12)).off+7,none⟩=some (.int .i64 ((rd_T79 x8_1 t18).f3.f2))∧w'.cell? ⟨(ad19.add ((t18).toNat*12)).block,(ad19.add ((t18).toNat*12)).off+8,none⟩=some (.int .i64 ((rd_T79 x8_1 t18).f4.f0))∧w'.cell? ⟨(ad19.add ((t18).toNat*12)).block,(ad19.add ((t18).toNat*12)).off+9,none⟩=some (.int .i64 ((rd_T79 x8_1 t18).f4.f1))∧w'.cell? ⟨(ad19.add ((t18).toNat*12)).block,(ad19.add ((t18).toNat*12)).off+10,none⟩=some (.int .i64 ((rd_T79 x8_1 t18).f4.f2))∧w'.cell? ⟨(ad19.add ((t18).toNat*12)).block,(ad19.add ((t18).toNat*12)).off+11,none⟩=some (.int .i64 ((rd_T79 x8_1 t18).f5))) (ds:=[11]) (bs_ 12 0) (by kernel_rfl) rfl rfl ⟨(blk_cell BK1.out 0).trans rfl,(blk_cell BK1.out 1).trans rfl,(blk_cell BK1.out 2).trans rfl,hx19_0,hx19_1,hx19_2,hx19_3,hx19_4,hx19_5,hx19_6,hx19_7,hx19_8,hx19_9,hx19_10,hx19_11⟩ (fun hHeld=> ?_);refine with_tabW r10_Admit.tab15 r10_Admit.bits15 (fun HT_ HW_=> ?_)
     generalize wr.drew=w62 at HO_7 HO_8 BK1 BK2 HB hx19_0 hx19_1 hx19_10 hx19_11 hx19_2 hx19_3 hx19_4 hx19_5 hx19_6 hx19_7 hx19_8 hx19_9 hHeld ⊢;(iterate 6 refine qu_ HT_ ?_);(iterate 2 refine qk_ HT_ HW_ hHeld ?_);refine on_ (i:=8) (N:=some 72) (bs_ 12 9) HT_ (fun K hK=> ?_);refine gs_ Try.func70 #[.agg #[.int .i64 ((rd_T79 x8_1 t18).f3.f0), .int .i64 ((rd_T79 x8_1 t18).f3.f1), .int .i64 ((rd_T79 x8_1 t18).f3.f2)], .agg #[.int .i64 a2_0, .int .i64 a2_1, .int .i64 a2_2]] ?_
     with_reducible refine (r10_Add.calls ((rd_T79 x8_1 t18).f3.f0) ((rd_T79 x8_1 t18).f3.f1) ((rd_T79 x8_1 t18).f3.f2) a2_0 a2_1 a2_2 t20 t21 t22 _ A59.out).mono ?_
     rintro e w63 ⟨rfl,hb⟩;have HS3_:=zh_ hb (hHeld.2.2.2.1);have HS4_:=zh_ hb (hHeld.2.2.2.2.1);have HS5_:=zh_ hb (hHeld.2.2.2.2.2.1);have HS6_:=zh_ hb (hHeld.2.2.2.2.2.2.1);have HS7_:=zh_ hb (hHeld.2.2.2.2.2.2.2.1);have HS8_:=zh_ hb (hHeld.2.2.2.2.2.2.2.2.1);have HS9_:=zh_ hb (hHeld.2.2.2.2.2.2.2.2.2.1);have HS10_:=zh_ hb (hHeld.2.2.2.2.2.2.2.2.2.2.1);have HS11_:=zh_ hb (hHeld.2.2.2.2.2.2.2.2.2.2.2.1);have HS12_:=zh_ hb (hHeld.2.2.2.2.2.2.2.2.2.2.2.2.1);have HS13_:=zh_ hb (hHeld.2.2.2.2.2.2.2.2.2.2.2.2.2.1);have HS14_:=zh_ hb (hHeld.2.2.2.2.2.2.2.2.2.2.2.2.2.2);refine ⟨_,rfl, ?_⟩;replace HO_7:=ob_ HO_7 hb;replace HO_8:=ob_ HO_8 hb;replace BK1:=bb_ BK1 hb;replace BK2:=bb_ BK2 hb;replace HB:=am_ (below_step (zl2_ HB GE1 GE2) hb);(try clear hb);have p60:0≤(t18:Int):=of_decide_eq_true zq_;have q60:(t18:Int)<((x8_1.length:Int):Int):=of_decide_eq_true zq_;obtain ⟨go60,co60,eo60,gb60,gl60,cl60,HG60⟩:=Kd.R_form HO_8.out (by omega);(first|cases eo60|(injection eo60 with ea_ en_ ec_;(first|subst ea_|(injection ea_ with ea_;subst ea_));subst ec_;clear en_));have GB60:=Aside0.mk gb60;have GG60:=Aside0.mk HG60;clear gb60 gl60 HG60;replace hx19_0:=zv_ hx19_0;replace hx19_1:=zv_ hx19_1;replace hx19_2:=zv_ hx19_2;replace hx19_3:=zv_ hx19_3;replace hx19_4:=zv_ hx19_4;replace hx19_5:=zv_ hx19_5;replace hx19_6:=zv_ hx19_6;replace hx19_7:=zv_ hx19_7;replace hx19_8:=zv_ hx19_8;replace hx19_9:=zv_ hx19_9;replace hx19_10:=zv_ hx19_10;replace hx19_11:=zv_ hx19_11
     obtain ⟨ce60,hcl60,hM60,hcc60,hfr60⟩:=Kd.R_elem HO_8.out z79 (t18:Int) p60 q60;obtain rfl:=k79_openM hM60;obtain ⟨_,_,_,_,_,_,_,_,_,_,_,_⟩:=rc12_ (m:=(t18:Int).toNat*12) hcc60;obtain ⟨_,_,_,_,_,_,_,_,_,_,_,_⟩:=rg12_ (m:=(t18:Int).toNat*12) hfr60;clear hcl60 hcc60 hfr60 hM60;replace p60:=eq_true p60;replace q60:=eq_true q60;obtain ⟨ce64,hcl64,hM64,hcc64,hfr64⟩:=Kd.R_elem HO_8.out z79 (t18:Int) (of_decide_eq_true zq_) (by have h_:(t18:Int)<((x8_1.length:Int):Int):=of_decide_eq_true zq_;first|exact h_|(have e_:=(Kd.R_reads' HO_8.out).1;omega)|simpa using h_);obtain rfl:=k79_openM hM64
     have HP64:=(Kd.R_seg HO_8.out (t18:Int) (of_decide_eq_true zq_) (by have h_:(t18:Int)<((x8_1.length:Int):Int):=of_decide_eq_true zq_;first|exact h_|(have e_:=(Kd.R_reads' HO_8.out).1;omega)|simpa using h_) (seg:=[.int .i64 t20, .int .i64 t21, .int .i64 t22]) (j:=5) hcl64 hcc64 (show 8≤12 from by decide) (x':=(⟨(rd_T79 x8_1 t18).f0,(rd_T79 x8_1 t18).f1,(⟨(rd_T79 x8_1 t18).f2.f0,(rd_T79 x8_1 t18).f2.f1,(rd_T79 x8_1 t18).f2.f2⟩:S37),(⟨t20,t21,t22⟩:S37),(⟨(rd_T79 x8_1 t18).f4.f0,(rd_T79 x8_1 t18).f4.f1,(rd_T79 x8_1 t18).f4.f2⟩:S37),(rd_T79 x8_1 t18).f5⟩:S79)) (k79_mkM _ _ _ (⟨(rd_T79 x8_1 t18).f0,(rd_T79 x8_1 t18).f1,(⟨(rd_T79 x8_1 t18).f2.f0,(rd_T79 x8_1 t18).f2.f1,(rd_T79 x8_1 t18).f2.f2⟩:S37),(⟨t20,t21,t22⟩:S37),(⟨(rd_T79 x8_1 t18).f4.f0,(rd_T79 x8_1 t18).f4.f1,(rd_T79 x8_1 t18).f4.f2⟩:S37),(rd_T79 x8_1 t18).f5⟩:S79)) (fun _ hk=>hk)).1;rw [←Ny23.out] at HP64;have HQ64:=Aside0.mk HP64;clear hcl64 hcc64 hfr64 hM64 HP64;refine hK.out _ _ ⟨(blk_cell BK1.out 0).trans rfl,(blk_cell BK1.out 1).trans rfl,(blk_cell BK1.out 2).trans rfl,HS3_,HS4_,HS5_,HS6_,HS7_,HS8_,HS9_,HS10_,HS11_,HS12_,HS13_,HS14_⟩ (fun hHeld=> ?_);clear hK K;refine no_ (N:=some 72) ?_;(iterate 2 refine qu_ HT_ ?_);refine last_ (i:=11) (N:=none) (bs_ 12 12) rfl rfl (one_of HT_.out (by kernel_rfl)) (by decide) (fun K hK=> ?_);refine skip_ (w1:= ?_) (by rfl) rfl ?_ ?_;rotate_left
     ·go_simp
      rfl
     refine hK.out _ _ ?_;clear hK K;refine done_ (done_of HT_.out (by kernel_rfl)) ?_;have n0_:Aside0 (Kd.R Kd.string 9 (((w63.setCell ⟨go60,(t18:Int).toNat*12+5,none⟩ (.int .i64 t20)).setCell ⟨go60,(t18:Int).toNat*12+6,none⟩ (.int .i64 t21)).setCell ⟨go60,(t18:Int).toNat*12+7,none⟩ (.int .i64 t22)) w.heap.size (fun _=>True) (.slice Ao15 t3.length co15) t3):=⟨by (with_reducible repeat (first|apply Kd.R_alloc|apply Kd.R_drewN|apply Kd.R_drew));exact Kd.R_mono (Kd.R_far (p:=⟨go60,(t18:Int).toNat*12+7,none⟩) (Kd.R_far (p:=⟨go60,(t18:Int).toNat*12+6,none⟩) (Kd.R_far (p:=⟨go60,(t18:Int).toNat*12+5,none⟩) (Kd.R_types HO_7.out GG60.out (by decide)) (fun _ hk=>hk.2) (.int .i64 t20)) (fun _ hk=>hk.2) (.int .i64 t21)) (fun _ hk=>hk.2) (.int .i64 t22)) (fun _ hk=>trivial)⟩;have n1_:Aside0 (Kd.R k79 79 (((w63.setCell ⟨go60,(t18:Int).toNat*12+5,none⟩ (.int .i64 t20)).setCell ⟨go60,(t18:Int).toNat*12+6,none⟩ (.int .i64 t21)).setCell ⟨go60,(t18:Int).toNat*12+7,none⟩ (.int .i64 t22)) w.heap.size (fun _=>True) (.slice (some ⟨go60,0,none⟩) x8_1.length co61) y23):=am_ (zr_ HQ64)
     have n2_:Aside0 ((((w63.setCell ⟨go60,(t18:Int).toNat*12+5,none⟩ (.int .i64 t20)).setCell ⟨go60,(t18:Int).toNat*12+6,none⟩ (.int .i64 t21)).setCell ⟨go60,(t18:Int).toNat*12+7,none⟩ (.int .i64 t22)).heap[gb1]?=some (.cells #[.int .i64 a2_0, .int .i64 a2_1, .int .i64 a2_2] 37 (0,0))):=⟨by refine zk_ ?_;refine blk_far ?_ (by have h_:=Kd.R_ne HO_8.out BK1.out (by decide);intro e_;exact h_ (by rw [e_];rfl)) _;refine zk_ ?_;refine blk_far ?_ (by have h_:=Kd.R_ne HO_8.out BK1.out (by decide);intro e_;exact h_ (by rw [e_];rfl)) _;refine zk_ ?_;refine blk_far ?_ (by have h_:=Kd.R_ne HO_8.out BK1.out (by decide);intro e_;exact h_ (by rw [e_];rfl)) _;refine zk_ ?_;exact BK1.out⟩;have n3_:Aside0 ((((w63.setCell ⟨go60,(t18:Int).toNat*12+5,none⟩ (.int .i64 t20)).setCell ⟨go60,(t18:Int).toNat*12+6,none⟩ (.int .i64 t21)).setCell ⟨go60,(t18:Int).toNat*12+7,none⟩ (.int .i64 t22)).heap[gb2]?=some (.cells #[.slice none 0 0, .int .i64 x3001_1] 73 (0,0))):=⟨by refine zk_ ?_;refine blk_far ?_ (by have h_:=Kd.R_ne HO_8.out BK2.out (by decide);intro e_;exact h_ (by rw [e_];rfl)) _;refine zk_ ?_;refine blk_far ?_ (by have h_:=Kd.R_ne HO_8.out BK2.out (by decide);intro e_;exact h_ (by rw [e_];rfl)) _;refine zk_ ?_;refine blk_far ?_ (by have h_:=Kd.R_ne HO_8.out BK2.out (by decide);intro e_;exact h_ (by rw [e_];rfl)) _;refine zk_ ?_;exact BK2.out⟩
     have n4_:Aside0 (Below w.heap.size w (((w63.setCell ⟨go60,(t18:Int).toNat*12+5,none⟩ (.int .i64 t20)).setCell ⟨go60,(t18:Int).toNat*12+6,none⟩ (.int .i64 t21)).setCell ⟨go60,(t18:Int).toNat*12+7,none⟩ (.int .i64 t22))):=⟨by repeat (first|(with_reducible first|exact HB.out|apply below_alloc|apply pw_below_drewN|apply below_drew1|refine below_set ?_ GB60.out|refine below_set ?_ GB60.out|refine below_set ?_ GB60.out|refine below_set ?_ GE1.out|refine below_set ?_ GE2.out)|exact HB.out)⟩;generalize (((w63.setCell ⟨go60,(t18:Int).toNat*12+5,none⟩ (.int .i64 t20)).setCell ⟨go60,(t18:Int).toNat*12+6,none⟩ (.int .i64 t21)).setCell ⟨go60,(t18:Int).toNat*12+7,none⟩ (.int .i64 t22))=w65 at n0_ n1_ n2_ n3_ n4_ ⊢;have HO_7:=n0_;have HO_8:=n1_;have BK1:=n2_;have BK2:=n3_;have HB:=n4_;clear n0_ n1_ n2_ n3_ n4_;have:=NB2_1.out;have:=NB1_2.out;obtain ⟨_,_,_,_⟩:=y2_ BK2;try go_wp2
     refine bodyPost_ret (results_cell_row rfl _ _ gb2 73 #[.slice (some ⟨go60,0,none⟩) x8_1.length co61, .int .i64 0] (0,0) _ rfl (zw_ BK2) Try.underlying73 rfl (by kernel_rfl)) rfl ?_;exact ⟨_,er_,zy_ HO_8 BK2,zl2_ HB GE1 GE2⟩
    rw [if_pos c28] at H;have c28b0:=decide_eq_true c28;clear c28;replace H:=zif_ H;obtain ⟨c29,H⟩:=H;replace c29:=decide_eq_true c29;replace H:=zbd_ H;obtain ⟨t25,A30,H⟩:=H;try dsimp only at H
    replace H:=zif_ H;obtain ⟨c31,H⟩:=H;replace c31:=decide_eq_true c31;replace H:=zif_ H;obtain ⟨c32,H⟩:=H;replace c32:=decide_eq_true c32;replace H:=zbd_ H;obtain ⟨⟨t27,t28,t29⟩,A33,H⟩:=H;try dsimp only at H
    obtain ⟨y30,hy30⟩: ∃y_:List (S79),y_=(x8_1.set (t25:Int).toNat (⟨(rd_T79 x8_1 t25).f0,(rd_T79 x8_1 t25).f1,(⟨(rd_T79 x8_1 t25).f2.f0,(rd_T79 x8_1 t25).f2.f1,(rd_T79 x8_1 t25).f2.f2⟩:S37),(⟨(rd_T79 x8_1 t25).f3.f0,(rd_T79 x8_1 t25).f3.f1,(rd_T79 x8_1 t25).f3.f2⟩:S37),(⟨t27,t28,t29⟩:S37),(rd_T79 x8_1 t25).f5⟩:S79)):=⟨_,rfl⟩;(first|replace H:=zsb_ hy30 H|rw [←hy30] at H);have Ny30:=Aside0.mk hy30;clear hy30;replace H:=zbd_ H;obtain ⟨t33,A35,H⟩:=H;try dsimp only at H
    by_cases c36:t33=true;subst c36;rw [if_pos rfl] at H;have H':=Aside0.mk H;clear H;obtain ⟨p24,q24,ad24,e24,hx24_0⟩:=zat_ (Kd.at_string (Kd.R_reads' HO_7.out).2.2 x9_1);cases e24;obtain ⟨Ao37,co37,eo37⟩:=Kd.R_slice HO_8.out;subst eo37;rotate_left;replace c36:=Bool.eq_false_iff.mpr c36;subst c36;rw [if_neg (show¬(false=true) by decide)] at H;replace H:=zbd_ H;obtain ⟨⟨t34,t37⟩,A44,H⟩:=H;try dsimp only at H
    simp only [Option.some.injEq,Prod.mk.injEq] at H;obtain ⟨rfl,rfl⟩:=H;obtain ⟨p24,q24,ad24,e24,hx24_0⟩:=zat_ (Kd.at_string (Kd.R_reads' HO_7.out).2.2 x9_1);cases e24;obtain ⟨Ao37,co37,eo45⟩:=Kd.R_slice HO_8.out;subst eo45;rotate_left
    all_goals (
    try go_wp2_with (first|((with_reducible refine gate_callee (f:=52) rfl ?_);refine gl_ (some 36) Try.func52 #[.slice Ao37 x8_1.length co37, .string (rdOf ByteArray.empty t3 x9_1)] ?_;(with_reducible refine (r10_Find.calls k1 _ _ x8_1 (rdOf ByteArray.empty t3 x9_1) t25 _ ?side1 ?side2 A30.out).mono ?_);(case side1=>exact zc_ (Kd.R_reads' HO_8.out).2.2);(case side2=>exact (Kd.R_reads' HO_8.out).2.1);rintro e w' ⟨rfl,⟨nd,rfl⟩⟩;refine ⟨_,rfl, ?_⟩;(try (rw [drewN_self wr];generalize hq_:World.drewN wr _=wr;replace HO_7:=am_ (qr_ hq_ HO_7.out);replace HO_8:=am_ (qr_ hq_ HO_8.out);replace BK1:=am_ (qb_ hq_ BK1.out);replace BK2:=am_ (qb_ hq_ BK2.out);replace HB:=am_ (ql_ hq_ HB.out);clear hq_))))
    replace HO_7:=am_ (Kd.R_drew HO_7.out);replace HO_8:=am_ (Kd.R_drew HO_8.out);replace BK1:=am_ (blk_drew BK1.out);replace BK2:=am_ (blk_drew BK2.out);replace HB:=am_ (below_drew1 HB.out);obtain ⟨p26,q26,ad26,e26,hx26_0,hx26_1,hx26_2,hx26_3,hx26_4,hx26_5,hx26_6,hx26_7,hx26_8,hx26_9,hx26_10,hx26_11⟩:=zat_ (at_T79 (Kd.R_reads' HO_8.out).2.2 t25);cases e26
    refine start_ (n:=12) (S:=fun w'=>w'.cell? ⟨gb1,0,none⟩=some (.int .i64 a2_0)∧w'.cell? ⟨gb1,1,none⟩=some (.int .i64 a2_1)∧w'.cell? ⟨gb1,2,none⟩=some (.int .i64 a2_2)∧w'.cell? (ad26.add ((t25).toNat*12))=some (.string ((rd_T79 x8_1 t25).f0))∧w'.cell? ⟨(ad26.add ((t25).toNat*12)).block,(ad26.add ((t25).toNat*12)).off+1,none⟩=some (.string ((rd_T79 x8_1 t25).f1))∧w'.cell? ⟨(ad26.add ((t25).toNat*12)).block,(ad26.add ((t25).toNat*12)).off+2,none⟩=some (.int .i64 ((rd_T79 x8_1 t25).f2.f0))∧w'.cell? ⟨(ad26.add ((t25).toNat*12)).block,(ad26.add ((t25).toNat*12)).off+3,none⟩=some (.int .i64 ((rd_T79 x8_1 t25).f2.f1))∧w'.cell? ⟨(ad26.add ((t25).toNat*12)).block,(ad26.add ((t25).toNat*12)).off+4,none⟩=some (.int .i64 ((rd_T79 x8_1 t25).f2.f2))∧w'.cell? ⟨(ad26.add ((t25).toNat*12)).block,(ad26.add ((t25).toNat*12)).off+5,none⟩=some (.int .i64 ((rd_T79 x8_1 t25).f3.f0))∧w'.cell? ⟨(ad26.add ((t25).toNat*12)).block,(ad26.add ((t25).toNat*12)).off+6,none⟩=some (.int .i64 ((rd_T79 x8_1 t25).f3.f1))∧w'.cell? ⟨(ad26.add ((t25).toNat*12)).block,(ad26.add ((t25).toNat*12)).off+7,none⟩=some (.int .i64 ((rd_T79 x8_1 t25).f3.f2))∧w'.cell? ⟨(ad26.add ((t25).toNat*12)).block,(ad26.add ((t25).toNat*12)).off+8,none⟩=some (.int .i64 ((rd_T79 x8_1 t25).f4.f0))∧w'.cell? ⟨(ad26.add ((t25).toNat*12)).block,(ad26.add ((t25).toNat*12)).off+9,none⟩=some (.int .i64 ((rd_T79 x8_1 t25).f4.f1))∧w'.cell? ⟨(ad26.add ((t25).toNat*12)).block,(ad26.add ((t25).toNat*12)).off+10,none⟩=some (.int .i64 ((rd_T79 x8_1 t25).f4.f2))∧w'.cell? ⟨(ad26.add ((t25).toNat*12)).block,(ad26.add ((t25).toNat*12)).off+11,none⟩=some (.int .i64 ((rd_T79 x8_1 t25).f5))) (ds:=[11]) (bs_ 12 0) (by kernel_rfl) rfl rfl ⟨(blk_cell BK1.out 0).trans rfl,(blk_cell BK1.out 1).trans rfl,(blk_cell BK1.out 2).trans rfl,hx26_0,hx26_1,hx26_2,hx26_3,hx26_4,hx26_5,hx26_6,hx26_7,hx26_8,hx26_9,hx26_10,hx26_11⟩ (fun hHeld=> ?_);refine with_tabW r10_Admit.tab11 r10_Admit.bits11 (fun HT_ HW_=> ?_)
    generalize wr.drew=w38 at HO_7 HO_8 BK1 BK2 HB hx26_0 hx26_1 hx26_10 hx26_11 hx26_2 hx26_3 hx26_4 hx26_5 hx26_6 hx26_7 hx26_8 hx26_9 hHeld ⊢;(iterate 6 refine qu_ HT_ ?_);(iterate 2 refine qk_ HT_ HW_ hHeld ?_);refine on_ (i:=8) (N:=some 45) (bs_ 12 9) HT_ (fun K hK=> ?_);refine gs_ Try.func70 #[.agg #[.int .i64 ((rd_T79 x8_1 t25).f4.f0), .int .i64 ((rd_T79 x8_1 t25).f4.f1), .int .i64 ((rd_T79 x8_1 t25).f4.f2)], .agg #[.int .i64 a2_0, .int .i64 a2_1, .int .i64 a2_2]] ?_
    with_reducible refine (r10_Add.calls ((rd_T79 x8_1 t25).f4.f0) ((rd_T79 x8_1 t25).f4.f1) ((rd_T79 x8_1 t25).f4.f2) a2_0 a2_1 a2_2 t27 t28 t29 _ A33.out).mono ?_
    rintro e w39 ⟨rfl,hb⟩;have HS3_:=zh_ hb (hHeld.2.2.2.1);have HS4_:=zh_ hb (hHeld.2.2.2.2.1);have HS5_:=zh_ hb (hHeld.2.2.2.2.2.1);have HS6_:=zh_ hb (hHeld.2.2.2.2.2.2.1);have HS7_:=zh_ hb (hHeld.2.2.2.2.2.2.2.1);have HS8_:=zh_ hb (hHeld.2.2.2.2.2.2.2.2.1);have HS9_:=zh_ hb (hHeld.2.2.2.2.2.2.2.2.2.1);have HS10_:=zh_ hb (hHeld.2.2.2.2.2.2.2.2.2.2.1);have HS11_:=zh_ hb (hHeld.2.2.2.2.2.2.2.2.2.2.2.1);have HS12_:=zh_ hb (hHeld.2.2.2.2.2.2.2.2.2.2.2.2.1);have HS13_:=zh_ hb (hHeld.2.2.2.2.2.2.2.2.2.2.2.2.2.1);have HS14_:=zh_ hb (hHeld.2.2.2.2.2.2.2.2.2.2.2.2.2.2);refine ⟨_,rfl, ?_⟩;replace HO_7:=ob_ HO_7 hb;replace HO_8:=ob_ HO_8 hb;replace BK1:=bb_ BK1 hb;replace BK2:=bb_ BK2 hb;replace HB:=am_ (below_step (zl2_ HB GE1 GE2) hb);(try clear hb);have p34:0≤(t25:Int):=of_decide_eq_true zq_;have q34:(t25:Int)<((x8_1.length:Int):Int):=of_decide_eq_true zq_;obtain ⟨go34,co34,eo34,gb34,gl34,cl34,HG34⟩:=Kd.R_form HO_8.out (by omega);(first|cases eo34|(injection eo34 with ea_ en_ ec_;(first|subst ea_|(injection ea_ with ea_;subst ea_));subst ec_;clear en_));have GB34:=Aside0.mk gb34;have GG34:=Aside0.mk HG34;clear gb34 gl34 HG34;replace hx26_0:=zv_ hx26_0;replace hx26_1:=zv_ hx26_1;replace hx26_2:=zv_ hx26_2;replace hx26_3:=zv_ hx26_3;replace hx26_4:=zv_ hx26_4;replace hx26_5:=zv_ hx26_5;replace hx26_6:=zv_ hx26_6;replace hx26_7:=zv_ hx26_7;replace hx26_8:=zv_ hx26_8;replace hx26_9:=zv_ hx26_9;replace hx26_10:=zv_ hx26_10;replace hx26_11:=zv_ hx26_11
    obtain ⟨ce34,hcl34,hM34,hcc34,hfr34⟩:=Kd.R_elem HO_8.out z79 (t25:Int) p34 q34;obtain rfl:=k79_openM hM34;obtain ⟨_,_,_,_,_,_,_,_,_,_,_,_⟩:=rc12_ (m:=(t25:Int).toNat*12) hcc34;obtain ⟨_,_,_,_,_,_,_,_,_,_,_,_⟩:=rg12_ (m:=(t25:Int).toNat*12) hfr34;clear hcl34 hcc34 hfr34 hM34;replace p34:=eq_true p34;replace q34:=eq_true q34;obtain ⟨ce40,hcl40,hM40,hcc40,hfr40⟩:=Kd.R_elem HO_8.out z79 (t25:Int) (of_decide_eq_true zq_) (by have h_:(t25:Int)<((x8_1.length:Int):Int):=of_decide_eq_true zq_;first|exact h_|(have e_:=(Kd.R_reads' HO_8.out).1;omega)|simpa using h_);obtain rfl:=k79_openM hM40
    have HP40:=(Kd.R_seg HO_8.out (t25:Int) (of_decide_eq_true zq_) (by have h_:(t25:Int)<((x8_1.length:Int):Int):=of_decide_eq_true zq_;first|exact h_|(have e_:=(Kd.R_reads' HO_8.out).1;omega)|simpa using h_) (seg:=[.int .i64 t27, .int .i64 t28, .int .i64 t29]) (j:=8) hcl40 hcc40 (show 11≤12 from by decide) (x':=(⟨(rd_T79 x8_1 t25).f0,(rd_T79 x8_1 t25).f1,(⟨(rd_T79 x8_1 t25).f2.f0,(rd_T79 x8_1 t25).f2.f1,(rd_T79 x8_1 t25).f2.f2⟩:S37),(⟨(rd_T79 x8_1 t25).f3.f0,(rd_T79 x8_1 t25).f3.f1,(rd_T79 x8_1 t25).f3.f2⟩:S37),(⟨t27,t28,t29⟩:S37),(rd_T79 x8_1 t25).f5⟩:S79)) (k79_mkM _ _ _ (⟨(rd_T79 x8_1 t25).f0,(rd_T79 x8_1 t25).f1,(⟨(rd_T79 x8_1 t25).f2.f0,(rd_T79 x8_1 t25).f2.f1,(rd_T79 x8_1 t25).f2.f2⟩:S37),(⟨(rd_T79 x8_1 t25).f3.f0,(rd_T79 x8_1 t25).f3.f1,(rd_T79 x8_1 t25).f3.f2⟩:S37),(⟨t27,t28,t29⟩:S37),(rd_T79 x8_1 t25).f5⟩:S79)) (fun _ hk=>hk)).1;rw [←Ny30.out] at HP40;have HQ40:=Aside0.mk HP40;clear hcl40 hcc40 hfr40 hM40 HP40;refine hK.out _ _ ⟨(blk_cell BK1.out 0).trans rfl,(blk_cell BK1.out 1).trans rfl,(blk_cell BK1.out 2).trans rfl,HS3_,HS4_,HS5_,HS6_,HS7_,HS8_,HS9_,HS10_,HS11_,HS12_,HS13_,HS14_⟩ (fun hHeld=> ?_);clear hK K;refine no_ (N:=some 45) ?_;(iterate 2 refine qu_ HT_ ?_);refine last_ (i:=11) (N:=none) (bs_ 12 12) rfl rfl (one_of HT_.out (by kernel_rfl)) (by decide) (fun K hK=> ?_);refine skip_ (w1:= ?_) (by rfl) rfl ?_ ?_;rotate_left
    ·go_simp
     rfl
    refine hK.out _ _ ?_;clear hK K;refine done_ (done_of HT_.out (by kernel_rfl)) ?_)
    ·try go_wp2
     have n0_:Aside0 (Kd.R Kd.string 9 (((w39.setCell ⟨go34,(t25:Int).toNat*12+8,none⟩ (.int .i64 t27)).setCell ⟨go34,(t25:Int).toNat*12+9,none⟩ (.int .i64 t28)).setCell ⟨go34,(t25:Int).toNat*12+10,none⟩ (.int .i64 t29)) w.heap.size (fun _=>True) (.slice (some ad24) t3.length co15) t3):=⟨by (with_reducible repeat (first|apply Kd.R_alloc|apply Kd.R_drewN|apply Kd.R_drew));exact Kd.R_mono (Kd.R_far (p:=⟨go34,(t25:Int).toNat*12+10,none⟩) (Kd.R_far (p:=⟨go34,(t25:Int).toNat*12+9,none⟩) (Kd.R_far (p:=⟨go34,(t25:Int).toNat*12+8,none⟩) (Kd.R_types HO_7.out GG34.out (by decide)) (fun _ hk=>hk.2) (.int .i64 t27)) (fun _ hk=>hk.2) (.int .i64 t28)) (fun _ hk=>hk.2) (.int .i64 t29)) (fun _ hk=>trivial)⟩;have n1_:Aside0 (Kd.R k79 79 (((w39.setCell ⟨go34,(t25:Int).toNat*12+8,none⟩ (.int .i64 t27)).setCell ⟨go34,(t25:Int).toNat*12+9,none⟩ (.int .i64 t28)).setCell ⟨go34,(t25:Int).toNat*12+10,none⟩ (.int .i64 t29)) w.heap.size (fun _=>True) (.slice (some ⟨go34,0,none⟩) x8_1.length co37) y30):=am_ (zr_ HQ40)
     have n2_:Aside0 ((((w39.setCell ⟨go34,(t25:Int).toNat*12+8,none⟩ (.int .i64 t27)).setCell ⟨go34,(t25:Int).toNat*12+9,none⟩ (.int .i64 t28)).setCell ⟨go34,(t25:Int).toNat*12+10,none⟩ (.int .i64 t29)).heap[gb1]?=some (.cells #[.int .i64 a2_0, .int .i64 a2_1, .int .i64 a2_2] 37 (0,0))):=⟨by refine zk_ ?_;refine blk_far ?_ (by have h_:=Kd.R_ne HO_8.out BK1.out (by decide);intro e_;exact h_ (by rw [e_];rfl)) _;refine zk_ ?_;refine blk_far ?_ (by have h_:=Kd.R_ne HO_8.out BK1.out (by decide);intro e_;exact h_ (by rw [e_];rfl)) _;refine zk_ ?_;refine blk_far ?_ (by have h_:=Kd.R_ne HO_8.out BK1.out (by decide);intro e_;exact h_ (by rw [e_];rfl)) _;refine zk_ ?_;exact BK1.out⟩;have n3_:Aside0 ((((w39.setCell ⟨go34,(t25:Int).toNat*12+8,none⟩ (.int .i64 t27)).setCell ⟨go34,(t25:Int).toNat*12+9,none⟩ (.int .i64 t28)).setCell ⟨go34,(t25:Int).toNat*12+10,none⟩ (.int .i64 t29)).heap[gb2]?=some (.cells #[.slice none 0 0, .int .i64 x3001_1] 73 (0,0))):=⟨by refine zk_ ?_;refine blk_far ?_ (by have h_:=Kd.R_ne HO_8.out BK2.out (by decide);intro e_;exact h_ (by rw [e_];rfl)) _;refine zk_ ?_;refine blk_far ?_ (by have h_:=Kd.R_ne HO_8.out BK2.out (by decide);intro e_;exact h_ (by rw [e_];rfl)) _;refine zk_ ?_;refine blk_far ?_ (by have h_:=Kd.R_ne HO_8.out BK2.out (by decide);intro e_;exact h_ (by rw [e_];rfl)) _;refine zk_ ?_;exact BK2.out⟩
     have n4_:Aside0 (Below w.heap.size w (((w39.setCell ⟨go34,(t25:Int).toNat*12+8,none⟩ (.int .i64 t27)).setCell ⟨go34,(t25:Int).toNat*12+9,none⟩ (.int .i64 t28)).setCell ⟨go34,(t25:Int).toNat*12+10,none⟩ (.int .i64 t29))):=⟨by repeat (first|(with_reducible first|exact HB.out|apply below_alloc|apply pw_below_drewN|apply below_drew1|refine below_set ?_ GB34.out|refine below_set ?_ GB34.out|refine below_set ?_ GB34.out|refine below_set ?_ GE1.out|refine below_set ?_ GE2.out)|exact HB.out)⟩;generalize (((w39.setCell ⟨go34,(t25:Int).toNat*12+8,none⟩ (.int .i64 t27)).setCell ⟨go34,(t25:Int).toNat*12+9,none⟩ (.int .i64 t28)).setCell ⟨go34,(t25:Int).toNat*12+10,none⟩ (.int .i64 t29))=w41 at n0_ n1_ n2_ n3_ n4_ ⊢;have HO_7:=n0_;have HO_8:=n1_;have BK1:=n2_;have BK2:=n3_;have HB:=n4_;clear n0_ n1_ n2_ n3_ n4_;replace HO_7:=am_ (Kd.R_drew HO_7.out);replace HO_8:=am_ (Kd.R_drew HO_8.out);replace BK1:=am_ (blk_drew BK1.out);replace BK2:=am_ (blk_drew BK2.out);replace HB:=am_ (below_drew1 HB.out);have p31:0≤(t25:Int):=of_decide_eq_true zq_;have q31:t25<(y30.length:Int):=(by have h_:(t25:Int)<((x8_1.length:Int):Int):=of_decide_eq_true zq_;first|(have e_:=(Kd.R_reads' HO_8.out).1;omega)|simpa only [Ny30.out,List.length_set] using h_);have ql31:((t25:Int)<((x8_1.length:Int):Int))=True:=eq_true (of_decide_eq_true zq_);obtain ⟨ad31,e31,hx31_0,hx31_1,hx31_2,hx31_3,hx31_4,hx31_5,hx31_6,hx31_7,hx31_8,hx31_9,hx31_10,hx31_11⟩:=at_T79 (Kd.R_reads' HO_8.out).2.2 t25 p31 q31
     obtain rfl:(⟨go34,0,none⟩:Addr)=ad31:=(by injection e31);replace hx31_0:=za_ hx31_0;replace hx31_1:=za_ hx31_1;replace hx31_2:=za_ hx31_2;replace hx31_3:=za_ hx31_3;replace hx31_4:=za_ hx31_4;replace hx31_5:=za_ hx31_5;replace hx31_6:=za_ hx31_6;replace hx31_7:=za_ hx31_7;replace hx31_8:=za_ hx31_8;replace hx31_9:=za_ hx31_9;replace hx31_10:=za_ hx31_10;replace hx31_11:=za_ hx31_11;replace p31:=eq_true p31;replace q31:=eq_true q31;have p32:0≤(t25:Int):=of_decide_eq_true zq_;have q32:t25<(y30.length:Int):=(by have h_:(t25:Int)<((x8_1.length:Int):Int):=of_decide_eq_true zq_;first|(have e_:=(Kd.R_reads' HO_8.out).1;omega)|simpa only [Ny30.out,List.length_set] using h_);have ql32:((t25:Int)<((x8_1.length:Int):Int))=True:=eq_true (of_decide_eq_true zq_);obtain ⟨ad32,e32,hx32_0,hx32_1,hx32_2,hx32_3,hx32_4,hx32_5,hx32_6,hx32_7,hx32_8,hx32_9,hx32_10,hx32_11⟩:=at_T79 (Kd.R_reads' HO_8.out).2.2 t25 p32 q32;obtain rfl:(⟨go34,0,none⟩:Addr)=ad32:=(by injection e32);replace hx32_0:=za_ hx32_0;replace hx32_1:=za_ hx32_1;replace hx32_2:=za_ hx32_2;replace hx32_3:=za_ hx32_3;replace hx32_4:=za_ hx32_4;replace hx32_5:=za_ hx32_5;replace hx32_6:=za_ hx32_6;replace hx32_7:=za_ hx32_7;replace hx32_8:=za_ hx32_8;replace hx32_9:=za_ hx32_9;replace hx32_10:=za_ hx32_10;replace hx32_11:=za_ hx32_11;replace p32:=eq_true p32;replace q32:=eq_true q32
     refine start_ (n:=12) (S:=fun w'=>w'.cell? ⟨go34,(t25).toNat*12+2,none⟩=some (.int .i64 ((rd_T79 y30 t25).f2.f0))∧w'.cell? ⟨go34,(t25).toNat*12+3,none⟩=some (.int .i64 ((rd_T79 y30 t25).f2.f1))∧w'.cell? ⟨go34,(t25).toNat*12+4,none⟩=some (.int .i64 ((rd_T79 y30 t25).f2.f2))∧w'.cell? ⟨go34,(t25).toNat*12+8,none⟩=some (.int .i64 ((rd_T79 y30 t25).f4.f0))∧w'.cell? ⟨go34,(t25).toNat*12+9,none⟩=some (.int .i64 ((rd_T79 y30 t25).f4.f1))∧w'.cell? ⟨go34,(t25).toNat*12+10,none⟩=some (.int .i64 ((rd_T79 y30 t25).f4.f2))) (ds:=[]) (bt_ 12 0) (by kernel_rfl) rfl rfl ⟨hx31_2,hx31_3,hx31_4,hx31_8,hx31_9,hx31_10⟩ (fun hHeld=> ?_);refine with_tabW r10_Admit.tab12 r10_Admit.bits12 (fun HT_ HW_=> ?_);generalize w41.drew=w42 at HO_7 HO_8 BK1 BK2 HB HQ40 hx31_0 hx31_1 hx31_10 hx31_11 hx31_2 hx31_3 hx31_4 hx31_5 hx31_6 hx31_7 hx31_8 hx31_9 hx32_0 hx32_1 hx32_10 hx32_11 hx32_2 hx32_3 hx32_4 hx32_5 hx32_6 hx32_7 hx32_8 hx32_9 hHeld ⊢;refine ru_ 0 HT_ ?_;refine ru_ 1 HT_ ?_;refine ru_ 2 HT_ ?_;refine ru_ 3 HT_ ?_;refine ru_ 5 HT_ ?_;refine ru_ 6 HT_ ?_;refine ru_ 7 HT_ ?_;refine ru_ 8 HT_ ?_;refine rk_ 4 HT_ HW_ hHeld ?_;refine rk_ 9 HT_ HW_ hHeld ?_;refine on_ (i:=10) (N:=some 58) (bt_ 12 2047) HT_ (fun K hK=> ?_);refine gs_ Try.func71 #[.agg #[.int .i64 ((rd_T79 y30 t25).f4.f0), .int .i64 ((rd_T79 y30 t25).f4.f1), .int .i64 ((rd_T79 y30 t25).f4.f2)], .agg #[.int .i64 ((rd_T79 y30 t25).f2.f0), .int .i64 ((rd_T79 y30 t25).f2.f1), .int .i64 ((rd_T79 y30 t25).f2.f2)]] ?_
     with_reducible refine (r10_Le.calls ((rd_T79 y30 t25).f4.f0) ((rd_T79 y30 t25).f4.f1) ((rd_T79 y30 t25).f4.f2) ((rd_T79 y30 t25).f2.f0) ((rd_T79 y30 t25).f2.f1) ((rd_T79 y30 t25).f2.f2) true _ A35.out).mono ?_
     rintro e w43 ⟨rfl,hb⟩;have HS_:=And.intro hb hHeld;refine ⟨_,rfl, ?_⟩;replace HO_7:=ob_ HO_7 hb;replace HO_8:=ob_ HO_8 hb;replace BK1:=bb_ BK1 hb;replace BK2:=bb_ BK2 hb;replace HB:=am_ (below_step (zl2_ HB GE1 GE2) hb);(try clear hb);refine hK.out _ _ (hk_ HS_) (fun hHeld=> ?_);clear hK K;refine no_ (N:=some 58) ?_;refine ru_ 11 HT_ ?_;refine done_ (done_of HT_.out (by kernel_rfl)) ?_;try go_wp2
     go_roundg k1
     case measure=>have:=HK1.out;omega
     case rel=>exact ⟨(y30),(wrap64 (x9_1+1)),(x3001_1),rf_,H',⟨by have:=HK1.out;omega⟩,am_ (zr_ HO_7),am_ (zr_ HO_8),am_ (zb_ BK1),am_ (zb_ BK2),⟨zl2_ HB GE1 GE2⟩⟩
    ·have n0_:Aside0 (Kd.R Kd.string 9 (((w39.setCell ⟨go34,(t25:Int).toNat*12+8,none⟩ (.int .i64 t27)).setCell ⟨go34,(t25:Int).toNat*12+9,none⟩ (.int .i64 t28)).setCell ⟨go34,(t25:Int).toNat*12+10,none⟩ (.int .i64 t29)) w.heap.size (fun _=>True) (.slice (some ad24) t3.length co15) t3):=⟨by (with_reducible repeat (first|apply Kd.R_alloc|apply Kd.R_drewN|apply Kd.R_drew));exact Kd.R_mono (Kd.R_far (p:=⟨go34,(t25:Int).toNat*12+10,none⟩) (Kd.R_far (p:=⟨go34,(t25:Int).toNat*12+9,none⟩) (Kd.R_far (p:=⟨go34,(t25:Int).toNat*12+8,none⟩) (Kd.R_types HO_7.out GG34.out (by decide)) (fun _ hk=>hk.2) (.int .i64 t27)) (fun _ hk=>hk.2) (.int .i64 t28)) (fun _ hk=>hk.2) (.int .i64 t29)) (fun _ hk=>trivial)⟩;have n1_:Aside0 (Kd.R k79 79 (((w39.setCell ⟨go34,(t25:Int).toNat*12+8,none⟩ (.int .i64 t27)).setCell ⟨go34,(t25:Int).toNat*12+9,none⟩ (.int .i64 t28)).setCell ⟨go34,(t25:Int).toNat*12+10,none⟩ (.int .i64 t29)) w.heap.size (fun _=>True) (.slice (some ⟨go34,0,none⟩) x8_1.length co37) y30):=am_ (zr_ HQ40)
     have n2_:Aside0 ((((w39.setCell ⟨go34,(t25:Int).toNat*12+8,none⟩ (.int .i64 t27)).setCell ⟨go34,(t25:Int).toNat*12+9,none⟩ (.int .i64 t28)).setCell ⟨go34,(t25:Int).toNat*12+10,none⟩ (.int .i64 t29)).heap[gb1]?=some (.cells #[.int .i64 a2_0, .int .i64 a2_1, .int .i64 a2_2] 37 (0,0))):=⟨by refine zk_ ?_;refine blk_far ?_ (by have h_:=Kd.R_ne HO_8.out BK1.out (by decide);intro e_;exact h_ (by rw [e_];rfl)) _;refine zk_ ?_;refine blk_far ?_ (by have h_:=Kd.R_ne HO_8.out BK1.out (by decide);intro e_;exact h_ (by rw [e_];rfl)) _;refine zk_ ?_;refine blk_far ?_ (by have h_:=Kd.R_ne HO_8.out BK1.out (by decide);intro e_;exact h_ (by rw [e_];rfl)) _;refine zk_ ?_;exact BK1.out⟩;have n3_:Aside0 ((((w39.setCell ⟨go34,(t25:Int).toNat*12+8,none⟩ (.int .i64 t27)).setCell ⟨go34,(t25:Int).toNat*12+9,none⟩ (.int .i64 t28)).setCell ⟨go34,(t25:Int).toNat*12+10,none⟩ (.int .i64 t29)).heap[gb2]?=some (.cells #[.slice none 0 0, .int .i64 x3001_1] 73 (0,0))):=⟨by refine zk_ ?_;refine blk_far ?_ (by have h_:=Kd.R_ne HO_8.out BK2.out (by decide);intro e_;exact h_ (by rw [e_];rfl)) _;refine zk_ ?_;refine blk_far ?_ (by have h_:=Kd.R_ne HO_8.out BK2.out (by decide);intro e_;exact h_ (by rw [e_];rfl)) _;refine zk_ ?_;refine blk_far ?_ (by have h_:=Kd.R_ne HO_8.out BK2.out (by decide);intro e_;exact h_ (by rw [e_];rfl)) _;refine zk_ ?_;exact BK2.out⟩
     have n4_:Aside0 (Below w.heap.size w (((w39.setCell ⟨go34,(t25:Int).toNat*12+8,none⟩ (.int .i64 t27)).setCell ⟨go34,(t25:Int).toNat*12+9,none⟩ (.int .i64 t28)).setCell ⟨go34,(t25:Int).toNat*12+10,none⟩ (.int .i64 t29))):=⟨by repeat (first|(with_reducible first|exact HB.out|apply below_alloc|apply pw_below_drewN|apply below_drew1|refine below_set ?_ GB34.out|refine below_set ?_ GB34.out|refine below_set ?_ GB34.out|refine below_set ?_ GE1.out|refine below_set ?_ GE2.out)|exact HB.out)⟩;generalize (((w39.setCell ⟨go34,(t25:Int).toNat*12+8,none⟩ (.int .i64 t27)).setCell ⟨go34,(t25:Int).toNat*12+9,none⟩ (.int .i64 t28)).setCell ⟨go34,(t25:Int).toNat*12+10,none⟩ (.int .i64 t29))=w49 at n0_ n1_ n2_ n3_ n4_ ⊢;have HO_7:=n0_;have HO_8:=n1_;have BK1:=n2_;have BK2:=n3_;have HB:=n4_;clear n0_ n1_ n2_ n3_ n4_;try go_wp2
     replace HO_7:=am_ (Kd.R_drew HO_7.out);replace HO_8:=am_ (Kd.R_drew HO_8.out);replace BK1:=am_ (blk_drew BK1.out);replace BK2:=am_ (blk_drew BK2.out);replace HB:=am_ (below_drew1 HB.out);have p31:0≤(t25:Int):=of_decide_eq_true zq_;have q31:t25<(y30.length:Int):=(by have h_:(t25:Int)<((x8_1.length:Int):Int):=of_decide_eq_true zq_;first|(have e_:=(Kd.R_reads' HO_8.out).1;omega)|simpa only [Ny30.out,List.length_set] using h_);have ql31:((t25:Int)<((x8_1.length:Int):Int))=True:=eq_true (of_decide_eq_true zq_);obtain ⟨ad31,e31,hx31_0,hx31_1,hx31_2,hx31_3,hx31_4,hx31_5,hx31_6,hx31_7,hx31_8,hx31_9,hx31_10,hx31_11⟩:=at_T79 (Kd.R_reads' HO_8.out).2.2 t25 p31 q31;obtain rfl:(⟨go34,0,none⟩:Addr)=ad31:=(by injection e31);replace hx31_0:=za_ hx31_0;replace hx31_1:=za_ hx31_1;replace hx31_2:=za_ hx31_2;replace hx31_3:=za_ hx31_3;replace hx31_4:=za_ hx31_4;replace hx31_5:=za_ hx31_5;replace hx31_6:=za_ hx31_6;replace hx31_7:=za_ hx31_7;replace hx31_8:=za_ hx31_8;replace hx31_9:=za_ hx31_9;replace hx31_10:=za_ hx31_10;replace hx31_11:=za_ hx31_11;replace p31:=eq_true p31;replace q31:=eq_true q31;have p32:0≤(t25:Int):=of_decide_eq_true zq_;have q32:t25<(y30.length:Int):=(by have h_:(t25:Int)<((x8_1.length:Int):Int):=of_decide_eq_true zq_;first|(have e_:=(Kd.R_reads' HO_8.out).1;omega)|simpa only [Ny30.out,List.length_set] using h_);have ql32:((t25:Int)<((x8_1.length:Int):Int))=True:=eq_true (of_decide_eq_true zq_)
     obtain ⟨ad32,e32,hx32_0,hx32_1,hx32_2,hx32_3,hx32_4,hx32_5,hx32_6,hx32_7,hx32_8,hx32_9,hx32_10,hx32_11⟩:=at_T79 (Kd.R_reads' HO_8.out).2.2 t25 p32 q32;obtain rfl:(⟨go34,0,none⟩:Addr)=ad32:=(by injection e32);replace hx32_0:=za_ hx32_0;replace hx32_1:=za_ hx32_1;replace hx32_2:=za_ hx32_2;replace hx32_3:=za_ hx32_3;replace hx32_4:=za_ hx32_4;replace hx32_5:=za_ hx32_5;replace hx32_6:=za_ hx32_6;replace hx32_7:=za_ hx32_7;replace hx32_8:=za_ hx32_8;replace hx32_9:=za_ hx32_9;replace hx32_10:=za_ hx32_10;replace hx32_11:=za_ hx32_11;replace p32:=eq_true p32;replace q32:=eq_true q32;refine start_ (n:=12) (S:=fun w'=>w'.cell? ⟨go34,(t25).toNat*12+2,none⟩=some (.int .i64 ((rd_T79 y30 t25).f2.f0))∧w'.cell? ⟨go34,(t25).toNat*12+3,none⟩=some (.int .i64 ((rd_T79 y30 t25).f2.f1))∧w'.cell? ⟨go34,(t25).toNat*12+4,none⟩=some (.int .i64 ((rd_T79 y30 t25).f2.f2))∧w'.cell? ⟨go34,(t25).toNat*12+8,none⟩=some (.int .i64 ((rd_T79 y30 t25).f4.f0))∧w'.cell? ⟨go34,(t25).toNat*12+9,none⟩=some (.int .i64 ((rd_T79 y30 t25).f4.f1))∧w'.cell? ⟨go34,(t25).toNat*12+10,none⟩=some (.int .i64 ((rd_T79 y30 t25).f4.f2))) (ds:=[]) (bt_ 12 0) (by kernel_rfl) rfl rfl ⟨hx31_2,hx31_3,hx31_4,hx31_8,hx31_9,hx31_10⟩ (fun hHeld=> ?_);refine with_tabW r10_Admit.tab12 r10_Admit.bits12 (fun HT_ HW_=> ?_)
     generalize w49.drew=w50 at HO_7 HO_8 BK1 BK2 HB hx31_0 hx31_1 hx31_10 hx31_11 hx31_2 hx31_3 hx31_4 hx31_5 hx31_6 hx31_7 hx31_8 hx31_9 hx32_0 hx32_1 hx32_10 hx32_11 hx32_2 hx32_3 hx32_4 hx32_5 hx32_6 hx32_7 hx32_8 hx32_9 hHeld ⊢;refine ru_ 0 HT_ ?_;refine ru_ 1 HT_ ?_;refine ru_ 2 HT_ ?_;refine ru_ 3 HT_ ?_;refine ru_ 5 HT_ ?_;refine ru_ 6 HT_ ?_;refine ru_ 7 HT_ ?_;refine ru_ 8 HT_ ?_;refine rk_ 4 HT_ HW_ hHeld ?_;refine rk_ 9 HT_ HW_ hHeld ?_;refine on_ (i:=10) (N:=some 58) (bt_ 12 2047) HT_ (fun K hK=> ?_);refine gs_ Try.func71 #[.agg #[.int .i64 ((rd_T79 y30 t25).f4.f0), .int .i64 ((rd_T79 y30 t25).f4.f1), .int .i64 ((rd_T79 y30 t25).f4.f2)], .agg #[.int .i64 ((rd_T79 y30 t25).f2.f0), .int .i64 ((rd_T79 y30 t25).f2.f1), .int .i64 ((rd_T79 y30 t25).f2.f2)]] ?_
     with_reducible refine (r10_Le.calls ((rd_T79 y30 t25).f4.f0) ((rd_T79 y30 t25).f4.f1) ((rd_T79 y30 t25).f4.f2) ((rd_T79 y30 t25).f2.f0) ((rd_T79 y30 t25).f2.f1) ((rd_T79 y30 t25).f2.f2) false _ A35.out).mono ?_
     rintro e w51 ⟨rfl,hb⟩;have HS_:=And.intro hb hHeld;refine ⟨_,rfl, ?_⟩;replace HO_7:=ob_ HO_7 hb;replace HO_8:=ob_ HO_8 hb;replace BK1:=bb_ BK1 hb;replace BK2:=bb_ BK2 hb;replace HB:=am_ (below_step (zl2_ HB GE1 GE2) hb);(try clear hb);refine hK.out _ _ (hk_ HS_) (fun hHeld=> ?_);clear hK K;refine no_ (N:=some 58) ?_;refine ru_ 11 HT_ ?_;refine done_ (done_of HT_.out (by kernel_rfl)) ?_;try go_wp2_with (first|((with_reducible refine gate_callee (f:=101) rfl ?_);refine gl_ (some 60) Try.func101 #[.int .i64 12] ?_;(with_reducible refine (r10_no.calls 12 t34 t37 _ A44.out).mono ?_);rintro e w52 ⟨v35,rfl,ho0,hb⟩;refine ⟨_,rfl, ?_⟩;replace HO_7:=ob_ HO_7 hb;have HO36:=am_ (Kd.R_lower (Kd.R_new' ho0 (Kd.R_lt (zr_ HO_8))) (below_size (zl2_ HB GE1 GE2)));replace HO_8:=am_ (Kd.R_elder' (zr_ HO_8) (Kd.R_base ho0) hb);replace BK1:=bb_ BK1 hb;replace BK2:=bb_ BK2 hb;replace HB:=am_ (below_step (zl2_ HB GE1 GE2) hb);(try clear hb ho0);obtain ⟨Ao53,co53,eo53⟩:=Kd.R_slice HO36.out;subst eo53;have:=NB2_1.out;have:=NB1_2.out;obtain ⟨_,_⟩:=x2_ BK2;obtain ⟨_,_⟩:=ff2_ BK2))
     refine bodyPost_ret (results_cell_row rfl _ _ gb2 73 #[.slice Ao53 t34.length co53, .int .i64 t37] (0,0) _ rfl (zw_ BK2) Try.underlying73 rfl (by kernel_rfl)) rfl ?_;exact ⟨_,er_,zy_ HO36 BK2,zl2_ HB GE1 GE2⟩
 ·refine bodyPost_ret (results_cell_row rfl _ _ gb2 73 #[.slice Ao76 t7.length co76, .int .i64 t10] (0,0) _ rfl (zw_ BK2) Try.underlying73 rfl (by kernel_rfl)) rfl ?_;exact ⟨_,er_,zy_ HO9 BK2,zl2_ HB GE1 GE2⟩

mutual
def law12_Make.l0:Nat→List Int→List (S79)→Int→Option ((List (S79)))
 |0,_,_,_=>none
 |k+1,x0,x3,x4=>if (wrap64 (x4+2))<(x0.length:Int) then (law12_Make.j1 k x0 x3 x4 (decide ((x3.length:Int)<24))) else (law12_Make.j1 k x0 x3 x4 false)
def law12_Make.j1:Nat→List Int→List (S79)→Int→Bool→Option ((List (S79)))
 |0,_,_,_,_=>none
 |k+1,x0,x3,x4,x21=>if x21=true then (if 0≤x4 then (if x4<(x0.length:Int) then (if (x3.length:Int)>0 then (law12_Make.j2 k x0 x3 x4 (wrap64 (rd x0 x4)) (⟨#[]⟩:ByteArray) (decide ((Int.tmod (wrap64 (rd x0 x4)) 3)>0))) else (law12_Make.j2 k x0 x3 x4 (wrap64 (rd x0 x4)) (⟨#[]⟩:ByteArray) false)) else (none)) else (none)) else (some x3)
def law12_Make.j2:Nat→List Int→List (S79)→Int→Int→ByteArray→Bool→Option ((List (S79)))
 |0,_,_,_,_,_,_=>none
 |k+1,x0,x3,x4,x5,x6,x36=>if x36=true then (if (x3.length:Int)=0 then (none) else (if 0≤(Int.tmod (wrap64 (Int.tdiv x5 3)) (x3.length:Int)) then (if (Int.tmod (wrap64 (Int.tdiv x5 3)) (x3.length:Int))<(x3.length:Int) then (law12_Make.j3 k x0 x3 x4 ((rd_T79 x3 (Int.tmod (wrap64 (Int.tdiv x5 3)) (x3.length:Int))).f0)) else (none)) else (none))) else (law12_Make.j3 k x0 x3 x4 x6)
def law12_Make.j3:Nat→List Int→List (S79)→Int→ByteArray→Option ((List (S79)))
 |0,_,_,_,_=>none
 |k+1,x0,x3,x4,x6=>if 0≤(wrap64 (x4+1)) then (if (wrap64 (x4+1))<(x0.length:Int) then ((r10_Create.f k x3 (strOfNums (([(wrap64 (97+(Int.tmod (wrap64 ((x3.length:Int)*5)) 24))) % 256]:List Int))) x6 (wrap64 (20+(wrap64 (rd x0 (wrap64 (x4+1)))))) (wrap64 (20+(wrap64 (rd x0 (wrap64 (x4+1)))))) (wrap64 (20+(wrap64 (rd x0 (wrap64 (x4+1))))))).bind fun bt7=>(if bt7.2=0 then (if 0≤(wrap64 (x4+2)) then (if (wrap64 (x4+2))<(x0.length:Int) then (if (bt7.1.length:Int)=0 then (none) else (if 0≤(Int.tmod (wrap64 (Int.tdiv (wrap64 (rd x0 (wrap64 (x4+2)))) 16)) (bt7.1.length:Int)) then (if (Int.tmod (wrap64 (Int.tdiv (wrap64 (rd x0 (wrap64 (x4+2)))) 16)) (bt7.1.length:Int))<(bt7.1.length:Int) then ((r10_Admit.f k bt7.1 ((rd_T79 bt7.1 (Int.tmod (wrap64 (Int.tdiv (wrap64 (rd x0 (wrap64 (x4+2)))) 16)) (bt7.1.length:Int))).f0) (Int.tmod (wrap64 (rd x0 (wrap64 (x4+2)))) 16) (wrap64 (Int.tdiv (Int.tmod (wrap64 (rd x0 (wrap64 (x4+2)))) 16) 2)) (Int.tmod (Int.tmod (wrap64 (rd x0 (wrap64 (x4+2)))) 16) 3)).bind fun bt15=>(if bt15.2=0 then (law12_Make.l0 k x0 bt15.1 (wrap64 (x4+3))) else (law12_Make.l0 k x0 bt7.1 (wrap64 (x4+3))))) else (none)) else (none))) else (none)) else (none)) else (law12_Make.l0 k x0 x3 (wrap64 (x4+3))))) else (none)) else (none)
end
def law12_Make.f (k:Nat) (l0:List Int):Option ((List (S79))):=law12_Make.l0 k l0 ([]:List (S79)) 0
theorem law12_Make.mono_l: ∀k,(∀y0 y1 y2,LeO (law12_Make.l0 k y0 y1 y2) (law12_Make.l0 (k+1) y0 y1 y2))∧(∀y0 y1 y2 y3,LeO (law12_Make.j1 k y0 y1 y2 y3) (law12_Make.j1 (k+1) y0 y1 y2 y3))∧(∀y0 y1 y2 y3 y4 y5,LeO (law12_Make.j2 k y0 y1 y2 y3 y4 y5) (law12_Make.j2 (k+1) y0 y1 y2 y3 y4 y5))∧(∀y0 y1 y2 y3,LeO (law12_Make.j3 k y0 y1 y2 y3) (law12_Make.j3 (k+1) y0 y1 y2 y3))
 |0=>⟨fun _ _ _ r h=>by simp [law12_Make.l0] at h,fun _ _ _ _ r h=>by simp [law12_Make.j1] at h,fun _ _ _ _ _ _ r h=>by simp [law12_Make.j2] at h,fun _ _ _ _ r h=>by simp [law12_Make.j3] at h⟩
 |k+1=>by
  obtain ⟨ih0,ih1,ih2,ih3⟩:=law12_Make.mono_l k;refine ⟨?_, ?_, ?_, ?_⟩<;>(intros;first|unfold law12_Make.l0|unfold law12_Make.j1|unfold law12_Make.j2|unfold law12_Make.j3)<;>repeat' with_reducible first|apply ih0|apply ih1|apply ih2|apply ih3|apply r10_Admit.mono|apply r10_Create.mono|apply LeO.refl|apply LeO.none|apply LeO.ite|refine LeO.bind ?_ fun _=> ?_
theorem law12_Make.mono: ∀a0 k,LeO (law12_Make.f k a0) (law12_Make.f (k+1) a0):=by
 intro a0 k;obtain ⟨ih0,ih1,ih2,ih3⟩:=law12_Make.mono_l k;unfold law12_Make.f
 repeat' with_reducible first|apply ih0|apply ih1|apply ih2|apply ih3|apply r10_Admit.mono|apply r10_Create.mono|apply LeO.refl|apply LeO.none|apply LeO.ite|refine LeO.bind ?_ fun _=> ?_
set_option maxHeartbeats 8000000 in
set_option maxRecDepth 100000 in
theorem law12_Make.calls (k:Nat) (A0:Option Addr) (c0:Nat) (l0:List Int) (r:List (S79)) (w:World) (hr0:Kd.C (Kd.int .u8) w A0 l0.length l0) (hc0:l0.length≤c0) (h:law12_Make.f k l0=some r):
  Calls Try.prog 38 #[.slice A0 l0.length c0] w fun e w'=> ∃v0_:Value,e= .returned (v0_)∧Kd.R k79 79 w' w.heap.size (fun _=>True) v0_ r∧Below w.heap.size w w':=by
 have hu37:=Try.underlying37;have hu73:=Try.underlying73;have HR0:=Aside0.mk hr0;have HC0:=Aside0.mk hc0;clear hr0 hc0;have HB:=am_ (Below.refl w.heap.size w);have H:(law12_Make.l0 k l0 ([]:List (S79)) 0)=some r:=h;clear h;have H':=Aside0.mk H;clear H;go_enter Try.func38,Try.ntmps38;go_wp2
 go_loopg [3,4] k (fun kq v3 v4 w'=> ∃(x3_1:List (S79)) (x4_1:Int),v4= .int .i64 x4_1∧Aside0 (law12_Make.l0 kq l0 x3_1 x4_1=some r)∧Aside0 (kq≤k)∧Aside0 (Kd.R k79 79 w' w.heap.size (fun _=>True) v3 x3_1)∧Aside0 (Below w.heap.size w w'))
 case atStart=>exact ⟨(([]:List (S79))),(0),rf_,H',⟨Nat.le_refl _⟩,⟨by first|exact Kd.R_nil _ _ _ _ _|exact Kd.N_nil _ _ _ _ _|exact Kd.V_nil _ _ _ _ _|exact Kd.Q_nil _ _ _ _ _|exact Kd.S_nil _ _ _ _ _⟩,⟨zl0_ HB⟩⟩
 case round=>
  clear H';obtain ⟨x3_1,x4_1,rfl,HA,HK1,HO_3,HB⟩:=hrel
  cases gk with
  |zero=>exact absurd HA.out (by simp [law12_Make.l0])
  |succ k1=>
   have H:=HA.out;clear HA;simp only [law12_Make.l0] at H;have HC2:=Aside0.mk H;clear H;go_upto_region 3 with (fail)
   go_cut [21] (fun v21 wc=> ∃(kq:Nat) (x21_1:Bool),v21= .bool x21_1∧Aside0 (law12_Make.j1 kq l0 x3_1 x4_1 x21_1=some r)∧Aside0 (kq≤k1)∧Aside0 (Kd.R k79 79 wc w.heap.size (fun _=>True) u3 x3_1)∧Aside0 (Below w.heap.size w wc))
   case first=>
    have H:=HC2.out;clear HC2;by_cases c3:(wrap64 (x4_1+2))<(l0.length:Int);rotate_left
    ·rw [if_neg c3] at H;have c3b0:=decide_eq_false c3;clear c3;(first|rw [c3b0]|(simp only [i64_w,i32_w];rw [c3b0])|skip);have H':=Aside0.mk H;clear H;go_wp2
     go_meet
     case rel=>exact ⟨_,(false),rf_,H',⟨by have:=HK1.out;first|omega|exact Nat.le_refl _⟩,am_ (zr_ HO_3),⟨zl0_ HB⟩⟩
    rw [if_pos c3] at H;have c3b0:=decide_eq_true c3;clear c3;(first|rw [c3b0]|(simp only [i64_w,i32_w];rw [c3b0])|skip);have H':=Aside0.mk H;clear H;obtain ⟨Ao4,co4,eo4⟩:=Kd.R_slice HO_3.out;subst eo4;go_wp2
    go_meet
    case rel=>exact ⟨_,(decide ((x3_1.length:Int)<24)),rf_,H',⟨by have:=HK1.out;first|omega|exact Nat.le_refl _⟩,am_ (zr_ HO_3),⟨zl0_ HB⟩⟩
   case rest=>
    clear HC2;obtain ⟨kq,x21_1,rfl,HA,HJ1,HO_3,HB⟩:=hcut
    cases kq with
    |zero=>exact absurd HA.out (by simp [law12_Make.j1])
    |succ kj1=>
     have H:=HA.out;clear HA;simp only [law12_Make.j1] at H;by_cases c5:x21_1=true;rotate_left
     ·replace c5:=Bool.eq_false_iff.mpr c5;subst c5;rw [if_neg (show¬(false=true) by decide)] at H;obtain rfl:=Option.some.inj H;go_wp2
      go_ret
      exact ⟨_,er_,zr_ HO_3,zl0_ HB⟩

     subst c5;rw [if_pos rfl] at H;replace H:=zif_ H;obtain ⟨c6,H⟩:=H;replace c6:=decide_eq_true c6;replace H:=zif_ H;obtain ⟨c7,H⟩:=H;replace c7:=decide_eq_true c7;have HC8:=Aside0.mk H;clear H;obtain ⟨p1,q1,ad1,e1,hx1_0⟩:=zat_ (Kd.at_int HR0.out x4_1);cases e1;replace hx1_0:=zx_ HB hx1_0;go_upto_region 7 with (fail)
     go_cut [36] (fun v36 wc=> ∃(kq:Nat) (x36_7:Bool),v36= .bool x36_7∧Aside0 (law12_Make.j2 kq l0 x3_1 x4_1 (wrap64 (rd l0 x4_1)) (⟨#[]⟩:ByteArray) x36_7=some r)∧Aside0 (kq≤kj1)∧Aside0 (Kd.R k79 79 wc w.heap.size (fun _=>True) u3 x3_1)∧Aside0 (Below w.heap.size w wc))
     case first=>
      have H:=HC8.out;clear HC8;by_cases c9:(x3_1.length:Int)>0
      ·rw [if_pos c9] at H;have c9b0:decide (0<(x3_1.length:Int))=true:=decide_eq_true c9;have c9b1:decide (0<x3_1.length)=true:=decide_eq_true (by omega);clear c9;(first|rw [c9b0]|(simp only [i64_w,i32_w];rw [c9b0])|skip);have H':=Aside0.mk H;clear H;obtain ⟨Ao10,co10,eo10⟩:=Kd.R_slice HO_3.out;subst eo10;go_wp2
       go_meet
       case rel=>exact ⟨_,(decide ((Int.tmod (wrap64 (rd l0 x4_1)) 3)>0)),rf_,H',⟨by have:=HK1.out;have:=HJ1.out;first|omega|exact Nat.le_refl _⟩,am_ (zr_ HO_3),⟨zl0_ HB⟩⟩
      rw [if_neg c9] at H;have c9b0:decide (0<(x3_1.length:Int))=false:=decide_eq_false c9;have c9b1:decide (0<x3_1.length)=false:=decide_eq_false (by omega);clear c9;(first|rw [c9b0]|(simp only [i64_w,i32_w];rw [c9b0])|skip);have H':=Aside0.mk H;clear H;obtain ⟨Ao11,co11,eo11⟩:=Kd.R_slice HO_3.out;subst eo11;go_wp2
      go_meet
      case rel=>exact ⟨_,(false),rf_,H',⟨by have:=HK1.out;have:=HJ1.out;first|omega|exact Nat.le_refl _⟩,am_ (zr_ HO_3),⟨zl0_ HB⟩⟩
     case rest=>
      clear HC8;obtain ⟨kq,x36_7,rfl,HA,HJ7,HO_3,HB⟩:=hcut
      cases kq with
      |zero=>exact absurd HA.out (by simp [law12_Make.j2])
      |succ kj7=>
       have H:=HA.out;clear HA;simp only [law12_Make.j2] at H;have HC12:=Aside0.mk H;clear H;go_upto_if 36 with (fail)
       go_cut [6] (fun v6 wc=> ∃(kq:Nat) (x6_11:ByteArray),v6= .string x6_11∧Aside0 (law12_Make.j3 kq l0 x3_1 x4_1 x6_11=some r)∧Aside0 (kq≤kj7)∧Aside0 (Kd.R k79 79 wc w.heap.size (fun _=>True) u3 x3_1)∧Aside0 (Below w.heap.size w wc))
       case first=>
        have H:=HC12.out;clear HC12;by_cases c13:x36_7=true;rotate_left
        ·replace c13:=Bool.eq_false_iff.mpr c13;subst c13;rw [if_neg (show¬(false=true) by decide)] at H;have H':=Aside0.mk H;clear H;go_wp2
         go_meet
         case rel=>exact ⟨_,((⟨#[]⟩:ByteArray)),rf_,H',⟨by have:=HK1.out;have:=HJ1.out;have:=HJ7.out;first|omega|exact Nat.le_refl _⟩,am_ (zr_ HO_3),⟨zl0_ HB⟩⟩
        subst c13;rw [if_pos rfl] at H;by_cases c14:(x3_1.length:Int)=0
        ·rw [if_pos c14] at H;exact absurd H (by simp)
        rw [if_neg c14] at H;have c14b0:=beq_eq_false_iff_ne.mpr c14;have c14b1:=bne_iff_ne.mpr c14;have c14b2: ¬(x3_1=[]):=fun h_=>c14 (by rw [h_];rfl)
        (first|rw [c14b0]|(simp only [i64_w,i32_w];rw [c14b0])|skip);obtain ⟨ji15,hji15⟩: ∃j_:Int,(Int.tmod (wrap64 (Int.tdiv (wrap64 (rd l0 x4_1)) 3)) (x3_1.length:Int))=j_:=⟨_,rfl⟩;replace H:(if 0≤(ji15) then (if (ji15)<(x3_1.length:Int) then (law12_Make.j3 kj7 l0 x3_1 x4_1 ((rd_T79 x3_1 (ji15)).f0)) else (none)) else (none))=some r:=by first|(rw [hji15] at H;exact H)|(simp only [hji15] at H ⊢;exact H)
        replace H:=zif_ H;obtain ⟨c16,H⟩:=H;replace c16:=decide_eq_true c16;replace H:=zif_ H;obtain ⟨c17,H⟩:=H;replace c17:=decide_eq_true c17;have H':=Aside0.mk H;clear H;obtain ⟨Ao18,co18,eo18⟩:=Kd.R_slice HO_3.out;subst eo18;obtain ⟨p2,q2,ad2,e2,hx2_0,hx2_1,hx2_2,hx2_3,hx2_4,hx2_5,hx2_6,hx2_7,hx2_8,hx2_9,hx2_10,hx2_11⟩:=zat_ (at_T79 (Kd.R_reads' HO_3.out).2.2 (ji15));cases e2;go_wp2
        go_meet
        case rel=>exact ⟨_,((rd_T79 x3_1 (ji15)).f0),(by first|rfl|(simp;done)|(simp only [←hji15]<;>(first|rfl|simp))|(simp [*];done)),H',⟨by have:=HK1.out;have:=HJ1.out;have:=HJ7.out;first|omega|exact Nat.le_refl _⟩,am_ (zr_ HO_3),⟨zl0_ HB⟩⟩
       case rest=>
        clear HC12;obtain ⟨kq,x6_11,rfl,HA,HJ11,HO_3,HB⟩:=hcut
        cases kq with
        |zero=>exact absurd HA.out (by simp [law12_Make.j3])
        |succ kj11=>
         have H:=HA.out;clear HA;simp only [law12_Make.j3] at H;obtain ⟨ji19,hji19⟩: ∃j_:Int,(wrap64 (x4_1+1))=j_:=⟨_,rfl⟩;replace H:(if 0≤(ji19) then (if (ji19)<(l0.length:Int) then ((r10_Create.f kj11 x3_1 (strOfNums (([(wrap64 (97+(Int.tmod (wrap64 ((x3_1.length:Int)*5)) 24))) % 256]:List Int))) x6_11 (wrap64 (20+(wrap64 (rd l0 (ji19))))) (wrap64 (20+(wrap64 (rd l0 (ji19))))) (wrap64 (20+(wrap64 (rd l0 (ji19)))))).bind fun bt7=>(if bt7.2=0 then (if 0≤(wrap64 (x4_1+2)) then (if (wrap64 (x4_1+2))<(l0.length:Int) then (if (bt7.1.length:Int)=0 then (none) else (if 0≤(Int.tmod (wrap64 (Int.tdiv (wrap64 (rd l0 (wrap64 (x4_1+2)))) 16)) (bt7.1.length:Int)) then (if (Int.tmod (wrap64 (Int.tdiv (wrap64 (rd l0 (wrap64 (x4_1+2)))) 16)) (bt7.1.length:Int))<(bt7.1.length:Int) then ((r10_Admit.f kj11 bt7.1 ((rd_T79 bt7.1 (Int.tmod (wrap64 (Int.tdiv (wrap64 (rd l0 (wrap64 (x4_1+2)))) 16)) (bt7.1.length:Int))).f0) (Int.tmod (wrap64 (rd l0 (wrap64 (x4_1+2)))) 16) (wrap64 (Int.tdiv (Int.tmod (wrap64 (rd l0 (wrap64 (x4_1+2)))) 16) 2)) (Int.tmod (Int.tmod (wrap64 (rd l0 (wrap64 (x4_1+2)))) 16) 3)).bind fun bt15=>(if bt15.2=0 then (law12_Make.l0 kj11 l0 bt15.1 (wrap64 (x4_1+3))) else (law12_Make.l0 kj11 l0 bt7.1 (wrap64 (x4_1+3))))) else (none)) else (none))) else (none)) else (none)) else (law12_Make.l0 kj11 l0 x3_1 (wrap64 (x4_1+3))))) else (none)) else (none))=some r:=by first|(rw [hji19] at H;exact H)|(simp only [hji19] at H ⊢;exact H)
         have hji19w:(IntKind.i64.wrap (x4_1+1))=ji19:=(i64_w _).trans hji19;replace H:=zif_ H;obtain ⟨c20,H⟩:=H;replace c20:=decide_eq_true c20;replace H:=zif_ H;obtain ⟨c21,H⟩:=H;replace c21:=decide_eq_true c21;obtain ⟨y4,hy4⟩: ∃y_:List Int,y_=(([(wrap64 (97+(Int.tmod (wrap64 ((x3_1.length:Int)*5)) 24))) % 256]:List Int)):=⟨_,rfl⟩;(first|replace H:=zsb_ hy4 H|rw [←hy4] at H);have Ny4:=Aside0.mk hy4;clear hy4;replace H:=zbd_ H;obtain ⟨⟨t7,t10⟩,A22,H⟩:=H;try dsimp only at H
         by_cases c23:t10=0;rotate_left
         ·rw [if_neg c23] at H;have c23b0:=beq_eq_false_iff_ne.mpr c23;have c23b1:=bne_iff_ne.mpr c23;have H':=Aside0.mk H;clear H;obtain ⟨p3,q3,ad3,e3,hx3_0⟩:=zat_ (Kd.at_int HR0.out (ji19));obtain rfl:ad1=ad3:=(by injection e3);replace hx3_0:=zx_ HB hx3_0;obtain ⟨Ao59,co59,eo59⟩:=Kd.R_slice HO_3.out;subst eo59
          go_wp2_with (first|((with_reducible refine gate_dst (N:=60) rfl ?_);(try (refine gate_guard (by rfl) ?_;dsimp only));refine Kd.R_lit (Kd.int .u8) _ 5 ?hg (N:=60) ?hd (xs:=([(wrap64 (97+(Int.tmod (wrap64 ((x3_1.length:Int)*5)) 24))) % 256]:List Int)) (inner:=[.int .u8 ((wrap64 (97+(Int.tmod (wrap64 ((x3_1.length:Int)*5)) 24))) % 256)]) (ok:=fun _=>True) (okp:=fun _=>True) ?hr ?hp (fun _ hk=>hk) trivial (Below.refl _ _) (Nat.le_refl _) (by simp) ?_;(case hd=>rfl);(case hg=>rfl);(case hr=>first|(go_simp;done)|(go_simp;rfl));(case hp=>exact (Reps.one (show Kd.M (Kd.int .u8) _ _ _ ((wrap64 (97+(Int.tmod (wrap64 ((x3_1.length:Int)*5)) 24))) % 256) [.int .u8 ((wrap64 (97+(Int.tmod (wrap64 ((x3_1.length:Int)*5)) 24))) % 256)] from rfl) (Reps.none _ _)));intro v5 w60 ho61 hb hg_ hnew_;clear hg_ hnew_;(first|rw [←Ny4.out] at ho61|(simp only [Int.reduceToNat] at ho61;rw [←Ny4.out] at ho61));replace HO_3:=ob_ HO_3 hb;have HO6:=am_ (Kd.R_lower ho61 (below_size (zl0_ HB)));replace HB:=am_ (below_step (zl0_ HB) hb);clear hb ho61;have hcv62:=own_string (P:=Try.prog) Try.underlying33 Try.underlying5 Try.underlying9 (Kd.own_of_R HO6.out))|((with_reducible refine gate_callee (f:=83) rfl ?_);refine goesL_ (some 67) rfl rfl Try.func83 (by kernel_rfl) rfl #[.slice Ao59 x3_1.length co59, .string (strOfNums y4), .string x6_11, .agg #[.int .i64 (wrap64 (20+(wrap64 (rd l0 (ji19))))), .int .i64 (wrap64 (20+(wrap64 (rd l0 (ji19))))), .int .i64 (wrap64 (20+(wrap64 (rd l0 (ji19)))))]] rfl (by (try simp only [List.map_toArray,List.map_cons,List.map_nil]);first|done|(simp only [hji19];rfl)|rfl|(simp only [List.length_drop,List.length_take];rfl)) ?_;(with_reducible refine (r10_Create.calls kj11 _ _ x3_1 (strOfNums y4) x6_11 (wrap64 (20+(wrap64 (rd l0 (ji19))))) (wrap64 (20+(wrap64 (rd l0 (ji19))))) (wrap64 (20+(wrap64 (rd l0 (ji19))))) t7 t10 _ ?side1 ?side2 A22.out).mono ?_);(case side1=>exact zc_ (Kd.R_reads' HO_3.out).2.2);(case side2=>exact (Kd.R_reads' HO_3.out).2.1);rintro e w63 ⟨v8,rfl,ho0,hb⟩;refine ⟨_,rfl, ?_⟩;replace HO6:=ob_ HO6 hb;have HO9:=am_ (Kd.R_lower (Kd.R_new' ho0 (Kd.R_lt (zr_ HO_3))) (below_size (zl0_ HB)));replace HO_3:=am_ (Kd.R_elder' (zr_ HO_3) (Kd.R_base ho0) hb);replace HB:=am_ (below_step (zl0_ HB) hb);(try clear hb ho0))|((with_reducible refine gate_dst (N:=8) rfl ?_);(try (refine gate_guard (by rfl) ?_;dsimp only));refine bx_ (N:=8) (cs:=#[.slice none 0 0, .int .i64 0]) (t:=73) ?_;intro gb11 hg w64 hbox hb;replace HO_3:=ob_ HO_3 hb;replace HO6:=ob_ HO6 hb;replace HO9:=ob_ HO9 hb;have BK11:=am_ (hbox);have GW11:=am_ ((zg0_ HB hg:w.heap.size≤gb11));have GE11:=am_ ((zg0_ HB hg:w.heap.size≤gb11));replace HB:=am_ (below_step (zl0_ HB) hb);clear hb hbox hg;obtain ⟨Ao65,co65,eo65⟩:=Kd.R_slice HO9.out;subst eo65;obtain ⟨_,_⟩:=x2_ BK11;obtain ⟨_,_⟩:=ff2_ BK11))
          go_roundg kj11
          case measure=>have:=HK1.out;have:=HJ1.out;have:=HJ7.out;have:=HJ11.out;omega
          case rel=>exact ⟨(x3_1),(wrap64 (x4_1+3)),rf_,H',⟨by have:=HK1.out;have:=HJ1.out;have:=HJ7.out;have:=HJ11.out;omega⟩,⟨zy_ HO_3 BK11⟩,⟨zl1_ HB GE11⟩⟩
         rw [if_pos c23] at H;have c23b0:=beq_iff_eq.mpr c23;have c23b1:=bne_eq_false_iff_eq.mpr c23;clear c23;obtain ⟨ji24,hji24⟩: ∃j_:Int,(wrap64 (x4_1+2))=j_:=⟨_,rfl⟩;replace H:(if 0≤(ji24) then (if (ji24)<(l0.length:Int) then (if (t7.length:Int)=0 then (none) else (if 0≤(Int.tmod (wrap64 (Int.tdiv (wrap64 (rd l0 (ji24))) 16)) (t7.length:Int)) then (if (Int.tmod (wrap64 (Int.tdiv (wrap64 (rd l0 (ji24))) 16)) (t7.length:Int))<(t7.length:Int) then ((r10_Admit.f kj11 t7 ((rd_T79 t7 (Int.tmod (wrap64 (Int.tdiv (wrap64 (rd l0 (ji24))) 16)) (t7.length:Int))).f0) (Int.tmod (wrap64 (rd l0 (ji24))) 16) (wrap64 (Int.tdiv (Int.tmod (wrap64 (rd l0 (ji24))) 16) 2)) (Int.tmod (Int.tmod (wrap64 (rd l0 (ji24))) 16) 3)).bind fun bt15=>(if bt15.2=0 then (law12_Make.l0 kj11 l0 bt15.1 (wrap64 (x4_1+3))) else (law12_Make.l0 kj11 l0 t7 (wrap64 (x4_1+3))))) else (none)) else (none))) else (none)) else (none))=some r:=by first|(rw [hji24] at H;exact H)|(simp only [hji24] at H ⊢;exact H)
         (try rw [hji24] at A22);have hji24w:(IntKind.i64.wrap (x4_1+2))=ji24:=(i64_w _).trans hji24;replace H:=zif_ H;obtain ⟨c25,H⟩:=H;replace c25:=decide_eq_true c25;replace H:=zif_ H;obtain ⟨c26,H⟩:=H;replace c26:=decide_eq_true c26;by_cases c27:(t7.length:Int)=0
         ·rw [if_pos c27] at H;exact absurd H (by simp)
         rw [if_neg c27] at H;have c27b0:=beq_eq_false_iff_ne.mpr c27;have c27b1:=bne_iff_ne.mpr c27;have c27b2: ¬(t7=[]):=fun h_=>c27 (by rw [h_];rfl)
         obtain ⟨ji28,hji28⟩: ∃j_:Int,(Int.tmod (wrap64 (Int.tdiv (wrap64 (rd l0 (ji24))) 16)) (t7.length:Int))=j_:=⟨_,rfl⟩;replace H:(if 0≤(ji28) then (if (ji28)<(t7.length:Int) then ((r10_Admit.f kj11 t7 ((rd_T79 t7 (ji28)).f0) (Int.tmod (wrap64 (rd l0 (ji24))) 16) (wrap64 (Int.tdiv (Int.tmod (wrap64 (rd l0 (ji24))) 16) 2)) (Int.tmod (Int.tmod (wrap64 (rd l0 (ji24))) 16) 3)).bind fun bt15=>(if bt15.2=0 then (law12_Make.l0 kj11 l0 bt15.1 (wrap64 (x4_1+3))) else (law12_Make.l0 kj11 l0 t7 (wrap64 (x4_1+3))))) else (none)) else (none))=some r:=by first|(rw [hji28] at H;exact H)|(simp only [hji28] at H ⊢;exact H)
         (try rw [hji28] at A22);replace H:=zif_ H;obtain ⟨c29,H⟩:=H;replace c29:=decide_eq_true c29;replace H:=zif_ H;obtain ⟨c30,H⟩:=H;replace c30:=decide_eq_true c30;replace H:=zbd_ H;obtain ⟨⟨t15,t18⟩,A31,H⟩:=H;try dsimp only at H
         by_cases c32:t18=0;rw [if_pos c32] at H;have c32b0:=beq_iff_eq.mpr c32;have c32b1:=bne_eq_false_iff_eq.mpr c32;clear c32;have H':=Aside0.mk H;clear H;obtain ⟨p3,q3,ad3,e3,hx3_0⟩:=zat_ (Kd.at_int HR0.out (ji19));obtain rfl:ad1=ad3:=(by injection e3);replace hx3_0:=zx_ HB hx3_0;obtain ⟨Ao33,co33,eo33⟩:=Kd.R_slice HO_3.out;subst eo33;rotate_left;rw [if_neg c32] at H;have c32b0:=beq_eq_false_iff_ne.mpr c32;have c32b1:=bne_iff_ne.mpr c32;have H':=Aside0.mk H;clear H;obtain ⟨p3,q3,ad3,e3,hx3_0⟩:=zat_ (Kd.at_int HR0.out (ji19));obtain rfl:ad1=ad3:=(by injection e3);replace hx3_0:=zx_ HB hx3_0;obtain ⟨Ao33,co33,eo46⟩:=Kd.R_slice HO_3.out;subst eo46;rotate_left
         all_goals (
         go_wp2_with (first|((with_reducible refine gate_dst (N:=60) rfl ?_);(try (refine gate_guard (by rfl) ?_;dsimp only));refine Kd.R_lit (Kd.int .u8) _ 5 ?hg (N:=60) ?hd (xs:=([(wrap64 (97+(Int.tmod (wrap64 ((x3_1.length:Int)*5)) 24))) % 256]:List Int)) (inner:=[.int .u8 ((wrap64 (97+(Int.tmod (wrap64 ((x3_1.length:Int)*5)) 24))) % 256)]) (ok:=fun _=>True) (okp:=fun _=>True) ?hr ?hp (fun _ hk=>hk) trivial (Below.refl _ _) (Nat.le_refl _) (by simp) ?_;(case hd=>rfl);(case hg=>rfl);(case hr=>first|(go_simp;done)|(go_simp;rfl));(case hp=>exact (Reps.one (show Kd.M (Kd.int .u8) _ _ _ ((wrap64 (97+(Int.tmod (wrap64 ((x3_1.length:Int)*5)) 24))) % 256) [.int .u8 ((wrap64 (97+(Int.tmod (wrap64 ((x3_1.length:Int)*5)) 24))) % 256)] from rfl) (Reps.none _ _)));intro v5 w34 ho35 hb hg_ hnew_;clear hg_ hnew_;(first|rw [←Ny4.out] at ho35|(simp only [Int.reduceToNat] at ho35;rw [←Ny4.out] at ho35));replace HO_3:=ob_ HO_3 hb;have HO6:=am_ (Kd.R_lower ho35 (below_size (zl0_ HB)));replace HB:=am_ (below_step (zl0_ HB) hb);clear hb ho35;have hcv36:=own_string (P:=Try.prog) Try.underlying33 Try.underlying5 Try.underlying9 (Kd.own_of_R HO6.out))|((with_reducible refine gate_callee (f:=83) rfl ?_);refine goesL_ (some 67) rfl rfl Try.func83 (by kernel_rfl) rfl #[.slice Ao33 x3_1.length co33, .string (strOfNums y4), .string x6_11, .agg #[.int .i64 (wrap64 (20+(wrap64 (rd l0 (ji19))))), .int .i64 (wrap64 (20+(wrap64 (rd l0 (ji19))))), .int .i64 (wrap64 (20+(wrap64 (rd l0 (ji19)))))]] rfl (by (try simp only [List.map_toArray,List.map_cons,List.map_nil]);first|done|(simp only [hji19];rfl)|rfl|(simp only [List.length_drop,List.length_take];rfl)) ?_;(with_reducible refine (r10_Create.calls kj11 _ _ x3_1 (strOfNums y4) x6_11 (wrap64 (20+(wrap64 (rd l0 (ji19))))) (wrap64 (20+(wrap64 (rd l0 (ji19))))) (wrap64 (20+(wrap64 (rd l0 (ji19))))) t7 t10 _ ?side1 ?side2 A22.out).mono ?_);(case side1=>exact zc_ (Kd.R_reads' HO_3.out).2.2);(case side2=>exact (Kd.R_reads' HO_3.out).2.1);rintro e w37 ⟨v8,rfl,ho0,hb⟩;refine ⟨_,rfl, ?_⟩;replace HO6:=ob_ HO6 hb;have HO9:=am_ (Kd.R_lower (Kd.R_new' ho0 (Kd.R_lt (zr_ HO_3))) (below_size (zl0_ HB)));replace HO_3:=am_ (Kd.R_elder' (zr_ HO_3) (Kd.R_base ho0) hb);replace HB:=am_ (below_step (zl0_ HB) hb);(try clear hb ho0))|((with_reducible refine gate_dst (N:=8) rfl ?_);(try (refine gate_guard (by rfl) ?_;dsimp only));refine bx_ (N:=8) (cs:=#[.slice none 0 0, .int .i64 0]) (t:=73) ?_;intro gb11 hg w38 hbox hb;replace HO_3:=ob_ HO_3 hb;replace HO6:=ob_ HO6 hb;replace HO9:=ob_ HO9 hb;have BK11:=am_ (hbox);have GW11:=am_ ((zg0_ HB hg:w.heap.size≤gb11));have GE11:=am_ ((zg0_ HB hg:w.heap.size≤gb11));replace HB:=am_ (below_step (zl0_ HB) hb);clear hb hbox hg;obtain ⟨Ao39,co39,eo39⟩:=Kd.R_slice HO9.out;subst eo39;obtain ⟨_,_,_,_⟩:=y2_ BK11;have p12:0≤((ji24):Int):=of_decide_eq_true zq_;have q12:(ji24)<(l0.length:Int):=of_decide_eq_true zq_;obtain ⟨ad12,e12,hx12_0⟩:=Kd.at_int HR0.out (ji24) p12 q12;obtain rfl:ad1=ad12:=(by injection e12);have hn12_0:ad1.block≠gb11:=Nat.ne_of_lt (Nat.lt_of_lt_of_le (by have:=World.block_lt_of_cell? _ _ hx12_0;first|rwa [add_block] at this|exact this) GW11.out);have hn12_1:ad1.block≠gb11:=Nat.ne_of_lt (Nat.lt_of_lt_of_le (by have:=World.block_lt_of_cell? _ _ hx12_0;first|rwa [add_block] at this|exact this) GW11.out);replace hx12_0:=zx_ HB hx12_0;replace hx12_0:=(cell_far (p:=⟨gb11,0,none⟩) (by first|(rw [add_block];exact hn12_0)|(show (Addr.add _ _).block≠_;rw [add_block];exact hn12_0)|exact hn12_0) (.slice Ao39 t7.length co39)).trans hx12_0;replace hx12_0:=(cell_far (p:=⟨gb11,1,none⟩) (by first|(rw [add_block];exact hn12_1)|(show (Addr.add _ _).block≠_;rw [add_block];exact hn12_1)|exact hn12_1) (.int .i64 t10)).trans hx12_0;clear hn12_0;clear hn12_1;replace p12:=eq_true p12;replace q12:=eq_true q12;have p13:0≤((ji24):Int):=of_decide_eq_true zq_;have q13:(ji24)<(l0.length:Int):=of_decide_eq_true zq_;obtain ⟨ad13,e13,hx13_0⟩:=Kd.at_int HR0.out (ji24) p13 q13;obtain rfl:ad1=ad13:=(by injection e13);have hn13_0:ad1.block≠gb11:=Nat.ne_of_lt (Nat.lt_of_lt_of_le (by have:=World.block_lt_of_cell? _ _ hx13_0;first|rwa [add_block] at this|exact this) GW11.out);have hn13_1:ad1.block≠gb11:=Nat.ne_of_lt (Nat.lt_of_lt_of_le (by have:=World.block_lt_of_cell? _ _ hx13_0;first|rwa [add_block] at this|exact this) GW11.out);replace hx13_0:=zx_ HB hx13_0;replace hx13_0:=(cell_far (p:=⟨gb11,0,none⟩) (by first|(rw [add_block];exact hn13_0)|(show (Addr.add _ _).block≠_;rw [add_block];exact hn13_0)|exact hn13_0) (.slice Ao39 t7.length co39)).trans hx13_0;replace hx13_0:=(cell_far (p:=⟨gb11,1,none⟩) (by first|(rw [add_block];exact hn13_1)|(show (Addr.add _ _).block≠_;rw [add_block];exact hn13_1)|exact hn13_1) (.int .i64 t10)).trans hx13_0;clear hn13_0;clear hn13_1;replace p13:=eq_true p13;replace q13:=eq_true q13;have p14:0≤((ji28):Int):=of_decide_eq_true zq_;have q14:(ji28)<(t7.length:Int):=of_decide_eq_true zq_;obtain ⟨ad14,e14,hx14_0,hx14_1,hx14_2,hx14_3,hx14_4,hx14_5,hx14_6,hx14_7,hx14_8,hx14_9,hx14_10,hx14_11⟩:=at_T79 (Kd.R_reads' HO9.out).2.2 (ji28) p14 q14;cases e14;have hn14_0:ad14.block≠gb11:=Kd.own_blk (Kd.R_ne HO9.out BK11.out (by decide));have hn14_1:ad14.block≠gb11:=Kd.own_blk (Kd.R_ne HO9.out BK11.out (by decide));replace hx14_0:=(cell_far (p:=⟨gb11,0,none⟩) (by first|(rw [add_block];exact hn14_0)|(show (Addr.add _ _).block≠_;rw [add_block];exact hn14_0)|exact hn14_0) (.slice (some ad14) t7.length co39)).trans hx14_0;replace hx14_1:=(cell_far (p:=⟨gb11,0,none⟩) (by first|(rw [add_block];exact hn14_0)|(show (Addr.add _ _).block≠_;rw [add_block];exact hn14_0)|exact hn14_0) (.slice (some ad14) t7.length co39)).trans hx14_1;replace hx14_2:=(cell_far (p:=⟨gb11,0,none⟩) (by first|(rw [add_block];exact hn14_0)|(show (Addr.add _ _).block≠_;rw [add_block];exact hn14_0)|exact hn14_0) (.slice (some ad14) t7.length co39)).trans hx14_2;replace hx14_3:=(cell_far (p:=⟨gb11,0,none⟩) (by first|(rw [add_block];exact hn14_0)|(show (Addr.add _ _).block≠_;rw [add_block];exact hn14_0)|exact hn14_0) (.slice (some ad14) t7.length co39)).trans hx14_3;replace hx14_4:=(cell_far (p:=⟨gb11,0,none⟩) (by first|(rw [add_block];exact hn14_0)|(show (Addr.add _ _).block≠_;rw [add_block];exact hn14_0)|exact hn14_0) (.slice (some ad14) t7.length co39)).trans hx14_4;replace hx14_5:=(cell_far (p:=⟨gb11,0,none⟩) (by first|(rw [add_block];exact hn14_0)|(show (Addr.add _ _).block≠_;rw [add_block];exact hn14_0)|exact hn14_0) (.slice (some ad14) t7.length co39)).trans hx14_5;replace hx14_6:=(cell_far (p:=⟨gb11,0,none⟩) (by first|(rw [add_block];exact hn14_0)|(show (Addr.add _ _).block≠_;rw [add_block];exact hn14_0)|exact hn14_0) (.slice (some ad14) t7.length co39)).trans hx14_6;replace hx14_7:=(cell_far (p:=⟨gb11,0,none⟩) (by first|(rw [add_block];exact hn14_0)|(show (Addr.add _ _).block≠_;rw [add_block];exact hn14_0)|exact hn14_0) (.slice (some ad14) t7.length co39)).trans hx14_7;replace hx14_8:=(cell_far (p:=⟨gb11,0,none⟩) (by first|(rw [add_block];exact hn14_0)|(show (Addr.add _ _).block≠_;rw [add_block];exact hn14_0)|exact hn14_0) (.slice (some ad14) t7.length co39)).trans hx14_8;replace hx14_9:=(cell_far (p:=⟨gb11,0,none⟩) (by first|(rw [add_block];exact hn14_0)|(show (Addr.add _ _).block≠_;rw [add_block];exact hn14_0)|exact hn14_0) (.slice (some ad14) t7.length co39)).trans hx14_9;replace hx14_10:=(cell_far (p:=⟨gb11,0,none⟩) (by first|(rw [add_block];exact hn14_0)|(show (Addr.add _ _).block≠_;rw [add_block];exact hn14_0)|exact hn14_0) (.slice (some ad14) t7.length co39)).trans hx14_10;replace hx14_11:=(cell_far (p:=⟨gb11,0,none⟩) (by first|(rw [add_block];exact hn14_0)|(show (Addr.add _ _).block≠_;rw [add_block];exact hn14_0)|exact hn14_0) (.slice (some ad14) t7.length co39)).trans hx14_11;replace hx14_0:=(cell_far (p:=⟨gb11,1,none⟩) (by first|(rw [add_block];exact hn14_1)|(show (Addr.add _ _).block≠_;rw [add_block];exact hn14_1)|exact hn14_1) (.int .i64 t10)).trans hx14_0;replace hx14_1:=(cell_far (p:=⟨gb11,1,none⟩) (by first|(rw [add_block];exact hn14_1)|(show (Addr.add _ _).block≠_;rw [add_block];exact hn14_1)|exact hn14_1) (.int .i64 t10)).trans hx14_1;replace hx14_2:=(cell_far (p:=⟨gb11,1,none⟩) (by first|(rw [add_block];exact hn14_1)|(show (Addr.add _ _).block≠_;rw [add_block];exact hn14_1)|exact hn14_1) (.int .i64 t10)).trans hx14_2;replace hx14_3:=(cell_far (p:=⟨gb11,1,none⟩) (by first|(rw [add_block];exact hn14_1)|(show (Addr.add _ _).block≠_;rw [add_block];exact hn14_1)|exact hn14_1) (.int .i64 t10)).trans hx14_3;replace hx14_4:=(cell_far (p:=⟨gb11,1,none⟩) (by first|(rw [add_block];exact hn14_1)|(show (Addr.add _ _).block≠_;rw [add_block];exact hn14_1)|exact hn14_1) (.int .i64 t10)).trans hx14_4;replace hx14_5:=(cell_far (p:=⟨gb11,1,none⟩) (by first|(rw [add_block];exact hn14_1)|(show (Addr.add _ _).block≠_;rw [add_block];exact hn14_1)|exact hn14_1) (.int .i64 t10)).trans hx14_5;replace hx14_6:=(cell_far (p:=⟨gb11,1,none⟩) (by first|(rw [add_block];exact hn14_1)|(show (Addr.add _ _).block≠_;rw [add_block];exact hn14_1)|exact hn14_1) (.int .i64 t10)).trans hx14_6;replace hx14_7:=(cell_far (p:=⟨gb11,1,none⟩) (by first|(rw [add_block];exact hn14_1)|(show (Addr.add _ _).block≠_;rw [add_block];exact hn14_1)|exact hn14_1) (.int .i64 t10)).trans hx14_7;replace hx14_8:=(cell_far (p:=⟨gb11,1,none⟩) (by first|(rw [add_block];exact hn14_1)|(show (Addr.add _ _).block≠_;rw [add_block];exact hn14_1)|exact hn14_1) (.int .i64 t10)).trans hx14_8;replace hx14_9:=(cell_far (p:=⟨gb11,1,none⟩) (by first|(rw [add_block];exact hn14_1)|(show (Addr.add _ _).block≠_;rw [add_block];exact hn14_1)|exact hn14_1) (.int .i64 t10)).trans hx14_9;replace hx14_10:=(cell_far (p:=⟨gb11,1,none⟩) (by first|(rw [add_block];exact hn14_1)|(show (Addr.add _ _).block≠_;rw [add_block];exact hn14_1)|exact hn14_1) (.int .i64 t10)).trans hx14_10;replace hx14_11:=(cell_far (p:=⟨gb11,1,none⟩) (by first|(rw [add_block];exact hn14_1)|(show (Addr.add _ _).block≠_;rw [add_block];exact hn14_1)|exact hn14_1) (.int .i64 t10)).trans hx14_11;clear hn14_0;clear hn14_1;replace p14:=eq_true p14;replace q14:=eq_true q14)|((with_reducible refine gate_callee (f:=84) rfl ?_);refine goesL_ (some 102) rfl rfl Try.func84 (by kernel_rfl) rfl #[.slice (some ad14) t7.length co39, .string ((rd_T79 t7 (ji28)).f0), .agg #[.int .i64 (Int.tmod (wrap64 (rd l0 (ji24))) 16), .int .i64 (wrap64 (Int.tdiv (Int.tmod (wrap64 (rd l0 (ji24))) 16) 2)), .int .i64 (Int.tmod (Int.tmod (wrap64 (rd l0 (ji24))) 16) 3)]] rfl (by (try simp only [List.map_toArray,List.map_cons,List.map_nil]);first|done|(simp only [hji24,hji28];rfl)|rfl|(simp only [List.length_drop,List.length_take];rfl)) ?_;(with_reducible refine (r10_Admit.calls kj11 _ _ t7 ((rd_T79 t7 (ji28)).f0) (Int.tmod (wrap64 (rd l0 (ji24))) 16) (wrap64 (Int.tdiv (Int.tmod (wrap64 (rd l0 (ji24))) 16) 2)) (Int.tmod (Int.tmod (wrap64 (rd l0 (ji24))) 16) 3) t15 t18 _ ?side1 ?side2 A31.out).mono ?_);(case side1=>refine (Kd.R_reads' (e:=79) (base:=w.heap.size) (ok:=fun k_=>(True∧some k_≠(.slice Ao33 x3_1.length co33:Value).ownBlock)) (n:=t7.length) (c:=co39) ?_).2.2;exact (by refine zt_ ?_;exact (zv2_ HO9 BK11)));(case side2=>exact (Kd.R_reads' HO9.out).2.1);rintro e w41 ⟨v16,rfl,ho0,hb⟩;refine ⟨_,rfl, ?_⟩;replace HO6:=am_ (Kd.R_below (by refine zt_ ?_;exact (zv2_ HO6 BK11)) hb);have HO17:=am_ (Kd.R_lower (Kd.R_new' (Kd.R_new' ho0 (Kd.R_lt (by refine zt_ ?_;exact (zv2_ HO_3 BK11)))) (Kd.R_lt (by refine zt_ ?_;exact (zv2_ HO9 BK11)))) (below_size (zl1_ HB GE11)));replace HO_3:=am_ (Kd.R_elder' (by refine zt_ ?_;exact (zv2_ HO_3 BK11)) (Kd.R_base ho0) hb);replace HO9:=am_ (Kd.R_elder' (by refine zt_ ?_;exact (zv2_ HO9 BK11)) (Kd.R_base ho0) hb);replace BK11:=am_ (blk_below (g:=gb11) (o:= .cells #[.slice (some ad14) t7.length co39, .int .i64 t10] 73 (0,0)) (zw_ BK11) hb);replace HB:=am_ (below_step (zl1_ HB GE11) hb);(try clear hb ho0))|((with_reducible refine gate_dst (N:=11) rfl ?_);(try (refine gate_guard (by rfl) ?_;dsimp only));refine bx_ (N:=11) (cs:=#[.slice none 0 0, .int .i64 0]) (t:=73) ?_;intro gb19 hg w42 hbox hb;replace HO_3:=ob_ HO_3 hb;replace HO6:=ob_ HO6 hb;replace HO9:=ob_ HO9 hb;replace HO17:=ob_ HO17 hb;have BK19:=am_ (hbox);have GE19:=am_ ((zg1_ HB GE11 hg:w.heap.size≤gb19));replace HB:=am_ (below_step (zl1_ HB GE11) hb);have NB11_19:=am_ ((zn_ BK11 hg:gb11≠gb19));have NB19_11:=am_ ((zm_ BK11 hg:gb19≠gb11));replace BK11:=bb_ BK11 hb;clear hb hbox hg;obtain ⟨Ao43,co43,eo43⟩:=Kd.R_slice HO17.out;subst eo43;have:=NB19_11.out;have:=NB11_19.out;obtain ⟨_,_⟩:=x2_ BK19;obtain ⟨_,_⟩:=ff2_ BK19))
         go_roundg kj11
         case measure=>have:=HK1.out;have:=HJ1.out;have:=HJ7.out;have:=HJ11.out;omega)
         ·case rel=>exact ⟨(t15),(wrap64 (x4_1+3)),rf_,H',⟨by have:=HK1.out;have:=HJ1.out;have:=HJ7.out;have:=HJ11.out;omega⟩,⟨zy_ HO17 BK19⟩,⟨zl2_ HB GE11 GE19⟩⟩
         ·case rel=>exact ⟨(t7),(wrap64 (x4_1+3)),rf_,H',⟨by have:=HK1.out;have:=HJ1.out;have:=HJ7.out;have:=HJ11.out;omega⟩,⟨zy_ HO9 BK19⟩,⟨zl2_ HB GE11 GE19⟩⟩
def law18_Loose.l0:Nat→List (S79)→List (S84)→Int→Option ((List (S84)))
 |0,_,_,_=>none
 |k+1,x0,x3,x4=>if x4<(x0.length:Int) then (if 0≤x4 then (if x3.length<2199023255552 then (law18_Loose.l0 k x0 (x3++ [(⟨(rd_T79 x0 x4).f0,(rd_T79 x0 x4).f1,(⟨(rd_T79 x0 x4).f2.f0,(rd_T79 x0 x4).f2.f1,(rd_T79 x0 x4).f2.f2⟩:S37),(rd_T79 x0 x4).f5⟩:S84)]) (wrap64 (x4+1))) else (none)) else (none)) else (some x3)
def law18_Loose.f (k:Nat) (l0:List (S79)):Option ((List (S84))):=law18_Loose.l0 k l0 ([]:List (S84)) 0
theorem law18_Loose.mono_l: ∀k,(∀y0 y1 y2,LeO (law18_Loose.l0 k y0 y1 y2) (law18_Loose.l0 (k+1) y0 y1 y2))
 |0=>fun _ _ _ r h=>by simp [law18_Loose.l0] at h
 |k+1=>by
  have ih0:=law18_Loose.mono_l k;intro y0 y1 y2;unfold law18_Loose.l0
  repeat' with_reducible first|apply ih0|apply LeO.refl|apply LeO.none|apply LeO.ite|refine LeO.bind ?_ fun _=> ?_
theorem law18_Loose.mono: ∀a0 k,LeO (law18_Loose.f k a0) (law18_Loose.f (k+1) a0):=by
 intro a0 k;have ih0:=law18_Loose.mono_l k;unfold law18_Loose.f
 repeat' with_reducible first|apply ih0|apply LeO.refl|apply LeO.none|apply LeO.ite|refine LeO.bind ?_ fun _=> ?_
def law18_Loose.T5:Bool×List (List Nat×List Nat):=(true,[([],[]),([],[]),([],[]),([1,2],[1,2]),([3],[3]),([4],[4]),([],[]),([],[]),([6,7],[6,7]),([8],[8]),([9],[9]),([],[]),([],[]),([11,12],[11,12]),([13],[13]),([14],[14]),([],[]),([],[]),([16,17],[16,17]),([18],[18]),([19],[19]),([5,10,15,20],[5,10,15,20]),([21],[21]),([0,22],[0,22]),([23,23,0,1,2,3,4,5,6,7,8,9,10,11,12,13,14,15,16,17,18,19,20,21,22,23],[0,23])])
def law18_Loose.B5:List Nat:=[0,0,0,6,14,30,0,0,192,448,960,0,0,6144,14336,30720,0,0,196608,458752,983040,2097150,4194302,8388607,16777215]
theorem law18_Loose.tab5:rtab .any (opsOf Try.f40 5)=law18_Loose.T5:=by kernel_rfl
theorem law18_Loose.bits5:waitsOk law18_Loose.T5.2 law18_Loose.B5=true:=by kernel_rfl
set_option maxHeartbeats 8000000 in
set_option maxRecDepth 100000 in
theorem law18_Loose.calls (k:Nat) (A0:Option Addr) (c0:Nat) (l0:List (S79)) (r:List (S84)) (w:World) (hr0:Kd.C k79 w A0 l0.length l0) (hc0:l0.length≤c0) (h:law18_Loose.f k l0=some r):
  Calls Try.prog 40 #[.slice A0 l0.length c0] w fun e w'=> ∃v0_:Value,e= .returned (v0_)∧Kd.R k84 84 w' w.heap.size (fun _=>True) v0_ r∧Below w.heap.size w w':=by
 have hu37:=Try.underlying37;have hu84:=Try.underlying84;have HR0:=Aside0.mk hr0;have HC0:=Aside0.mk hc0;clear hr0 hc0;have HB:=am_ (Below.refl w.heap.size w);have H:(law18_Loose.l0 k l0 ([]:List (S84)) 0)=some r:=h;clear h;have H':=Aside0.mk H;clear H;go_enter Try.func40,Try.ntmps40;go_wp2
 go_loopg [3,4] k (fun kq v3 v4 w'=> ∃(x3_1:List (S84)) (x4_1:Int),v4= .int .i64 x4_1∧Aside0 (law18_Loose.l0 kq l0 x3_1 x4_1=some r)∧Aside0 (kq≤k)∧Aside0 (Kd.R k84 84 w' w.heap.size (fun _=>True) v3 x3_1)∧Aside0 (Below w.heap.size w w'))
 case atStart=>exact ⟨(([]:List (S84))),(0),rf_,H',⟨Nat.le_refl _⟩,⟨by first|exact Kd.R_nil _ _ _ _ _|exact Kd.N_nil _ _ _ _ _|exact Kd.V_nil _ _ _ _ _|exact Kd.Q_nil _ _ _ _ _|exact Kd.S_nil _ _ _ _ _⟩,⟨zl0_ HB⟩⟩
 case round=>
  clear H';obtain ⟨x3_1,x4_1,rfl,HA,HK1,HO_3,HB⟩:=hrel
  cases gk with
  |zero=>exact absurd HA.out (by simp [law18_Loose.l0])
  |succ k1=>
   have H:=HA.out;clear HA;simp only [law18_Loose.l0] at H;by_cases c2:x4_1<(l0.length:Int);rotate_left
   ·rw [if_neg c2] at H;have c2b0:=decide_eq_false c2;clear c2;obtain rfl:=Option.some.inj H;go_wp2
    go_ret
    exact ⟨_,er_,zr_ HO_3,zl0_ HB⟩

   rw [if_pos c2] at H;have c2b0:=decide_eq_true c2;clear c2;replace H:=zif_ H;obtain ⟨c3,H⟩:=H;replace c3:=decide_eq_true c3;replace H:=zif_ H;obtain ⟨c4,H⟩:=H;have LMc4:=Aside0.mk c4;clear c4;obtain ⟨y5,hy5⟩: ∃y_:List (S84),y_=(x3_1++ [(⟨(rd_T79 l0 x4_1).f0,(rd_T79 l0 x4_1).f1,(⟨(rd_T79 l0 x4_1).f2.f0,(rd_T79 l0 x4_1).f2.f1,(rd_T79 l0 x4_1).f2.f2⟩:S37),(rd_T79 l0 x4_1).f5⟩:S84)]):=⟨_,rfl⟩;(first|replace H:=zsb_ hy5 H|rw [←hy5] at H);have Ny5:=Aside0.mk hy5;clear hy5;have H':=Aside0.mk H;clear H;try go_wp2
   replace HO_3:=am_ (Kd.R_drew HO_3.out);replace HB:=am_ (below_drew1 HB.out);have p1:0≤(x4_1:Int):=of_decide_eq_true zq_;have q1:x4_1<(l0.length:Int):=of_decide_eq_true zq_;obtain ⟨ad1,e1,hx1_0,hx1_1,hx1_2,hx1_3,hx1_4,hx1_5,hx1_6,hx1_7,hx1_8,hx1_9,hx1_10,hx1_11⟩:=at_T79 HR0.out x4_1 p1 q1;have hw1_11:=hx1_11;have hw1_4:=hx1_4;have hw1_3:=hx1_3;have hw1_2:=hx1_2;have hw1_1:=hx1_1;have hw1_0:=hx1_0;cases e1;replace hx1_0:=zx12_ HB hx1_0 hx1_1 hx1_2 hx1_3 hx1_4 hx1_5 hx1_6 hx1_7 hx1_8 hx1_9 hx1_10 hx1_11;clear hx1_1 hx1_2 hx1_3 hx1_4 hx1_5 hx1_6 hx1_7 hx1_8 hx1_9 hx1_10 hx1_11;obtain ⟨hx1_0,hx1_1,hx1_2,hx1_3,hx1_4,hx1_5,hx1_6,hx1_7,hx1_8,hx1_9,hx1_10,hx1_11⟩:=hx1_0;replace p1:=eq_true p1;replace q1:=eq_true q1;have p2:0≤(x4_1:Int):=of_decide_eq_true zq_;have q2:x4_1<(l0.length:Int):=of_decide_eq_true zq_;obtain ⟨ad2,e2,hx2_0,hx2_1,hx2_2,hx2_3,hx2_4,hx2_5,hx2_6,hx2_7,hx2_8,hx2_9,hx2_10,hx2_11⟩:=at_T79 HR0.out x4_1 p2 q2;obtain rfl:ad1=ad2:=(by injection e2);replace hx2_0:=zx12_ HB hx2_0 hx2_1 hx2_2 hx2_3 hx2_4 hx2_5 hx2_6 hx2_7 hx2_8 hx2_9 hx2_10 hx2_11;clear hx2_1 hx2_2 hx2_3 hx2_4 hx2_5 hx2_6 hx2_7 hx2_8 hx2_9 hx2_10 hx2_11;obtain ⟨hx2_0,hx2_1,hx2_2,hx2_3,hx2_4,hx2_5,hx2_6,hx2_7,hx2_8,hx2_9,hx2_10,hx2_11⟩:=hx2_0;replace p2:=eq_true p2;replace q2:=eq_true q2;have p3:0≤(x4_1:Int):=of_decide_eq_true zq_;have q3:x4_1<(l0.length:Int):=of_decide_eq_true zq_;obtain ⟨ad3,e3,hx3_0,hx3_1,hx3_2,hx3_3,hx3_4,hx3_5,hx3_6,hx3_7,hx3_8,hx3_9,hx3_10,hx3_11⟩:=at_T79 HR0.out x4_1 p3 q3
   obtain rfl:ad1=ad3:=(by injection e3);replace hx3_0:=zx12_ HB hx3_0 hx3_1 hx3_2 hx3_3 hx3_4 hx3_5 hx3_6 hx3_7 hx3_8 hx3_9 hx3_10 hx3_11;clear hx3_1 hx3_2 hx3_3 hx3_4 hx3_5 hx3_6 hx3_7 hx3_8 hx3_9 hx3_10 hx3_11;obtain ⟨hx3_0,hx3_1,hx3_2,hx3_3,hx3_4,hx3_5,hx3_6,hx3_7,hx3_8,hx3_9,hx3_10,hx3_11⟩:=hx3_0;replace p3:=eq_true p3;replace q3:=eq_true q3;have p4:0≤(x4_1:Int):=of_decide_eq_true zq_;have q4:x4_1<(l0.length:Int):=of_decide_eq_true zq_;obtain ⟨ad4,e4,hx4_0,hx4_1,hx4_2,hx4_3,hx4_4,hx4_5,hx4_6,hx4_7,hx4_8,hx4_9,hx4_10,hx4_11⟩:=at_T79 HR0.out x4_1 p4 q4;obtain rfl:ad1=ad4:=(by injection e4);replace hx4_0:=zx12_ HB hx4_0 hx4_1 hx4_2 hx4_3 hx4_4 hx4_5 hx4_6 hx4_7 hx4_8 hx4_9 hx4_10 hx4_11;clear hx4_1 hx4_2 hx4_3 hx4_4 hx4_5 hx4_6 hx4_7 hx4_8 hx4_9 hx4_10 hx4_11;obtain ⟨hx4_0,hx4_1,hx4_2,hx4_3,hx4_4,hx4_5,hx4_6,hx4_7,hx4_8,hx4_9,hx4_10,hx4_11⟩:=hx4_0;replace p4:=eq_true p4;replace q4:=eq_true q4
   refine start_ (n:=25) (S:=fun w'=>w'.cell? (ad1.add ((x4_1).toNat*12))=some (.string ((rd_T79 l0 x4_1).f0))∧w'.cell? ⟨(ad1.add ((x4_1).toNat*12)).block,(ad1.add ((x4_1).toNat*12)).off+1,none⟩=some (.string ((rd_T79 l0 x4_1).f1))∧w'.cell? ⟨(ad1.add ((x4_1).toNat*12)).block,(ad1.add ((x4_1).toNat*12)).off+2,none⟩=some (.int .i64 ((rd_T79 l0 x4_1).f2.f0))∧w'.cell? ⟨(ad1.add ((x4_1).toNat*12)).block,(ad1.add ((x4_1).toNat*12)).off+3,none⟩=some (.int .i64 ((rd_T79 l0 x4_1).f2.f1))∧w'.cell? ⟨(ad1.add ((x4_1).toNat*12)).block,(ad1.add ((x4_1).toNat*12)).off+4,none⟩=some (.int .i64 ((rd_T79 l0 x4_1).f2.f2))∧w'.cell? ⟨(ad1.add ((x4_1).toNat*12)).block,(ad1.add ((x4_1).toNat*12)).off+11,none⟩=some (.int .i64 ((rd_T79 l0 x4_1).f5))) (ds:=[]) (bt_ 25 0) (by kernel_rfl) rfl rfl ⟨(zx_ HB hw1_0:),(zx_ HB hw1_1:),(zx_ HB hw1_2:),(zx_ HB hw1_3:),(zx_ HB hw1_4:),(zx_ HB hw1_11:)⟩ (fun hHeld=> ?_);refine with_tabW law18_Loose.tab5 law18_Loose.bits5 (fun HT_ HW_=> ?_);generalize wr.drew=w5 at HO_3 HB hx1_0 hx1_1 hx1_10 hx1_11 hx1_2 hx1_3 hx1_4 hx1_5 hx1_6 hx1_7 hx1_8 hx1_9 hx2_0 hx2_1 hx2_10 hx2_11 hx2_2 hx2_3 hx2_4 hx2_5 hx2_6 hx2_7 hx2_8 hx2_9 hx3_0 hx3_1 hx3_10 hx3_11 hx3_2 hx3_3 hx3_4 hx3_5 hx3_6 hx3_7 hx3_8 hx3_9 hx4_0 hx4_1 hx4_10 hx4_11 hx4_2 hx4_3 hx4_4 hx4_5 hx4_6 hx4_7 hx4_8 hx4_9 hHeld ⊢;refine ru_ 0 HT_ ?_;refine ru_ 1 HT_ ?_;refine ru_ 2 HT_ ?_;refine ru_ 3 HT_ ?_;refine ru_ 4 HT_ ?_;refine ru_ 6 HT_ ?_;refine ru_ 7 HT_ ?_;refine ru_ 8 HT_ ?_;refine ru_ 9 HT_ ?_
   refine ru_ 11 HT_ ?_;refine ru_ 12 HT_ ?_;refine ru_ 13 HT_ ?_;refine ru_ 14 HT_ ?_;refine ru_ 16 HT_ ?_;refine ru_ 17 HT_ ?_;refine ru_ 18 HT_ ?_;refine ru_ 19 HT_ ?_;refine rk_ 5 HT_ HW_ hHeld ?_;refine rk_ 10 HT_ HW_ hHeld ?_;refine rk_ 15 HT_ HW_ hHeld ?_;refine rk_ 20 HT_ HW_ hHeld ?_;refine ru_ 21 HT_ ?_;refine on_ (i:=22) (N:=some 33) (bt_ 25 8388607) HT_ (fun K hK=> ?_);refine value_ (w1:= ?_) (v:= ?_) (by rfl) rfl ?_ ?_
   rotate_left 2
   ·go_simp
    constructor
    ·rfl
    rfl
   refine hK.out _ _ ⟨(World.cell?_alloc_lt _ _ _ (World.block_lt_of_cell? _ _ ((zx_ HB hw1_0)))).trans ((zx_ HB hw1_0)),(World.cell?_alloc_lt _ _ _ (World.block_lt_of_cell? _ _ ((zx_ HB hw1_1)))).trans ((zx_ HB hw1_1)),(World.cell?_alloc_lt _ _ _ (World.block_lt_of_cell? _ _ ((zx_ HB hw1_2)))).trans ((zx_ HB hw1_2)),(World.cell?_alloc_lt _ _ _ (World.block_lt_of_cell? _ _ ((zx_ HB hw1_3)))).trans ((zx_ HB hw1_3)),(World.cell?_alloc_lt _ _ _ (World.block_lt_of_cell? _ _ ((zx_ HB hw1_4)))).trans ((zx_ HB hw1_4)),(World.cell?_alloc_lt _ _ _ (World.block_lt_of_cell? _ _ ((zx_ HB hw1_11)))).trans ((zx_ HB hw1_11))⟩ (fun hHeld=> ?_);clear hK K;refine no_ (N:=some 33) ?_;refine on_ (i:=23) (N:=some 34) (bt_ 25 16777215) HT_ (fun K hK=> ?_);refine Kd.R_append_step k84 (w0:=w) w.heap.size (by rfl) (.tmp 11) (.tmp 33) 53 84 (.agg #[(.string ⟨#[]⟩),(.string ⟨#[]⟩),(.int .i64 0),(.int .i64 0),(.int .i64 0),(.int .i64 0)]) 64 rfl Try.underlying53 info84 rfl (by decide) (by omega) u3 x3_1 (⟨(rd_T79 l0 x4_1).f0,(rd_T79 l0 x4_1).f1,(⟨(rd_T79 l0 x4_1).f2.f0,(rd_T79 l0 x4_1).f2.f1,(rd_T79 l0 x4_1).f2.f2⟩:S37),(rd_T79 l0 x4_1).f5⟩:S84) [.string ((rd_T79 l0 x4_1).f0), .string ((rd_T79 l0 x4_1).f1), .int .i64 ((rd_T79 l0 x4_1).f2.f0), .int .i64 ((rd_T79 l0 x4_1).f2.f1), .int .i64 ((rd_T79 l0 x4_1).f2.f2), .int .i64 ((rd_T79 l0 x4_1).f5)] (fun _=>True) (fun _=>False) rfl rfl ?aP (fun _ hk=>hk.elim) ?aF ?aO ?aB ?aS ?aL ?_
   (case aP=>exact k84_mkM _ _ _ (⟨(rd_T79 l0 x4_1).f0,(rd_T79 l0 x4_1).f1,(⟨(rd_T79 l0 x4_1).f2.f0,(rd_T79 l0 x4_1).f2.f1,(rd_T79 l0 x4_1).f2.f2⟩:S37),(rd_T79 l0 x4_1).f5⟩:S84));(case aB=>exact (zl0_ HB));(case aF=>exact (fun _ _=>trivial));(case aO=>exact (zr_ HO_3));(case aS=>exact (below_size (zl0_ HB)));(case aL=>have:=LMc4.out;omega);intro v6 w6 ho hb hg hat;rw [←Ny5.out] at ho;have n0_:=am_ (hb);have n1_:=am_ (ho);clear HB HO_3;have HB:=n0_;have HO7:=n1_;clear n0_ n1_ ho hb hg hat;refine hK.out _ _ ⟨(zx_ HB hw1_0:),(zx_ HB hw1_1:),(zx_ HB hw1_2:),(zx_ HB hw1_3:),(zx_ HB hw1_4:),(zx_ HB hw1_11:)⟩ (fun hHeld=> ?_);clear hK K;refine no_ (N:=some 34) ?_;refine ru_ 24 HT_ ?_;refine done_ (done_of HT_.out (by kernel_rfl)) ?_;try go_wp2
   go_roundg k1
   case measure=>have:=HK1.out;omega
   case rel=>exact ⟨(y5),(wrap64 (x4_1+1)),rf_,H',⟨by have:=HK1.out;omega⟩,am_ (zr_ HO7),⟨zl0_ HB⟩⟩
def law23_awake.f (k:Nat):Option (Bool):=(apply_Next.f ([]:List (S84)) ([]:List (S76)) 0).bind fun bt1=>((some (([(⟨1,(⟨#[97]⟩:ByteArray),(⟨#[]⟩:ByteArray),(⟨0,0,0⟩:S37)⟩:S76)]:List (S76)):List (S76))).bind fun y9=>((apply_Next.f ([]:List (S84)) y9 0).bind fun bt13=>((apply_Try.f k ([]:List (S79)) ([]:List (S84)) y9 0).bind fun bt21=>(if bt1.2.2.2.2.2.2=true then (none) else (if bt13.2.2.2.2.2.2=true then (if bt13.2.1.toList=([97]:List UInt8) then ((law1_Num.f bt21.2.2.2.2).bind fun t33=>(if t33=0 then (if (bt21.1.length:Int)=1 then (if (bt21.2.1.length:Int)=1 then (some ((bt21.2.2.1.length:Int)==0)) else (none)) else (none)) else (none))) else (none)) else (none))))))
theorem law23_awake.mono: ∀k,LeO (law23_awake.f k) (law23_awake.f (k+1)):=by
 intro k;unfold law23_awake.f
 repeat' with_reducible first|apply apply_Try.mono|apply LeO.refl|apply LeO.none|apply LeO.ite|refine LeO.bind ?_ fun _=> ?_
set_option maxHeartbeats 80000000 in
set_option maxRecDepth 100000 in
theorem law23_awake.calls (k:Nat) (r:Bool) (w:World) (h:law23_awake.f k=some r):
  Calls Try.prog 58 #[] w fun e w'=>e= .returned (.bool r)∧Below w.heap.size w w':=by
 have hu63:=Try.underlying63;have hu76:=Try.underlying76;have HB:=am_ (Below.refl w.heap.size w);have H:((apply_Next.f ([]:List (S84)) ([]:List (S76)) 0).bind fun bt1=>((some (([(⟨1,(⟨#[97]⟩:ByteArray),(⟨#[]⟩:ByteArray),(⟨0,0,0⟩:S37)⟩:S76)]:List (S76)):List (S76))).bind fun y9=>((apply_Next.f ([]:List (S84)) y9 0).bind fun bt13=>((apply_Try.f k ([]:List (S79)) ([]:List (S84)) y9 0).bind fun bt21=>(if bt1.2.2.2.2.2.2=true then (none) else (if bt13.2.2.2.2.2.2=true then (if bt13.2.1.toList=([97]:List UInt8) then ((law1_Num.f bt21.2.2.2.2).bind fun t33=>(if t33=0 then (if (bt21.1.length:Int)=1 then (if (bt21.2.1.length:Int)=1 then (some ((bt21.2.2.1.length:Int)==0)) else (none)) else (none)) else (none))) else (none)) else (none)))))))=some r:=h;clear h;replace H:=zbd_ H;obtain ⟨⟨t1,t2,t3,t4,t5,t6,t7⟩,A1,H⟩:=H;try dsimp only at H
 obtain ⟨y9,hy9⟩: ∃y_:List (S76),y_=(([(⟨1,(⟨#[97]⟩:ByteArray),(⟨#[]⟩:ByteArray),(⟨0,0,0⟩:S37)⟩:S76)]:List (S76))):=⟨_,rfl⟩;(first|replace H:=zsb_ hy9 H|rw [←hy9] at H);have Ny9:=Aside0.mk hy9;clear hy9;replace H:=zbd_ H;obtain ⟨⟨t13,t14,t15,t16,t17,t18,t19⟩,A2,H⟩:=H;try dsimp only at H
 replace H:=zbd_ H;obtain ⟨⟨t21,t24,t27,t30,t31⟩,A3,H⟩:=H;try dsimp only at H
 by_cases c4:t7=true
 ·subst c4;have H1:(none)=some r:=by rw [if_pos rfl] at H;exact H
  cases H1
 replace c4:=Bool.eq_false_iff.mpr c4;subst c4;rw [if_neg (show¬(false=true) by decide)] at H;by_cases c28:t19=true;rotate_left
 ·replace c28:=Bool.eq_false_iff.mpr c28;subst c28;have H1:(none)=some r:=by rw [if_neg (show¬(false=true) by decide)] at H;exact H
  cases H1

 subst c28;rw [if_pos rfl] at H;by_cases c29:t14.toList=([97]:List UInt8);rotate_left
 ·rw [if_neg c29] at H;cases H
 rw [if_pos c29] at H;have c29b0:=beq_iff_eq.mpr c29;have c29b1:=bne_eq_false_iff_eq.mpr c29;clear c29;replace H:=zbd_ H;obtain ⟨t33,A30,H⟩:=H;try dsimp only at H
 by_cases c31:t33=0;rotate_left
 ·rw [if_neg c31] at H;cases H
 rw [if_pos c31] at H;have c31b0:=beq_iff_eq.mpr c31;have c31b1:=bne_eq_false_iff_eq.mpr c31;clear c31;by_cases c32:(t21.length:Int)=1;rotate_left
 ·rw [if_neg c32] at H;cases H
 rw [if_pos c32] at H;have c32b0:=beq_iff_eq.mpr c32;have c32b1:=bne_eq_false_iff_eq.mpr c32;clear c32;by_cases c33:(t24.length:Int)=1;rotate_left
 ·rw [if_neg c33] at H;cases H
 rw [if_pos c33] at H;have c33b0:=beq_iff_eq.mpr c33;have c33b1:=bne_eq_false_iff_eq.mpr c33;clear c33;obtain rfl:=Option.some.inj H;go_enter Try.func58,Try.ntmps58
 go_wp2_with (first|((with_reducible refine gate_callee (f:=59) rfl ?_);refine gl_ (some 11) Try.func59 #[.agg #[.slice none 0 0, .slice none 0 0, .int .i64 0]] ?_;(refine (apply_Next.calls _ _ ([]:List (S84)) _ _ ([]:List (S76)) 0 t1 t2 t3 t4 t5 t6 false _ ?side1 ?side2 ?side3 ?side4 A1.out).mono ?_);(case side1=>exact Kd.C_nil _ _);(case side2=>exact Nat.le_refl _);(case side3=>exact Kd.C_nil _ _);(case side4=>exact Nat.le_refl _);rintro e w34 ⟨rfl,hb⟩;refine ⟨_,rfl, ?_⟩;replace HB:=am_ (below_step (zl0_ HB) hb);(try clear hb))|((with_reducible refine gate_dst (N:=1) rfl ?_);(try (refine gate_guard (by rfl) ?_;dsimp only));refine bx_ (N:=1) (cs:=#[.int .i64 0, .string (⟨#[]⟩:ByteArray), .string (⟨#[]⟩:ByteArray), .int .i64 0, .int .i64 0, .int .i64 0]) (t:=76) ?_;intro gb8 hg w35 hbox hb;have BK8:=am_ (hbox);have GE8:=am_ ((zg0_ HB hg:w.heap.size≤gb8));replace HB:=am_ (below_step (zl0_ HB) hb);clear hb hbox hg;obtain ⟨_,_,_,_,_,_⟩:=x6_ BK8;obtain ⟨_,_,_,_,_,_⟩:=ff6_ BK8)|((with_reducible refine gate_dst (N:=15) rfl ?_);(try (refine gate_guard (by rfl) ?_;dsimp only));refine Kd.R_lit k76 _ 76 ?hg (N:=15) ?hd (xs:=([(⟨1,(⟨#[97]⟩:ByteArray),(⟨#[]⟩:ByteArray),(⟨0,0,0⟩:S37)⟩:S76)]:List (S76))) (inner:=[.int .i64 1, .string (⟨#[97]⟩:ByteArray), .string (⟨#[]⟩:ByteArray), .int .i64 0, .int .i64 0, .int .i64 0]) (ok:=fun _=>True) (okp:=fun _=>True) ?hr ?hp (fun _ hk=>hk) trivial (Below.refl _ _) (Nat.le_refl _) (by simp) ?_;(case hd=>rfl);(case hg=>rfl);(case hr=>first|(go_simp;done)|(go_simp;rfl));(case hp=>exact (Reps.c6 (show Kd.M k76 _ _ _ (⟨1,(⟨#[97]⟩:ByteArray),(⟨#[]⟩:ByteArray),(⟨0,0,0⟩:S37)⟩:S76) [.int .i64 1, .string (⟨#[97]⟩:ByteArray), .string (⟨#[]⟩:ByteArray), .int .i64 0, .int .i64 0, .int .i64 0] from (k76_mkM _ _ _ (⟨1,(⟨#[97]⟩:ByteArray),(⟨#[]⟩:ByteArray),(⟨0,0,0⟩:S37)⟩:S76))) (Reps.none _ _)));intro v10 w37 ho38 hb hg_ hnew_;clear hg_ hnew_;(first|rw [←Ny9.out] at ho38|(simp only [Int.reduceToNat] at ho38;rw [←Ny9.out] at ho38));have HO11:=am_ (Kd.R_lower (Kd.R_newB ho38 (g:=gb8) (o:= .cells #[.int .i64 t1, .string t2, .string t3, .int .i64 t4, .int .i64 t5, .int .i64 t6] 76 (0,0)) (zw_ BK8)) (below_size (zl1_ HB GE8)));replace BK8:=am_ (blk_below (g:=gb8) (o:= .cells #[.int .i64 t1, .string t2, .string t3, .int .i64 t4, .int .i64 t5, .int .i64 t6] 76 (0,0)) (zw_ BK8) hb);replace HB:=am_ (below_step (zl1_ HB GE8) hb);clear hb ho38;obtain ⟨Ao39,co39,eo39⟩:=Kd.R_slice HO11.out;subst eo39)|((with_reducible refine gate_dst (N:=3) rfl ?_);(try (refine gate_guard (by rfl) ?_;dsimp only));refine bx_ (N:=3) (cs:=#[.slice none 0 0, .slice none 0 0, .int .i64 0]) (t:=63) ?_;intro gb12 hg w40 hbox hb;replace HO11:=ob_ HO11 hb;have BK12:=am_ (hbox);have GE12:=am_ ((zg1_ HB GE8 hg:w.heap.size≤gb12));replace HB:=am_ (below_step (zl1_ HB GE8) hb);have NB8_12:=am_ ((zn_ BK8 hg:gb8≠gb12));have NB12_8:=am_ ((zm_ BK8 hg:gb12≠gb8));replace BK8:=bb_ BK8 hb;clear hb hbox hg;have:=NB12_8.out;have:=NB8_12.out;obtain ⟨_,_,_⟩:=x3_ BK12;obtain ⟨_,_,_⟩:=ff3_ BK12)|((with_reducible refine gate_callee (f:=59) rfl ?_);refine gl_ (some 19) Try.func59 #[.agg #[.slice none 0 0, .slice Ao39 y9.length co39, .int .i64 0]] ?_;(refine (apply_Next.calls _ _ ([]:List (S84)) _ _ y9 0 t13 t14 t15 t16 t17 t18 true _ ?side1 ?side2 ?side3 ?side4 A2.out).mono ?_);(case side1=>exact Kd.C_nil _ _);(case side2=>exact Nat.le_refl _);(case side3=>refine (Kd.R_reads' (e:=76) (base:=w.heap.size) (ok:=fun k_=>(True∧k_≠gb8)) (n:=y9.length) (c:=co39) ?_).2.2;exact (by refine zt_ ?_;exact (zv2_ HO11 BK12)));(case side4=>exact (Kd.R_reads' HO11.out).2.1);rintro e w43 ⟨rfl,hb⟩;refine ⟨_,rfl, ?_⟩;replace HO11:=am_ (Kd.R_below (by refine zt_ ?_;exact (zv2_ HO11 BK12)) hb);replace BK8:=am_ (blk_below (g:=gb8) (o:= .cells #[.int .i64 t1, .string t2, .string t3, .int .i64 t4, .int .i64 t5, .int .i64 t6] 76 (0,0)) (zw_ BK8) hb);replace BK12:=am_ (blk_below (g:=gb12) (o:= .cells #[.slice none 0 0, .slice Ao39 y9.length co39, .int .i64 0] 63 (0,0)) (zw_ BK12) hb);replace HB:=am_ (below_step (zl2_ HB GE8 GE12) hb);(try clear hb))|((with_reducible refine gate_dst (N:=4) rfl ?_);(try (refine gate_guard (by rfl) ?_;dsimp only));refine bx_ (N:=4) (cs:=#[.int .i64 0, .string (⟨#[]⟩:ByteArray), .string (⟨#[]⟩:ByteArray), .int .i64 0, .int .i64 0, .int .i64 0]) (t:=76) ?_;intro gb20 hg w44 hbox hb;replace HO11:=am_ (Kd.R_below (Kd.R_elderB (zr_ HO11) gb20 (Nat.le_of_eq hg.symm)) hb);have BK20:=am_ (hbox);have GE20:=am_ ((zg2_ HB GE8 GE12 hg:w.heap.size≤gb20));replace HB:=am_ (below_step (zl2_ HB GE8 GE12) hb);have NB8_20:=am_ ((zn_ BK8 hg:gb8≠gb20));have NB20_8:=am_ ((zm_ BK8 hg:gb20≠gb8));replace BK8:=bb_ BK8 hb;have NB12_20:=am_ ((zn_ BK12 hg:gb12≠gb20));have NB20_12:=am_ ((zm_ BK12 hg:gb20≠gb12));replace BK12:=bb_ BK12 hb;clear hb hbox hg;have:=NB20_8.out;have:=NB8_20.out;have:=NB20_12.out;have:=NB12_20.out;obtain ⟨_,_,_,_,_,_,_,_,_,_,_,_⟩:=y6_ BK20;obtain ⟨_,_,_⟩:=x3_ BK12;obtain ⟨_,_,_⟩:=ff3_ BK12)|((with_reducible refine gate_callee (f:=60) rfl ?_);refine gl_ (some 24) Try.func60 #[.slice none 0 0, .agg #[.slice none 0 0, .slice Ao39 y9.length co39, .int .i64 0]] ?_;(refine (apply_Try.calls k _ _ ([]:List (S79)) _ _ ([]:List (S84)) _ _ y9 0 t21 t24 t27 t30 t31 _ ?side1 ?side2 ?side3 ?side4 ?side5 ?side6 A3.out).mono ?_);(case side1=>exact Kd.C_nil _ _);(case side2=>exact Nat.le_refl _);(case side3=>exact Kd.C_nil _ _);(case side4=>exact Nat.le_refl _);(case side5=>refine (Kd.R_reads' (e:=76) (base:=w.heap.size) (ok:=fun k_=>((True∧k_≠gb8)∧k_≠gb20)) (n:=y9.length) (c:=co39) ?_).2.2;exact (by refine zt_ ?_;exact (zu2_ gb20 HO11)));(case side6=>exact (Kd.R_reads' HO11.out).2.1);rintro e w49 ⟨v22,v25,v28,rfl,ho0,ho1,ho2,hb⟩;refine ⟨_,rfl, ?_⟩;have HO23:=am_ (Kd.R_lower ho0 (below_size (zl3_ HB GE8 GE12 GE20)));have HO26:=am_ (Kd.R_lower ho1 (below_size (zl3_ HB GE8 GE12 GE20)));have HO29:=am_ (Kd.R_lower (Kd.R_newB (Kd.R_newB (Kd.R_new' ho2 (Kd.R_lt (by refine zt_ ?_;exact (zu2_ gb20 HO11)))) (g:=gb8) (o:= .cells #[.int .i64 t1, .string t2, .string t3, .int .i64 t4, .int .i64 t5, .int .i64 t6] 76 (0,0)) (zw_ BK8)) (g:=gb20) (o:= .cells #[.int .i64 t13, .string t14, .string t15, .int .i64 t16, .int .i64 t17, .int .i64 t18] 76 (0,0)) (zw_ BK20)) (below_size (zl3_ HB GE8 GE12 GE20)));replace HO11:=am_ (Kd.R_elder' (by refine zt_ ?_;exact (zu2_ gb20 HO11)) (Kd.R_base ho2) hb);replace BK8:=am_ (blk_below (g:=gb8) (o:= .cells #[.int .i64 t1, .string t2, .string t3, .int .i64 t4, .int .i64 t5, .int .i64 t6] 76 (0,0)) (zw_ BK8) hb);replace BK12:=am_ (blk_below (g:=gb12) (o:= .cells #[.slice none 0 0, .slice Ao39 y9.length co39, .int .i64 0] 63 (0,0)) (zw_ BK12) hb);replace BK20:=am_ (blk_below (g:=gb20) (o:= .cells #[.int .i64 t13, .string t14, .string t15, .int .i64 t16, .int .i64 t17, .int .i64 t18] 76 (0,0)) (zw_ BK20) hb);replace HB:=am_ (below_step (zl3_ HB GE8 GE12 GE20) hb);(try clear hb ho0 ho1 ho2))|((with_reducible refine gate_dst (N:=7) rfl ?_);(try (refine gate_guard (by rfl) ?_;dsimp only));refine bx_ (N:=7) (cs:=#[.slice none 0 0, .slice none 0 0, .int .i64 0]) (t:=63) ?_;intro gb32 hg w50 hbox hb;replace HO11:=ob_ HO11 hb;replace HO23:=ob_ HO23 hb;replace HO26:=ob_ HO26 hb;replace HO29:=ob_ HO29 hb;have BK32:=am_ (hbox);have GE32:=am_ ((zg3_ HB GE8 GE12 GE20 hg:w.heap.size≤gb32));replace HB:=am_ (below_step (zl3_ HB GE8 GE12 GE20) hb);have NB8_32:=am_ ((zn_ BK8 hg:gb8≠gb32));have NB32_8:=am_ ((zm_ BK8 hg:gb32≠gb8));replace BK8:=bb_ BK8 hb;have NB12_32:=am_ ((zn_ BK12 hg:gb12≠gb32));have NB32_12:=am_ ((zm_ BK12 hg:gb32≠gb12));replace BK12:=bb_ BK12 hb;have NB20_32:=am_ ((zn_ BK20 hg:gb20≠gb32));have NB32_20:=am_ ((zm_ BK20 hg:gb32≠gb20));replace BK20:=bb_ BK20 hb;clear hb hbox hg;obtain ⟨Ao51,co51,eo51⟩:=Kd.R_slice HO26.out;subst eo51;have:=NB32_8.out;have:=NB8_32.out;have:=NB32_12.out;have:=NB12_32.out;have:=NB32_20.out;have:=NB20_32.out;obtain ⟨_,_,_,_,_,_⟩:=y3_ BK32;obtain ⟨Ao56,co56,eo56⟩:=Kd.R_slice HO29.out;subst eo56;obtain ⟨_,_,_,_,_,_⟩:=x6_ BK20;obtain ⟨_,_,_,_,_,_⟩:=ff6_ BK20)|(go_at_call 25;(with_reducible refine (law1_Num.calls t31 t33 _ A30.out).mono ?_);rintro e w' ⟨rfl,⟨nd,rfl⟩⟩;obtain ⟨Ao58,co58,eo58⟩:=Kd.R_slice HO23.out;subst eo58))
 go_ret
 exact ⟨er_,zl4_ HB GE8 GE12 GE20 GE32⟩
attribute [local go_sem high] eqA76
mutual
def law23_ApplyEnds.j0:Nat→List Int→List Int→Bool→Option (Bool)
 |0,_,_,_=>none
 |k+1,x0,x1,x26=>if x26=true then ((law23_awake.f k).bind fun t1=>(some t1)) else ((law12_Make.f k x0).bind fun t2=>((law18_Empty.f k t2).bind fun t5=>((law11_Make.f k x1 false).bind fun t8=>((law18_Loose.f k t5).bind fun t11=>((r16_Steps.f k t8 t11 t5).bind fun bt14=>((law18_Loose.f k t5).bind fun t19=>(law23_ApplyEnds.l0 k t5 t8 0 bt14.1 bt14.2 t19 bt14.1 0)))))))
def law23_ApplyEnds.l0:Nat→List (S79)→List (S39)→Int→List (S76)→Int→List (S84)→List (S76)→Int→Option (Bool)
 |0,_,_,_,_,_,_,_,_=>none
 |k+1,x5,x6,x9,x19000,x19001,x23000,x23001,x23002=>if x9<(x19000.length:Int) then ((apply_Next.f x23000 x23001 x23002).bind fun bt23=>((apply_Try.f k x5 x23000 x23001 x23002).bind fun bt31=>(if bt23.2.2.2.2.2.2=true then (if 0≤x9 then (if (!(bt23.1==((rd_T76 x19000 x9).f0))||(!(bt23.2.1.toList==(((rd_T76 x19000 x9).f1).toList))||(!(bt23.2.2.1.toList==(((rd_T76 x19000 x9).f2).toList))||((!(bt23.2.2.2.1==((rd_T76 x19000 x9).f3.f0))||(!(bt23.2.2.2.2.1==((rd_T76 x19000 x9).f3.f1))||(!(bt23.2.2.2.2.2.1==((rd_T76 x19000 x9).f3.f2)))))))))=true then (none) else ((law1_Num.f bt31.2.2.2.2).bind fun t44=>(if t44=0 then (law23_ApplyEnds.l0 k bt31.1 x6 (wrap64 (x9+1)) x19000 x19001 bt31.2.1 bt31.2.2.1 bt31.2.2.2.1) else (none)))) else (none)) else (none)))) else ((apply_Next.f x23000 x23001 x23002).bind fun bt45=>(if bt45.2.2.2.2.2.2=true then (none) else (if (x23000.length:Int)=(x6.length:Int) then (law23_ApplyEnds.j2 k x5 x6 ((x5.length:Int) !=(x6.length:Int)) x23000 x23001 x23002) else (none))))
def law23_ApplyEnds.j2:Nat→List (S79)→List (S39)→Bool→List (S84)→List (S76)→Int→Option (Bool)
 |0,_,_,_,_,_,_=>none
 |k+1,x5,x6,x100,x23000,x23001,x23002=>if x100=true then (none) else (law23_ApplyEnds.l1 k x5 x6 0 x23000 x23001 x23002)
def law23_ApplyEnds.l1:Nat→List (S79)→List (S39)→Int→List (S84)→List (S76)→Int→Option (Bool)
 |0,_,_,_,_,_,_=>none
 |k+1,x5,x6,x17,x23000,x23001,x23002=>if x17<(x6.length:Int) then (if 0≤x17 then ((r10_Find.f k x5 ((rd_T39 x6 x17).f0)).bind fun t54=>(if t54<0 then (none) else (if 0≤t54 then (if t54<(x23000.length:Int) then (if ((rd_T84 x23000 t54).f0).toList=((rd_T39 x6 x17).f0).toList then (law23_ApplyEnds.l1 k x5 x6 (wrap64 (x17+1)) x23000 x23001 x23002) else (none)) else (none)) else (none)))) else (none)) else ((law23_awake.f k).bind fun t57=>(some t57))
end
def law23_ApplyEnds.f (k:Nat) (l0:List Int) (l1:List Int):Option (Bool):=if (l0.length:Int)>60 then (law23_ApplyEnds.j0 k l0 l1 true) else (law23_ApplyEnds.j0 k l0 l1 (decide ((l1.length:Int)>60)))
theorem law23_ApplyEnds.mono_l: ∀k,(∀y0 y1 y2,LeO (law23_ApplyEnds.j0 k y0 y1 y2) (law23_ApplyEnds.j0 (k+1) y0 y1 y2))∧(∀y0 y1 y2 y3 y4 y5 y6 y7,LeO (law23_ApplyEnds.l0 k y0 y1 y2 y3 y4 y5 y6 y7) (law23_ApplyEnds.l0 (k+1) y0 y1 y2 y3 y4 y5 y6 y7))∧(∀y0 y1 y2 y3 y4 y5,LeO (law23_ApplyEnds.j2 k y0 y1 y2 y3 y4 y5) (law23_ApplyEnds.j2 (k+1) y0 y1 y2 y3 y4 y5))∧(∀y0 y1 y2 y3 y4 y5,LeO (law23_ApplyEnds.l1 k y0 y1 y2 y3 y4 y5) (law23_ApplyEnds.l1 (k+1) y0 y1 y2 y3 y4 y5))
 |0=>⟨fun _ _ _ r h=>by simp [law23_ApplyEnds.j0] at h,fun _ _ _ _ _ _ _ _ r h=>by simp [law23_ApplyEnds.l0] at h,fun _ _ _ _ _ _ r h=>by simp [law23_ApplyEnds.j2] at h,fun _ _ _ _ _ _ r h=>by simp [law23_ApplyEnds.l1] at h⟩
 |k+1=>by
  obtain ⟨ih0,ih1,ih2,ih3⟩:=law23_ApplyEnds.mono_l k;refine ⟨?_, ?_, ?_, ?_⟩<;>(intros;first|unfold law23_ApplyEnds.j0|unfold law23_ApplyEnds.l0|unfold law23_ApplyEnds.j2|unfold law23_ApplyEnds.l1)<;>repeat' with_reducible first|apply ih0|apply ih1|apply ih2|apply ih3|apply apply_Try.mono|apply law11_Make.mono|apply law12_Make.mono|apply law18_Empty.mono|apply law18_Loose.mono|apply law23_awake.mono|apply r10_Find.mono|apply r16_Steps.mono|apply LeO.refl|apply LeO.none|apply LeO.ite|refine LeO.bind ?_ fun _=> ?_
theorem law23_ApplyEnds.mono: ∀a0 a1 k,LeO (law23_ApplyEnds.f k a0 a1) (law23_ApplyEnds.f (k+1) a0 a1):=by
 intro a0 a1 k;obtain ⟨ih0,ih1,ih2,ih3⟩:=law23_ApplyEnds.mono_l k;unfold law23_ApplyEnds.f
 repeat' with_reducible first|apply ih0|apply ih1|apply ih2|apply ih3|apply apply_Try.mono|apply law11_Make.mono|apply law12_Make.mono|apply law18_Empty.mono|apply law18_Loose.mono|apply law23_awake.mono|apply r10_Find.mono|apply r16_Steps.mono|apply LeO.refl|apply LeO.none|apply LeO.ite|refine LeO.bind ?_ fun _=> ?_
def law23_ApplyEnds.T12:Bool×List (List Nat×List Nat):=(true,[([],[]),([0],[0]),([1],[1]),([2],[2]),([2],[2]),([4,2],[2,4]),([2],[2]),([5,6,2],[2,5,6]),([7,2],[2,7]),([3,8,2],[2,3,8]),([2,9],[2,9]),([10,2],[10]),([11],[11]),([12,11,11],[11,12]),([13,11],[11,13]),([11,14],[11,14])])
def law23_ApplyEnds.B12:List Nat:=[0,1,3,7,7,23,7,119,247,511,1023,2047,4095,8191,16383,32767]
theorem law23_ApplyEnds.tab12:rtab .any (opsOf Try.f21 12)=law23_ApplyEnds.T12:=by kernel_rfl
theorem law23_ApplyEnds.bits12:waitsOk law23_ApplyEnds.T12.2 law23_ApplyEnds.B12=true:=by kernel_rfl
def law23_ApplyEnds.T23:Bool×List (List Nat×List Nat):=(true,[([],[]),([0],[0]),([1],[1]),([2],[2]),([3,2],[2,3]),([2],[2]),([4,5,2],[2,4,5]),([6,2],[2,6]),([7,2],[2,7]),([2],[2]),([2],[2]),([9,10,2],[2,9,10]),([11,2],[2,11]),([12,2],[2,12]),([8,13,2],[2,8,13]),([2,14],[2,14])])
def law23_ApplyEnds.B23:List Nat:=[0,1,3,7,15,7,63,127,255,7,7,1543,3591,7687,16383,32767]
theorem law23_ApplyEnds.tab23:rtab .any (opsOf Try.f21 23)=law23_ApplyEnds.T23:=by kernel_rfl
theorem law23_ApplyEnds.bits23:waitsOk law23_ApplyEnds.T23.2 law23_ApplyEnds.B23=true:=by kernel_rfl
set_option maxHeartbeats 80000000 in
set_option maxRecDepth 100000 in
theorem law23_ApplyEnds.calls (k:Nat) (A0:Option Addr) (c0:Nat) (l0:List Int) (A1:Option Addr) (c1:Nat) (l1:List Int) (r:Bool) (w:World) (hr0:Kd.C (Kd.int .u8) w A0 l0.length l0) (hc0:l0.length≤c0) (hr1:Kd.C (Kd.int .u8) w A1 l1.length l1) (hc1:l1.length≤c1) (h:law23_ApplyEnds.f k l0 l1=some r):
  Calls Try.prog 21 #[.slice A0 l0.length c0, .slice A1 l1.length c1] w fun e w'=>e= .returned (.bool r)∧Below w.heap.size w w':=by
 have hu51:=Try.underlying51;have hu63:=Try.underlying63;have hu76:=Try.underlying76;have HR0:=Aside0.mk hr0;have HC0:=Aside0.mk hc0;clear hr0 hc0;have HR1:=Aside0.mk hr1;have HC1:=Aside0.mk hc1;clear hr1 hc1;have HB:=am_ (Below.refl w.heap.size w);have H:(if (l0.length:Int)>60 then (law23_ApplyEnds.j0 k l0 l1 true) else (law23_ApplyEnds.j0 k l0 l1 (decide ((l1.length:Int)>60))))=some r:=h;clear h;have HC3:=Aside0.mk H;clear H;go_enter Try.func21,Try.ntmps21;go_upto_region 1 with (fail)
 go_cut [26] (fun v26 wc=> ∃(kq:Nat) (x26_2:Bool),v26= .bool x26_2∧Aside0 (law23_ApplyEnds.j0 kq l0 l1 x26_2=some r)∧Aside0 (kq≤k)∧Aside0 (Below w.heap.size w wc))
 case first=>
  have H:=HC3.out;clear HC3;by_cases c4:(l0.length:Int)>60
  ·rw [if_pos c4] at H;have c4b0:decide (60<(l0.length:Int))=true:=decide_eq_true c4;have c4b1:decide (60<l0.length)=true:=decide_eq_true (by omega);clear c4;(first|rw [c4b0]|(simp only [i64_w,i32_w];rw [c4b0])|skip);have H':=Aside0.mk H;clear H;go_wp2
   go_meet
   case rel=>exact ⟨_,(true),rf_,H',⟨by first|omega|exact Nat.le_refl _⟩,⟨zl0_ HB⟩⟩
  rw [if_neg c4] at H;have c4b0:decide (60<(l0.length:Int))=false:=decide_eq_false c4;have c4b1:decide (60<l0.length)=false:=decide_eq_false (by omega);clear c4;(first|rw [c4b0]|(simp only [i64_w,i32_w];rw [c4b0])|skip);have H':=Aside0.mk H;clear H;go_wp2
  go_meet
  case rel=>exact ⟨_,(decide ((l1.length:Int)>60)),rf_,H',⟨by first|omega|exact Nat.le_refl _⟩,⟨zl0_ HB⟩⟩
 case rest=>
  clear HC3;obtain ⟨kq,x26_2,rfl,HA,HJ2,HB⟩:=hcut
  cases kq with
  |zero=>exact absurd HA.out (by simp [law23_ApplyEnds.j0])
  |succ kj2=>
   have H:=HA.out;clear HA;simp only [law23_ApplyEnds.j0] at H;by_cases c5:x26_2=true
   ·subst c5;rw [if_pos rfl] at H;replace H:=zbd_ H;obtain ⟨t1,A6,H⟩:=H;try dsimp only at H
    obtain rfl:=Option.some.inj H;go_wp2_with (first|((with_reducible refine gate_callee (f:=58) rfl ?_);refine gl_ (some 27) Try.func58 #[] ?_;(with_reducible refine (law23_awake.calls kj2 t1 _ A6.out).mono ?_);rintro e w7 ⟨rfl,hb⟩;refine ⟨_,rfl, ?_⟩;replace HB:=am_ (below_step (zl0_ HB) hb);(try clear hb)))
    go_ret
    exact ⟨er_,zl0_ HB⟩
   replace c5:=Bool.eq_false_iff.mpr c5;subst c5;rw [if_neg (show¬(false=true) by decide)] at H;replace H:=zbd_ H;obtain ⟨t2,A8,H⟩:=H;try dsimp only at H
   replace H:=zbd_ H;obtain ⟨t5,A9,H⟩:=H;try dsimp only at H
   replace H:=zbd_ H;obtain ⟨t8,A10,H⟩:=H;try dsimp only at H
   replace H:=zbd_ H;obtain ⟨t11,A11,H⟩:=H;try dsimp only at H
   replace H:=zbd_ H;obtain ⟨⟨t14,t17⟩,A12,H⟩:=H;try dsimp only at H
   replace H:=zbd_ H;obtain ⟨t19,A13,H⟩:=H;try dsimp only at H
   obtain rfl:t11=t19:=Option.some.inj (A11.out.symm.trans A13.out);have H':=Aside0.mk H;clear H
   try go_wp2_with (first|((with_reducible refine gate_callee (f:=38) rfl ?_);refine gl_ (some 29) Try.func38 #[.slice A0 l0.length c0] ?_;(with_reducible refine (law12_Make.calls kj2 _ _ l0 t2 _ ?side1 ?side2 A8.out).mono ?_);(case side1=>exact zc_ (Kd.C_below HR0.out HB.out));(case side2=>exact HC0.out);rintro e w14 ⟨v3,rfl,ho0,hb⟩;refine ⟨_,rfl, ?_⟩;have HO4:=am_ (Kd.R_lower ho0 (below_size (zl0_ HB)));replace HB:=am_ (below_step (zl0_ HB) hb);(try clear hb ho0);obtain ⟨Ao15,co15,eo15⟩:=Kd.R_slice HO4.out;subst eo15)|((with_reducible refine gate_callee (f:=37) rfl ?_);refine gl_ (some 30) Try.func37 #[.slice Ao15 t2.length co15] ?_;(with_reducible refine (law18_Empty.calls kj2 _ _ t2 t5 _ ?side1 ?side2 A9.out).mono ?_);(case side1=>exact zc_ (Kd.R_reads' HO4.out).2.2);(case side2=>exact (Kd.R_reads' HO4.out).2.1);rintro e w16 ⟨v6,rfl,ho0,hb⟩;refine ⟨_,rfl, ?_⟩;have HO7:=am_ (Kd.R_lower (Kd.R_new' ho0 (Kd.R_lt (zr_ HO4))) (below_size (zl0_ HB)));replace HO4:=am_ (Kd.R_elder' (zr_ HO4) (Kd.R_base ho0) hb);replace HB:=am_ (below_step (zl0_ HB) hb);(try clear hb ho0))|((with_reducible refine gate_callee (f:=32) rfl ?_);refine gl_ (some 32) Try.func32 #[.slice A1 l1.length c1, .bool false] ?_;(with_reducible refine (law11_Make.calls kj2 _ _ l1 false t8 _ ?side1 ?side2 A10.out).mono ?_);(case side1=>exact zc_ (Kd.C_below HR1.out HB.out));(case side2=>exact HC1.out);rintro e w17 ⟨v9,rfl,ho0,hb⟩;refine ⟨_,rfl, ?_⟩;replace HO4:=ob_ HO4 hb;replace HO7:=ob_ HO7 hb;have HO10:=am_ (Kd.R_lower ho0 (below_size (zl0_ HB)));replace HB:=am_ (below_step (zl0_ HB) hb);(try clear hb ho0);obtain ⟨Ao18,co18,eo18⟩:=Kd.R_slice HO7.out;subst eo18)|((with_reducible refine gate_callee (f:=40) rfl ?_);refine gl_ (some 35) Try.func40 #[.slice Ao18 t5.length co18] ?_;(with_reducible refine (law18_Loose.calls kj2 _ _ t5 t11 _ ?side1 ?side2 A11.out).mono ?_);(case side1=>exact zc_ (Kd.R_reads' HO7.out).2.2);(case side2=>exact (Kd.R_reads' HO7.out).2.1);rintro e w19 ⟨v12,rfl,ho0,hb⟩;refine ⟨_,rfl, ?_⟩;replace HO4:=ob_ HO4 hb;replace HO7:=ob_ HO7 hb;replace HO10:=ob_ HO10 hb;have HO13:=am_ (Kd.R_lower ho0 (below_size (zl0_ HB)));replace HB:=am_ (below_step (zl0_ HB) hb);(try clear hb ho0);obtain ⟨Ao20,co20,eo20⟩:=Kd.R_slice HO10.out;subst eo20;obtain ⟨Ao21,co21,eo21⟩:=Kd.R_slice HO13.out;subst eo21)|((with_reducible refine gate_callee (f:=39) rfl ?_);refine gl_ (some 37) Try.func39 #[.slice Ao20 t8.length co20, .slice Ao21 t11.length co21, .slice Ao18 t5.length co18] ?_;(with_reducible refine (r16_Steps.calls kj2 _ _ t8 _ _ t11 _ _ t5 t14 t17 _ ?side1 ?side2 ?side3 ?side4 ?side5 ?side6 A12.out).mono ?_);(case side1=>exact zc_ (Kd.R_reads' HO10.out).2.2);(case side2=>exact (Kd.R_reads' HO10.out).2.1);(case side3=>exact zc_ (Kd.R_reads' HO13.out).2.2);(case side4=>exact (Kd.R_reads' HO13.out).2.1);(case side5=>exact zc_ (Kd.R_reads' HO7.out).2.2);(case side6=>exact (Kd.R_reads' HO7.out).2.1);rintro e w22 ⟨v15,rfl,ho0,hb⟩;refine ⟨_,rfl, ?_⟩;replace HO4:=ob_ HO4 hb;replace HO7:=ob_ HO7 hb;replace HO10:=ob_ HO10 hb;replace HO13:=ob_ HO13 hb;have HO16:=am_ (Kd.R_lower ho0 (below_size (zl0_ HB)));replace HB:=am_ (below_step (zl0_ HB) hb);(try clear hb ho0))|((with_reducible refine gate_dst (N:=7) rfl ?_);(try (refine gate_guard (by rfl) ?_;dsimp only));refine bx_ (N:=7) (cs:=#[.slice none 0 0, .int .i64 0]) (t:=51) ?_;intro gb18 hg w23 hbox hb;replace HO4:=ob_ HO4 hb;replace HO7:=ob_ HO7 hb;replace HO10:=ob_ HO10 hb;replace HO13:=ob_ HO13 hb;replace HO16:=ob_ HO16 hb;have BK18:=am_ (hbox);have GE18:=am_ ((zg0_ HB hg:w.heap.size≤gb18));replace HB:=am_ (below_step (zl0_ HB) hb);clear hb hbox hg;obtain ⟨Ao24,co24,eo24⟩:=Kd.R_slice HO16.out;subst eo24;obtain ⟨_,_⟩:=x2_ BK18;obtain ⟨_,_⟩:=ff2_ BK18))
   have n0_:Aside0 (Kd.R k79 79 ((w23.setCell ⟨gb18,0,none⟩ (.slice Ao24 t14.length co24)).setCell ⟨gb18,1,none⟩ (.int .i64 t17)) w.heap.size (fun k_=>some k_≠(.slice Ao18 t5.length co18:Value).ownBlock) (.slice Ao15 t2.length co15) t2):=⟨by (with_reducible repeat (first|apply Kd.R_alloc|apply Kd.R_drewN|apply Kd.R_drew));exact Kd.R_mono (Kd.R_far (p:=⟨gb18,1,none⟩) (Kd.R_far (p:=⟨gb18,0,none⟩) (Kd.R_types HO4.out BK18.out (by decide)) (fun _ hk=>hk.2) (.slice Ao24 t14.length co24)) (fun _ hk=>hk.2) (.int .i64 t17)) (fun _ hk=>hk.1.2)⟩;have n1_:Aside0 (Kd.R k79 79 ((w23.setCell ⟨gb18,0,none⟩ (.slice Ao24 t14.length co24)).setCell ⟨gb18,1,none⟩ (.int .i64 t17)) w.heap.size (fun k_=>some k_≠(.slice Ao15 t2.length co15:Value).ownBlock) (.slice Ao18 t5.length co18) t5):=⟨by (with_reducible repeat (first|apply Kd.R_alloc|apply Kd.R_drewN|apply Kd.R_drew));exact Kd.R_mono (Kd.R_far (p:=⟨gb18,1,none⟩) (Kd.R_far (p:=⟨gb18,0,none⟩) (Kd.R_types HO7.out BK18.out (by decide)) (fun _ hk=>hk.2) (.slice Ao24 t14.length co24)) (fun _ hk=>hk.2) (.int .i64 t17)) (fun _ hk=>hk.1.2)⟩;have n2_:Aside0 (Kd.R k39 39 ((w23.setCell ⟨gb18,0,none⟩ (.slice Ao24 t14.length co24)).setCell ⟨gb18,1,none⟩ (.int .i64 t17)) w.heap.size (fun _=>True) (.slice Ao20 t8.length co20) t8):=⟨zy_ HO10 BK18⟩;have n3_:Aside0 (Kd.R k84 84 ((w23.setCell ⟨gb18,0,none⟩ (.slice Ao24 t14.length co24)).setCell ⟨gb18,1,none⟩ (.int .i64 t17)) w.heap.size (fun _=>True) (.slice Ao21 t11.length co21) t11):=⟨zy_ HO13 BK18⟩
   have n4_:Aside0 (Kd.R k76 76 ((w23.setCell ⟨gb18,0,none⟩ (.slice Ao24 t14.length co24)).setCell ⟨gb18,1,none⟩ (.int .i64 t17)) w.heap.size (fun _=>True) (.slice Ao24 t14.length co24) t14):=⟨zy_ HO16 BK18⟩;have n5_:Aside0 (((w23.setCell ⟨gb18,0,none⟩ (.slice Ao24 t14.length co24)).setCell ⟨gb18,1,none⟩ (.int .i64 t17)).heap[gb18]?=some (.cells #[.slice Ao24 t14.length co24, .int .i64 t17] 51 (0,0))):=⟨zw_ BK18⟩;have n6_:Aside0 (Below w.heap.size w ((w23.setCell ⟨gb18,0,none⟩ (.slice Ao24 t14.length co24)).setCell ⟨gb18,1,none⟩ (.int .i64 t17))):=⟨zl1_ HB GE18⟩;generalize ((w23.setCell ⟨gb18,0,none⟩ (.slice Ao24 t14.length co24)).setCell ⟨gb18,1,none⟩ (.int .i64 t17))=w26 at n0_ n1_ n2_ n3_ n4_ n5_ n6_ ⊢;have HO4:=n0_;have HO7:=n1_;have HO10:=n2_;have HO13:=n3_;have HO16:=n4_;have BK18:=n5_;have HB:=n6_;clear n0_ n1_ n2_ n3_ n4_ n5_ n6_;replace HO4:=am_ (Kd.R_drew HO4.out);replace HO7:=am_ (Kd.R_drew HO7.out);replace HO10:=am_ (Kd.R_drew HO10.out);replace HO13:=am_ (Kd.R_drew HO13.out);replace HO16:=am_ (Kd.R_drew HO16.out);replace BK18:=am_ (blk_drew BK18.out);replace HB:=am_ (below_drew1 HB.out);refine start_ (n:=7) (S:=fun w'=>w'.cell? ⟨gb18,0,none⟩=some (.slice Ao24 t14.length co24)∧w'.cell? ⟨gb18,1,none⟩=some (.int .i64 t17)) (ds:=[]) (bt_ 7 0) (by kernel_rfl) rfl rfl ⟨(blk_cell BK18.out 0).trans rfl,(blk_cell BK18.out 1).trans rfl⟩ (fun hHeld=> ?_);generalize w26.drew=w27 at HO4 HO7 HO10 HO13 HO16 BK18 HB hHeld ⊢
   refine pure_ (i:=0) (N:=some 38) (v:= ?_) (a':= ?_) (bt_ 7 1) rfl rfl (by kernel_rfl) (fun _ _ _ h=>h) (Or.inl ⟨by rfl, ?_⟩) ?_ ?_;rotate_left
   ·intro w';go_simp
    with_reducible rfl
   rotate_left
   ·simp only [Act.put,List.setIfInBounds_toArray,List.set_cons_zero,List.set_cons_succ,i64_w,i32_w]
    rfl
   refine pure_ (i:=2) (N:=some 40) (v:= ?_) (a':= ?_) (bt_ 7 5) rfl rfl (by kernel_rfl) (fun _ _ _ h=>h) (Or.inl ⟨by rfl, ?_⟩) ?_ ?_;rotate_left
   ·intro w';go_simp
    with_reducible rfl
   rotate_left
   ·simp only [Act.put,List.setIfInBounds_toArray,List.set_cons_zero,List.set_cons_succ,i64_w,i32_w]
    rfl
   refine take_ (i:=3) (N:=some 41) (v:= ?_) (a':= ?_) (bt_ 7 13) rfl rfl (by kernel_rfl) (fun _ _ _ h=>h) (Or.inl ⟨by rfl, ?_⟩) hHeld ?_ ?_;rotate_left
   ·rintro w' ⟨s0,s1⟩;go_simp
    with_reducible rfl
   rotate_left
   ·simp only [Act.put,List.setIfInBounds_toArray,List.set_cons_zero,List.set_cons_succ,i64_w,i32_w]
    rfl
   refine join_ (σ:=Value×Nat) 1 (bt_ 7 63) (fun s_=> [(39,s_.1),(8, .pointer (some ⟨s_.2,0,none⟩)),(42, .agg #[s_.1, .slice Ao24 t14.length co24, .int .i64 0])]) (fun s_ w'=>(w'.cell? ⟨gb18,0,none⟩=some (.slice Ao24 t14.length co24)∧w'.cell? ⟨gb18,1,none⟩=some (.int .i64 t17))∧(Kd.R k39 39 w' w.heap.size (fun _=>True) (.slice Ao20 t8.length co20) t8)∧(Kd.R k84 84 w' w.heap.size (fun k_=>some k_≠(s_.1:Value).ownBlock) (.slice Ao21 t11.length co21) t11)∧(Kd.R k76 76 w' w.heap.size (fun _=>True) (.slice Ao24 t14.length co24) t14)∧(Kd.R k84 84 w' w.heap.size (fun k_=>some k_≠(.slice Ao21 t11.length co21:Value).ownBlock) s_.1 t11)∧(Kd.R k79 79 w' w.heap.size (fun k_=>some k_≠(.slice Ao18 t5.length co18:Value).ownBlock) (.slice Ao15 t2.length co15) t2)∧(Kd.R k79 79 w' w.heap.size (fun k_=>some k_≠(.slice Ao15 t2.length co15:Value).ownBlock) (.slice Ao18 t5.length co18) t5)∧(w'.heap[gb18]?=some (.cells #[.slice Ao24 t14.length co24, .int .i64 t17] 51 (0,0)))∧(w'.heap[s_.2]?=some (.cells #[.slice none 0 0, .slice none 0 0, .int .i64 0] 63 (0,0)))∧(w.heap.size≤s_.2)∧(w.heap.size≤s_.2)∧(gb18≠s_.2)∧(s_.2≠gb18)∧(Below w.heap.size w w')) ?_ ?_;rotate_left
   ·intro hCont;refine two_ (i:=1) (j:=5) (Ni:=some 39) (Nj:=some 8) (bt_ 7 15) (bt_ 7 45) rfl rfl rfl rfl (by kernel_rfl) (by decide) (by decide) (fun K hK=> ?_) (fun K hK=> ?_)
    ·skip
     refine gs_ Try.func40 #[.slice Ao18 t5.length co18] ?_
     with_reducible refine (law18_Loose.calls kj2 _ _ t5 t11 _ ?side1 ?side2 A13.out).mono ?_
     (case side1=>exact zc_ (Kd.R_reads' HO7.out).2.2);(case side2=>exact (Kd.R_reads' HO7.out).2.1);rintro e w28 ⟨v20,rfl,ho0,hb⟩;refine ⟨_,rfl, ?_⟩;replace HO4:=ob_ HO4 hb;replace HO7:=ob_ HO7 hb;replace HO10:=ob_ HO10 hb;replace HO16:=ob_ HO16 hb;have HO21:=am_ (Kd.R_lower (Kd.R_new' ho0 (Kd.R_lt (zr_ HO13))) (below_size (zl1_ HB GE18)));replace HO13:=am_ (Kd.R_elder' (zr_ HO13) (Kd.R_base ho0) hb);replace BK18:=bb_ BK18 hb;replace HB:=am_ (below_step (zl1_ HB GE18) hb);(try clear hb);(try clear ho0);obtain ⟨Ao29,co29,eo29⟩:=Kd.R_slice HO21.out;(first|subst eo29|cases eo29);refine hK.out _ _ ⟨(blk_cell BK18.out 0).trans rfl,(blk_cell BK18.out 1).trans rfl⟩ (fun hHeld=> ?_);clear hK K;refine no_ (N:=some 39) ?_;refine pure_ (i:=4) (N:=some 42) (v:= ?_) (a':= ?_) (bt_ 7 31) rfl rfl (by kernel_rfl) (fun _ _ _ h=>h) (Or.inl ⟨by rfl, ?_⟩) ?_ ?_;rotate_left
     ·intro w';go_simp
      with_reducible rfl
     rotate_left
     ·simp only [Act.put,List.setIfInBounds_toArray,List.set_cons_zero,List.set_cons_succ,i64_w,i32_w]
      rfl
     refine one_ (i:=5) (N:=some 8) (bt_ 7 63) rfl rfl (by kernel_rfl) (by decide) (fun K hK=> ?_);refine box_step ?hg (N:=8) ?hd (cs:=#[.slice none 0 0, .slice none 0 0, .int .i64 0]) (t:=63) ?hr ?_;(case hd=>rfl);(case hg=>rfl);(case hr=>first|(go_simp;done)|(go_simp;rfl));intro gb22 hg w30 hbox hb;replace HO4:=ob_ HO4 hb;replace HO7:=ob_ HO7 hb;replace HO10:=ob_ HO10 hb;replace HO13:=ob_ HO13 hb;replace HO16:=ob_ HO16 hb;replace HO21:=ob_ HO21 hb;have BK22:=am_ (hbox);have GW22:=am_ ((zg1_ HB GE18 hg:w.heap.size≤gb22));have GE22:=am_ ((zg1_ HB GE18 hg:w.heap.size≤gb22));replace HB:=am_ (below_step (zl1_ HB GE18) hb);have NB18_22:=am_ ((zn_ BK18 hg:gb18≠gb22));have NB22_18:=am_ ((zm_ BK18 hg:gb22≠gb18));replace BK18:=bb_ BK18 hb;clear hb hbox hg;refine hK.out _ _ ⟨(blk_cell BK18.out 0).trans rfl,(blk_cell BK18.out 1).trans rfl⟩ (fun hHeld=> ?_);clear hK K;refine no_ (N:=some 8) ?_;exact norm_ (by simp only [putAll,Act.put,List.setIfInBounds_toArray,List.set_cons_zero,List.set_cons_succ]) (hCont (.slice Ao29 t11.length co29,gb22) _ ⟨hHeld,(zr_ HO10),(by refine zt_ ?_;exact Kd.R_mono HO13.out (fun _ hk=>hk.2)),(zr_ HO16),(by refine zt_ ?_;exact Kd.R_mono HO21.out (fun _ hk=>hk.2)),(zr_ HO4),(zr_ HO7),(zb_ BK18),(zb_ BK22),GW22.out,GE22.out,NB18_22.out,NB22_18.out,(zl2_ HB GE18 GE22)⟩)
    skip
    refine box_step ?hg (N:=8) ?hd (cs:=#[.slice none 0 0, .slice none 0 0, .int .i64 0]) (t:=63) ?hr ?_;(case hd=>rfl);(case hg=>rfl);(case hr=>first|(go_simp;done)|(go_simp;rfl));intro gb22 hg w28 hbox hb;replace HO4:=ob_ HO4 hb;replace HO7:=ob_ HO7 hb;replace HO10:=ob_ HO10 hb;replace HO13:=ob_ HO13 hb;replace HO16:=ob_ HO16 hb;have BK22:=am_ (hbox);have GW22:=am_ ((zg1_ HB GE18 hg:w.heap.size≤gb22));have GE22:=am_ ((zg1_ HB GE18 hg:w.heap.size≤gb22));replace HB:=am_ (below_step (zl1_ HB GE18) hb);have NB18_22:=am_ ((zn_ BK18 hg:gb18≠gb22));have NB22_18:=am_ ((zm_ BK18 hg:gb22≠gb18));replace BK18:=bb_ BK18 hb;clear hb hbox hg;refine hK.out _ _ ⟨(blk_cell BK18.out 0).trans rfl,(blk_cell BK18.out 1).trans rfl⟩ (fun hHeld=> ?_);clear hK K;refine no_ (N:=some 8) ?_;refine one_ (i:=1) (N:=some 39) (bt_ 7 47) rfl rfl (by kernel_rfl) (by decide) (fun K hK=> ?_);refine gs_ Try.func40 #[.slice Ao18 t5.length co18] ?_
    with_reducible refine (law18_Loose.calls kj2 _ _ t5 t11 _ ?side1 ?side2 A13.out).mono ?_
    (case side1=>exact zc_ (Kd.R_reads' HO7.out).2.2);(case side2=>exact (Kd.R_reads' HO7.out).2.1);rintro e w29 ⟨v20,rfl,ho0,hb⟩;refine ⟨_,rfl, ?_⟩;replace HO4:=ob_ HO4 hb;replace HO7:=ob_ HO7 hb;replace HO10:=ob_ HO10 hb;replace HO16:=ob_ HO16 hb;have HO21:=am_ (Kd.R_lower (Kd.R_new' ho0 (Kd.R_lt (zr_ HO13))) (below_size (zl2_ HB GE18 GE22)));replace HO13:=am_ (Kd.R_elder' (zr_ HO13) (Kd.R_base ho0) hb);replace BK18:=bb_ BK18 hb;replace BK22:=bb_ BK22 hb;replace HB:=am_ (below_step (zl2_ HB GE18 GE22) hb);(try clear hb);(try clear ho0);obtain ⟨Ao30,co30,eo30⟩:=Kd.R_slice HO21.out;(first|subst eo30|cases eo30);refine hK.out _ _ ⟨(blk_cell BK18.out 0).trans rfl,(blk_cell BK18.out 1).trans rfl⟩ (fun hHeld=> ?_);clear hK K;refine no_ (N:=some 39) ?_;refine pure_ (i:=4) (N:=some 42) (v:= ?_) (a':= ?_) (bt_ 7 63) rfl rfl (by kernel_rfl) (fun _ _ _ h=>h) (Or.inl ⟨by rfl, ?_⟩) ?_ ?_;rotate_left
    ·intro w';go_simp
     with_reducible rfl
    rotate_left
    ·simp only [Act.put,List.setIfInBounds_toArray,List.set_cons_zero,List.set_cons_succ,i64_w,i32_w]
     rfl
    exact norm_ (by simp only [putAll,Act.put,List.setIfInBounds_toArray,List.set_cons_zero,List.set_cons_succ]) (hCont (.slice Ao30 t11.length co30,gb22) _ ⟨hHeld,(zr_ HO10),(by refine zt_ ?_;exact Kd.R_mono HO13.out (fun _ hk=>hk.2)),(zr_ HO16),(by refine zt_ ?_;exact Kd.R_mono HO21.out (fun _ hk=>hk.2)),(zr_ HO4),(zr_ HO7),(zb_ BK18),(zb_ BK22),GW22.out,GE22.out,NB18_22.out,NB22_18.out,(zl2_ HB GE18 GE22)⟩)
   rintro ⟨v20,gb22⟩ w31 ⟨hS_,h0_,h1_,h2_,h3_,h4_,h5_,h6_,h7_,h8_,h9_,h10_,h11_,h12_⟩;(try dsimp only at h0_ h1_ h2_ h3_ h4_ h5_ h6_ h7_ h8_ h9_ h10_ h11_ h12_);have n0_:=am_ h0_;have n1_:=am_ h1_;have n2_:=am_ h2_;have n3_:=am_ h3_;have n4_:=am_ h4_;have n5_:=am_ h5_;have n6_:=am_ h6_;have n7_:=am_ h7_;have n8_:=am_ h8_;have n9_:=am_ h9_;have n10_:=am_ h10_;have n11_:=am_ h11_;have n12_:=am_ h12_;clear HO4 HO7 HO10 HO13 HO16 BK18 HB h0_ h1_ h2_ h3_ h4_ h5_ h6_ h7_ h8_ h9_ h10_ h11_ h12_;have HO10:=n0_;have HO13:=n1_;have HO16:=n2_;have HO21:=n3_;have HO4:=n4_;have HO7:=n5_;have BK18:=n6_;have BK22:=n7_;have GW22:=n8_
   have GE22:=n9_;have NB18_22:=n10_;have NB22_18:=n11_;have HB:=n12_;clear n0_ n1_ n2_ n3_ n4_ n5_ n6_ n7_ n8_ n9_ n10_ n11_ n12_;have hHeld:w31.cell? ⟨gb18,0,none⟩=some (.slice Ao24 t14.length co24)∧w31.cell? ⟨gb18,1,none⟩=some (.int .i64 t17):=hS_;obtain ⟨Ao32,co32,eo32⟩:=Kd.R_slice HO21.out;(first|subst eo32|cases eo32);refine norm_ (a':= ?_) ?_ ?_;rotate_left
   ·simp only [putAll,Act.put,List.setIfInBounds_toArray,List.set_cons_zero,List.set_cons_succ]
    rfl
   refine one_ (i:=6) (N:=none) (bt_ 7 127) rfl rfl (by kernel_rfl) (by decide) (fun K hK=> ?_);have hs33:w31.cell? ⟨gb22,0,none⟩=some (.slice none 0 0):=zz_ BK22 0;have hfs33:=blk_frozen BK22.out 0;have hns33_0:=NB18_22.out;have hms33_0:=NB22_18.out;have hs34:w31.cell? ⟨gb22,1,none⟩=some (.slice none 0 0):=zz_ BK22 1;have hfs34:=blk_frozen BK22.out 1;have hns34_0:=NB18_22.out;have hms34_0:=NB22_18.out;have hs35:w31.cell? ⟨gb22,2,none⟩=some (.int .i64 0):=zz_ BK22 2;have hfs35:=blk_frozen BK22.out 2;have hns35_0:=NB18_22.out;have hms35_0:=NB22_18.out;refine skip_ (w1:= ?_) (by rfl) rfl ?_ ?_;rotate_left
   ·go_simp
    rfl
   refine hK.out _ _ ⟨((cell_far (p:=⟨gb22,_,none⟩) NB18_22.out _).trans (((cell_far (p:=⟨gb22,_,none⟩) NB18_22.out _).trans (((cell_far (p:=⟨gb22,_,none⟩) NB18_22.out _).trans (hHeld.1)))))),((cell_far (p:=⟨gb22,_,none⟩) NB18_22.out _).trans (((cell_far (p:=⟨gb22,_,none⟩) NB18_22.out _).trans (((cell_far (p:=⟨gb22,_,none⟩) NB18_22.out _).trans (hHeld.2))))))⟩ (fun hHeld=> ?_);clear hK K;refine done_ (by kernel_rfl) ?_;try go_wp2
   go_loopg [5,9] kj2 (fun kq v5 v9 w'=> ∃(x5_2:List (S79)) (x9_2:Int) (x23000_2:List (S84)) (x23001_2:List (S76)) (x23002_2:Int) (u23000:Value) (u23001:Value),v9= .int .i64 x9_2∧Aside0 (law23_ApplyEnds.l0 kq x5_2 t8 x9_2 t14 t17 x23000_2 x23001_2 x23002_2=some r)∧Aside0 (kq≤kj2)∧Aside0 (Kd.R k79 79 w' w.heap.size (fun _=>True) v5 x5_2)∧Aside0 (Kd.R k39 39 w' w.heap.size (fun _=>True) (.slice Ao20 t8.length co20) t8)∧Aside0 (Kd.R k76 76 w' w.heap.size (fun _=>True) (.slice Ao24 t14.length co24) t14)∧Aside0 (Kd.R k84 84 w' w.heap.size (fun _=>True) u23000 x23000_2)∧Aside0 (Kd.R k76 76 w' w.heap.size (fun _=>True) u23001 x23001_2)∧Aside0 (w'.heap[gb18]?=some (.cells #[(.slice Ao24 t14.length co24), .int .i64 t17] 51 (0,0)))∧Aside0 (w'.heap[gb22]?=some (.cells #[u23000,u23001, .int .i64 x23002_2] 63 (0,0)))∧Aside0 (Below w.heap.size w w'))
   case atStart=>exact ⟨(t5),(0),(t11),(t14),(0),(.slice Ao32 t11.length co32),(.slice Ao24 t14.length co24),rf_,H',⟨Nat.le_refl _⟩,⟨zy_ HO7 BK22⟩,⟨zy_ HO10 BK22⟩,⟨zy_ HO16 BK22⟩,⟨zy_ HO21 BK22⟩,⟨zy_ HO16 BK22⟩,⟨zw_ BK18⟩,⟨zw_ BK22⟩,⟨zl2_ HB GE18 GE22⟩⟩
   case round=>
    clear H';obtain ⟨x5_2,x9_2,x23000_2,x23001_2,x23002_2,u23000,u23001,rfl,HA,HK2,HO_5,HO_6,HO_19000,HO_23000,HO_23001,BK18,BK22,HB⟩:=hrel
    cases gk with
    |zero=>exact absurd HA.out (by simp [law23_ApplyEnds.l0])
    |succ k2=>
     have H:=HA.out;clear HA;simp only [law23_ApplyEnds.l0] at H;by_cases c36:x9_2<(t14.length:Int)
     ·rw [if_pos c36] at H;have c36b0:=decide_eq_true c36;clear c36;replace H:=zbd_ H;obtain ⟨⟨t23,t24,t25,t26,t27,t28,t29⟩,A37,H⟩:=H;try dsimp only at H
      replace H:=zbd_ H;obtain ⟨⟨t31,t34,t37,t40,t41⟩,A38,H⟩:=H;try dsimp only at H
      by_cases c39:t29=true;rotate_left
      ·replace c39:=Bool.eq_false_iff.mpr c39;subst c39;have H1:(none)=some r:=by rw [if_neg (show¬(false=true) by decide)] at H;exact H
       cases H1
      subst c39;rw [if_pos rfl] at H;by_cases c40:0≤x9_2;rotate_left
      ·rw [if_neg c40] at H;cases H
      rw [if_pos c40] at H;replace c40:=decide_eq_true c40;by_cases c41:(!(t23==((rd_T76 t14 x9_2).f0))||(!(t24.toList==(((rd_T76 t14 x9_2).f1).toList))||(!(t25.toList==(((rd_T76 t14 x9_2).f2).toList))||((!(t26==((rd_T76 t14 x9_2).f3.f0))||(!(t27==((rd_T76 t14 x9_2).f3.f1))||(!(t28==((rd_T76 t14 x9_2).f3.f2)))))))))=true
      ·rw [if_pos c41] at H;cases H
      rw [if_neg c41] at H;have c41b0:(!(t23==((rd_T76 t14 x9_2).f0))||(!(t24.toList==(((rd_T76 t14 x9_2).f1).toList))||(!(t25.toList==(((rd_T76 t14 x9_2).f2).toList))||((!(t26==((rd_T76 t14 x9_2).f3.f0))||(!(t27==((rd_T76 t14 x9_2).f3.f1))||(!(t28==((rd_T76 t14 x9_2).f3.f2)))))))))=false:=by simpa using c41
      clear c41;replace H:=zbd_ H;obtain ⟨t44,A64,H⟩:=H;try dsimp only at H
      by_cases c65:t44=0;rotate_left
      ·rw [if_neg c65] at H;cases H
      rw [if_pos c65] at H;have c65b0:=beq_iff_eq.mpr c65;have c65b1:=bne_eq_false_iff_eq.mpr c65;clear c65;have H':=Aside0.mk H;clear H;have:=NB18_22.out;have:=NB22_18.out;obtain ⟨_,_,_,_⟩:=y2_ BK18;obtain ⟨_,_,_,_,_,_⟩:=y3_ BK22;obtain ⟨Ao69,co69,eo69⟩:=Kd.R_slice HO_23000.out;subst eo69;obtain ⟨Ao70,co70,eo70⟩:=Kd.R_slice HO_23001.out;subst eo70
      try go_wp2_with (first|((with_reducible refine gate_callee (f:=59) rfl ?_);refine gl_ (some 52) Try.func59 #[.agg #[.slice Ao69 x23000_2.length co69, .slice Ao70 x23001_2.length co70, .int .i64 x23002_2]] ?_;(with_reducible refine (apply_Next.calls _ _ x23000_2 _ _ x23001_2 x23002_2 t23 t24 t25 t26 t27 t28 true _ ?side1 ?side2 ?side3 ?side4 A37.out).mono ?_);(case side1=>exact zc_ (Kd.R_reads' HO_23000.out).2.2);(case side2=>exact (Kd.R_reads' HO_23000.out).2.1);(case side3=>exact zc_ (Kd.R_reads' HO_23001.out).2.2);(case side4=>exact (Kd.R_reads' HO_23001.out).2.1);rintro e w71 ⟨rfl,hb⟩;refine ⟨_,rfl, ?_⟩;replace HO_5:=ob_ HO_5 hb;replace HO_6:=ob_ HO_6 hb;replace HO_19000:=ob_ HO_19000 hb;replace HO_23000:=ob_ HO_23000 hb;replace HO_23001:=ob_ HO_23001 hb;replace BK18:=bb_ BK18 hb;replace BK22:=bb_ BK22 hb;replace HB:=am_ (below_step (zl2_ HB GE18 GE22) hb);(try clear hb))|((with_reducible refine gate_dst (N:=10) rfl ?_);(try (refine gate_guard (by rfl) ?_;dsimp only));refine bx_ (N:=10) (cs:=#[.int .i64 0, .string (⟨#[]⟩:ByteArray), .string (⟨#[]⟩:ByteArray), .int .i64 0, .int .i64 0, .int .i64 0]) (t:=76) ?_;intro gb30 hg w72 hbox hb;replace HO_5:=ob_ HO_5 hb;replace HO_6:=ob_ HO_6 hb;replace HO_19000:=am_ (Kd.R_below (Kd.R_elderB (zr_ HO_19000) gb30 (Nat.le_of_eq hg.symm)) hb);replace HO_23000:=ob_ HO_23000 hb;replace HO_23001:=am_ (Kd.R_below (Kd.R_elderB (zr_ HO_23001) gb30 (Nat.le_of_eq hg.symm)) hb);have BK30:=am_ (hbox);have GE30:=am_ ((zg2_ HB GE18 GE22 hg:w.heap.size≤gb30));replace HB:=am_ (below_step (zl2_ HB GE18 GE22) hb);have NB18_30:=am_ ((zn_ BK18 hg:gb18≠gb30));have NB30_18:=am_ ((zm_ BK18 hg:gb30≠gb18));replace BK18:=bb_ BK18 hb;have NB22_30:=am_ ((zn_ BK22 hg:gb22≠gb30));have NB30_22:=am_ ((zm_ BK22 hg:gb30≠gb22));replace BK22:=bb_ BK22 hb;clear hb hbox hg;have:=NB30_18.out;have:=NB18_30.out;have:=NB30_22.out;have:=NB22_30.out;obtain ⟨_,_,_,_,_,_,_,_,_,_,_,_⟩:=y6_ BK30;obtain ⟨_,_,_,_,_,_⟩:=y3_ BK22;obtain ⟨Ao77,co77,eo77⟩:=Kd.R_slice HO_5.out;subst eo77)|((with_reducible refine gate_callee (f:=60) rfl ?_);refine gl_ (some 58) Try.func60 #[.slice Ao77 x5_2.length co77, .agg #[.slice Ao69 x23000_2.length co69, .slice Ao70 x23001_2.length co70, .int .i64 x23002_2]] ?_;(with_reducible refine (apply_Try.calls k2 _ _ x5_2 _ _ x23000_2 _ _ x23001_2 x23002_2 t31 t34 t37 t40 t41 _ ?side1 ?side2 ?side3 ?side4 ?side5 ?side6 A38.out).mono ?_);(case side1=>refine (Kd.R_reads' (e:=79) (base:=w.heap.size) (ok:=fun k_=>True) (n:=x5_2.length) (c:=co77) ?_).2.2;exact (by refine zt_ ?_;exact (zv2_ HO_5 BK30)));(case side2=>exact (Kd.R_reads' HO_5.out).2.1);(case side3=>refine (Kd.R_reads' (e:=84) (base:=w.heap.size) (ok:=fun k_=>True) (n:=x23000_2.length) (c:=co69) ?_).2.2;exact (by refine zt_ ?_;exact (zv2_ HO_23000 BK30)));(case side4=>exact (Kd.R_reads' HO_23000.out).2.1);(case side5=>refine (Kd.R_reads' (e:=76) (base:=w.heap.size) (ok:=fun k_=>(True∧k_≠gb30)) (n:=x23001_2.length) (c:=co70) ?_).2.2;exact (by refine zt_ ?_;exact (zu2_ gb30 HO_23001)));(case side6=>exact (Kd.R_reads' HO_23001.out).2.1);rintro e w78 ⟨v32,v35,v38,rfl,ho0,ho1,ho2,hb⟩;refine ⟨_,rfl, ?_⟩;replace HO_6:=am_ (Kd.R_below (by refine zt_ ?_;exact (zv2_ HO_6 BK30)) hb);have HO33:=am_ (Kd.R_lower (Kd.R_new' ho0 (Kd.R_lt (by refine zt_ ?_;exact (zv2_ HO_5 BK30)))) (below_size (zl3_ HB GE18 GE22 GE30)));replace HO_5:=am_ (Kd.R_elder' (by refine zt_ ?_;exact (zv2_ HO_5 BK30)) (Kd.R_base ho0) hb);have HO36:=am_ (Kd.R_lower (Kd.R_new' ho1 (Kd.R_lt (by refine zt_ ?_;exact (zv2_ HO_23000 BK30)))) (below_size (zl3_ HB GE18 GE22 GE30)));replace HO_23000:=am_ (Kd.R_elder' (by refine zt_ ?_;exact (zv2_ HO_23000 BK30)) (Kd.R_base ho1) hb);have HO39:=am_ (Kd.R_lower (Kd.R_newB (Kd.R_new' (Kd.R_new' ho2 (Kd.R_lt (by refine zt_ ?_;exact (zu2_ gb30 HO_19000)))) (Kd.R_lt (by refine zt_ ?_;exact (zu2_ gb30 HO_23001)))) (g:=gb30) (o:= .cells #[.int .i64 t23, .string t24, .string t25, .int .i64 t26, .int .i64 t27, .int .i64 t28] 76 (0,0)) (zw_ BK30)) (below_size (zl3_ HB GE18 GE22 GE30)));replace HO_19000:=am_ (Kd.R_elder' (by refine zt_ ?_;exact (zu2_ gb30 HO_19000)) (Kd.R_base ho2) hb);replace HO_23001:=am_ (Kd.R_elder' (by refine zt_ ?_;exact (zu2_ gb30 HO_23001)) (Kd.R_base ho2) hb);replace BK18:=am_ (blk_below (g:=gb18) (o:= .cells #[.slice Ao24 t14.length co24, .int .i64 t17] 51 (0,0)) (zw_ BK18) hb);replace BK22:=am_ (blk_below (g:=gb22) (o:= .cells #[.slice Ao69 x23000_2.length co69, .slice Ao70 x23001_2.length co70, .int .i64 x23002_2] 63 (0,0)) (zw_ BK22) hb);replace BK30:=am_ (blk_below (g:=gb30) (o:= .cells #[.int .i64 t23, .string t24, .string t25, .int .i64 t26, .int .i64 t27, .int .i64 t28] 76 (0,0)) (zw_ BK30) hb);replace HB:=am_ (below_step (zl3_ HB GE18 GE22 GE30) hb);(try clear hb ho0 ho1 ho2))|((with_reducible refine gate_dst (N:=13) rfl ?_);(try (refine gate_guard (by rfl) ?_;dsimp only));refine bx_ (N:=13) (cs:=#[.slice none 0 0, .slice none 0 0, .int .i64 0]) (t:=63) ?_;intro gb42 hg w79 hbox hb;replace HO_5:=ob_ HO_5 hb;replace HO_6:=ob_ HO_6 hb;replace HO_19000:=ob_ HO_19000 hb;replace HO_23000:=ob_ HO_23000 hb;replace HO_23001:=ob_ HO_23001 hb;replace HO33:=ob_ HO33 hb;replace HO36:=ob_ HO36 hb;replace HO39:=ob_ HO39 hb;have BK42:=am_ (hbox);have GE42:=am_ ((zg3_ HB GE18 GE22 GE30 hg:w.heap.size≤gb42));replace HB:=am_ (below_step (zl3_ HB GE18 GE22 GE30) hb);have NB18_42:=am_ ((zn_ BK18 hg:gb18≠gb42));have NB42_18:=am_ ((zm_ BK18 hg:gb42≠gb18));replace BK18:=bb_ BK18 hb;have NB22_42:=am_ ((zn_ BK22 hg:gb22≠gb42));have NB42_22:=am_ ((zm_ BK22 hg:gb42≠gb22));replace BK22:=bb_ BK22 hb;have NB30_42:=am_ ((zn_ BK30 hg:gb30≠gb42));have NB42_30:=am_ ((zm_ BK30 hg:gb42≠gb30));replace BK30:=bb_ BK30 hb;clear hb hbox hg;obtain ⟨Ao80,co80,eo80⟩:=Kd.R_slice HO36.out;subst eo80;have:=NB42_18.out;have:=NB18_42.out;have:=NB42_22.out;have:=NB22_42.out;have:=NB42_30.out;have:=NB30_42.out;obtain ⟨_,_,_,_,_,_⟩:=y3_ BK42;obtain ⟨Ao85,co85,eo85⟩:=Kd.R_slice HO39.out;subst eo85))
      have n0_:Aside0 (Kd.R k79 79 (((w79.setCell ⟨gb42,0,none⟩ (.slice Ao80 t34.length co80)).setCell ⟨gb42,1,none⟩ (.slice Ao85 t37.length co85)).setCell ⟨gb42,2,none⟩ (.int .i64 t40)) w.heap.size (fun k_=>some k_≠(v32:Value).ownBlock) (.slice Ao77 x5_2.length co77) x5_2):=⟨by (with_reducible repeat (first|apply Kd.R_alloc|apply Kd.R_drewN|apply Kd.R_drew));exact Kd.R_mono (Kd.R_far (p:=⟨gb42,2,none⟩) (Kd.R_far (p:=⟨gb42,1,none⟩) (Kd.R_far (p:=⟨gb42,0,none⟩) (Kd.R_types HO_5.out BK42.out (by decide)) (fun _ hk=>hk.2) (.slice Ao80 t34.length co80)) (fun _ hk=>hk.2) (.slice Ao85 t37.length co85)) (fun _ hk=>hk.2) (.int .i64 t40)) (fun _ hk=>hk.1.2)⟩;have n1_:Aside0 (Kd.R k39 39 (((w79.setCell ⟨gb42,0,none⟩ (.slice Ao80 t34.length co80)).setCell ⟨gb42,1,none⟩ (.slice Ao85 t37.length co85)).setCell ⟨gb42,2,none⟩ (.int .i64 t40)) w.heap.size (fun _=>True) (.slice Ao20 t8.length co20) t8):=⟨zy_ HO_6 BK42⟩
      have n2_:Aside0 (Kd.R k76 76 (((w79.setCell ⟨gb42,0,none⟩ (.slice Ao80 t34.length co80)).setCell ⟨gb42,1,none⟩ (.slice Ao85 t37.length co85)).setCell ⟨gb42,2,none⟩ (.int .i64 t40)) w.heap.size (fun k_=>some k_≠(.slice Ao85 t37.length co85:Value).ownBlock∧k_≠gb30) (.slice Ao24 t14.length co24) t14):=⟨by (with_reducible repeat (first|apply Kd.R_alloc|apply Kd.R_drewN|apply Kd.R_drew));exact Kd.R_mono (Kd.R_far (p:=⟨gb42,2,none⟩) (Kd.R_far (p:=⟨gb42,1,none⟩) (Kd.R_far (p:=⟨gb42,0,none⟩) (Kd.R_types HO_19000.out BK42.out (by decide)) (fun _ hk=>hk.2) (.slice Ao80 t34.length co80)) (fun _ hk=>hk.2) (.slice Ao85 t37.length co85)) (fun _ hk=>hk.2) (.int .i64 t40)) (fun _ hk=>⟨hk.1.2,hk.1.1.2⟩)⟩;have n3_:Aside0 (Kd.R k84 84 (((w79.setCell ⟨gb42,0,none⟩ (.slice Ao80 t34.length co80)).setCell ⟨gb42,1,none⟩ (.slice Ao85 t37.length co85)).setCell ⟨gb42,2,none⟩ (.int .i64 t40)) w.heap.size (fun k_=>some k_≠(.slice Ao80 t34.length co80:Value).ownBlock) (.slice Ao69 x23000_2.length co69) x23000_2):=⟨by (with_reducible repeat (first|apply Kd.R_alloc|apply Kd.R_drewN|apply Kd.R_drew));exact Kd.R_mono (Kd.R_far (p:=⟨gb42,2,none⟩) (Kd.R_far (p:=⟨gb42,1,none⟩) (Kd.R_far (p:=⟨gb42,0,none⟩) (Kd.R_types HO_23000.out BK42.out (by decide)) (fun _ hk=>hk.2) (.slice Ao80 t34.length co80)) (fun _ hk=>hk.2) (.slice Ao85 t37.length co85)) (fun _ hk=>hk.2) (.int .i64 t40)) (fun _ hk=>hk.1.2)⟩
      have n4_:Aside0 (Kd.R k76 76 (((w79.setCell ⟨gb42,0,none⟩ (.slice Ao80 t34.length co80)).setCell ⟨gb42,1,none⟩ (.slice Ao85 t37.length co85)).setCell ⟨gb42,2,none⟩ (.int .i64 t40)) w.heap.size (fun k_=>some k_≠(.slice Ao85 t37.length co85:Value).ownBlock∧k_≠gb30) (.slice Ao70 x23001_2.length co70) x23001_2):=⟨by (with_reducible repeat (first|apply Kd.R_alloc|apply Kd.R_drewN|apply Kd.R_drew));exact Kd.R_mono (Kd.R_far (p:=⟨gb42,2,none⟩) (Kd.R_far (p:=⟨gb42,1,none⟩) (Kd.R_far (p:=⟨gb42,0,none⟩) (Kd.R_types HO_23001.out BK42.out (by decide)) (fun _ hk=>hk.2) (.slice Ao80 t34.length co80)) (fun _ hk=>hk.2) (.slice Ao85 t37.length co85)) (fun _ hk=>hk.2) (.int .i64 t40)) (fun _ hk=>⟨hk.1.2,hk.1.1.2⟩)⟩;have n5_:Aside0 (Kd.R k79 79 (((w79.setCell ⟨gb42,0,none⟩ (.slice Ao80 t34.length co80)).setCell ⟨gb42,1,none⟩ (.slice Ao85 t37.length co85)).setCell ⟨gb42,2,none⟩ (.int .i64 t40)) w.heap.size (fun k_=>some k_≠(.slice Ao77 x5_2.length co77:Value).ownBlock) v32 t31):=⟨by (with_reducible repeat (first|apply Kd.R_alloc|apply Kd.R_drewN|apply Kd.R_drew));exact Kd.R_mono (Kd.R_far (p:=⟨gb42,2,none⟩) (Kd.R_far (p:=⟨gb42,1,none⟩) (Kd.R_far (p:=⟨gb42,0,none⟩) (Kd.R_types HO33.out BK42.out (by decide)) (fun _ hk=>hk.2) (.slice Ao80 t34.length co80)) (fun _ hk=>hk.2) (.slice Ao85 t37.length co85)) (fun _ hk=>hk.2) (.int .i64 t40)) (fun _ hk=>hk.1.2)⟩
      have n6_:Aside0 (Kd.R k84 84 (((w79.setCell ⟨gb42,0,none⟩ (.slice Ao80 t34.length co80)).setCell ⟨gb42,1,none⟩ (.slice Ao85 t37.length co85)).setCell ⟨gb42,2,none⟩ (.int .i64 t40)) w.heap.size (fun k_=>some k_≠(.slice Ao69 x23000_2.length co69:Value).ownBlock) (.slice Ao80 t34.length co80) t34):=⟨by (with_reducible repeat (first|apply Kd.R_alloc|apply Kd.R_drewN|apply Kd.R_drew));exact Kd.R_mono (Kd.R_far (p:=⟨gb42,2,none⟩) (Kd.R_far (p:=⟨gb42,1,none⟩) (Kd.R_far (p:=⟨gb42,0,none⟩) (Kd.R_types HO36.out BK42.out (by decide)) (fun _ hk=>hk.2) (.slice Ao80 t34.length co80)) (fun _ hk=>hk.2) (.slice Ao85 t37.length co85)) (fun _ hk=>hk.2) (.int .i64 t40)) (fun _ hk=>hk.1.2)⟩;have n7_:Aside0 (Kd.R k76 76 (((w79.setCell ⟨gb42,0,none⟩ (.slice Ao80 t34.length co80)).setCell ⟨gb42,1,none⟩ (.slice Ao85 t37.length co85)).setCell ⟨gb42,2,none⟩ (.int .i64 t40)) w.heap.size (fun k_=>some k_≠(.slice Ao24 t14.length co24:Value).ownBlock∧some k_≠(.slice Ao70 x23001_2.length co70:Value).ownBlock∧k_≠gb30) (.slice Ao85 t37.length co85) t37):=⟨by (with_reducible repeat (first|apply Kd.R_alloc|apply Kd.R_drewN|apply Kd.R_drew));exact Kd.R_mono (Kd.R_far (p:=⟨gb42,2,none⟩) (Kd.R_far (p:=⟨gb42,1,none⟩) (Kd.R_far (p:=⟨gb42,0,none⟩) (Kd.R_types HO39.out BK42.out (by decide)) (fun _ hk=>hk.2) (.slice Ao80 t34.length co80)) (fun _ hk=>hk.2) (.slice Ao85 t37.length co85)) (fun _ hk=>hk.2) (.int .i64 t40)) (fun _ hk=>⟨hk.1.1.1.2,⟨hk.1.1.2,hk.1.2⟩⟩)⟩
      have n8_:Aside0 ((((w79.setCell ⟨gb42,0,none⟩ (.slice Ao80 t34.length co80)).setCell ⟨gb42,1,none⟩ (.slice Ao85 t37.length co85)).setCell ⟨gb42,2,none⟩ (.int .i64 t40)).heap[gb18]?=some (.cells #[.slice Ao24 t14.length co24, .int .i64 t17] 51 (0,0))):=⟨zw_ BK18⟩;have n9_:Aside0 ((((w79.setCell ⟨gb42,0,none⟩ (.slice Ao80 t34.length co80)).setCell ⟨gb42,1,none⟩ (.slice Ao85 t37.length co85)).setCell ⟨gb42,2,none⟩ (.int .i64 t40)).heap[gb22]?=some (.cells #[.slice Ao69 x23000_2.length co69, .slice Ao70 x23001_2.length co70, .int .i64 x23002_2] 63 (0,0))):=⟨zw_ BK22⟩;have n10_:Aside0 ((((w79.setCell ⟨gb42,0,none⟩ (.slice Ao80 t34.length co80)).setCell ⟨gb42,1,none⟩ (.slice Ao85 t37.length co85)).setCell ⟨gb42,2,none⟩ (.int .i64 t40)).heap[gb30]?=some (.cells #[.int .i64 t23, .string t24, .string t25, .int .i64 t26, .int .i64 t27, .int .i64 t28] 76 (0,0))):=⟨zw_ BK30⟩;have n11_:Aside0 ((((w79.setCell ⟨gb42,0,none⟩ (.slice Ao80 t34.length co80)).setCell ⟨gb42,1,none⟩ (.slice Ao85 t37.length co85)).setCell ⟨gb42,2,none⟩ (.int .i64 t40)).heap[gb42]?=some (.cells #[.slice Ao80 t34.length co80, .slice Ao85 t37.length co85, .int .i64 t40] 63 (0,0))):=⟨zw_ BK42⟩;have n12_:Aside0 (Below w.heap.size w (((w79.setCell ⟨gb42,0,none⟩ (.slice Ao80 t34.length co80)).setCell ⟨gb42,1,none⟩ (.slice Ao85 t37.length co85)).setCell ⟨gb42,2,none⟩ (.int .i64 t40))):=⟨zl4_ HB GE18 GE22 GE30 GE42⟩
      generalize (((w79.setCell ⟨gb42,0,none⟩ (.slice Ao80 t34.length co80)).setCell ⟨gb42,1,none⟩ (.slice Ao85 t37.length co85)).setCell ⟨gb42,2,none⟩ (.int .i64 t40))=w86 at n0_ n1_ n2_ n3_ n4_ n5_ n6_ n7_ n8_ n9_ n10_ n11_ n12_ ⊢;have HO_5:=n0_;have HO_6:=n1_;have HO_19000:=n2_;have HO_23000:=n3_;have HO_23001:=n4_;have HO33:=n5_;have HO36:=n6_;have HO39:=n7_;have BK18:=n8_;have BK22:=n9_;have BK30:=n10_;have BK42:=n11_;have HB:=n12_;clear n0_ n1_ n2_ n3_ n4_ n5_ n6_ n7_ n8_ n9_ n10_ n11_ n12_;replace HO_5:=am_ (Kd.R_drew HO_5.out);replace HO_6:=am_ (Kd.R_drew HO_6.out);replace HO_19000:=am_ (Kd.R_drew HO_19000.out);replace HO_23000:=am_ (Kd.R_drew HO_23000.out);replace HO_23001:=am_ (Kd.R_drew HO_23001.out);replace HO33:=am_ (Kd.R_drew HO33.out);replace HO36:=am_ (Kd.R_drew HO36.out);replace HO39:=am_ (Kd.R_drew HO39.out);replace BK18:=am_ (blk_drew BK18.out);replace BK22:=am_ (blk_drew BK22.out);replace BK30:=am_ (blk_drew BK30.out);replace BK42:=am_ (blk_drew BK42.out);replace HB:=am_ (below_drew1 HB.out);obtain ⟨p43,q43,ad43,e43,hx43_0,hx43_1,hx43_2,hx43_3,hx43_4,hx43_5⟩:=zat_ (at_T76 (Kd.R_reads' HO_19000.out).2.2 x9_2);cases e43
      refine start_ (n:=16) (S:=fun w'=>w'.cell? ⟨gb30,0,none⟩=some (.int .i64 t23)∧w'.cell? ⟨gb30,1,none⟩=some (.string t24)∧w'.cell? ⟨gb30,2,none⟩=some (.string t25)∧w'.cell? ⟨gb30,3,none⟩=some (.int .i64 t26)∧w'.cell? ⟨gb30,4,none⟩=some (.int .i64 t27)∧w'.cell? ⟨gb30,5,none⟩=some (.int .i64 t28)∧w'.cell? ⟨gb18,0,none⟩=some (.slice (some ad43) t14.length co24)∧w'.cell? ⟨gb18,1,none⟩=some (.int .i64 t17)∧w'.cell? (ad43.add ((x9_2).toNat*6))=some (.int .i64 ((rd_T76 t14 x9_2).f0))∧w'.cell? ⟨(ad43.add ((x9_2).toNat*6)).block,(ad43.add ((x9_2).toNat*6)).off+1,none⟩=some (.string ((rd_T76 t14 x9_2).f1))∧w'.cell? ⟨(ad43.add ((x9_2).toNat*6)).block,(ad43.add ((x9_2).toNat*6)).off+2,none⟩=some (.string ((rd_T76 t14 x9_2).f2))∧w'.cell? ⟨(ad43.add ((x9_2).toNat*6)).block,(ad43.add ((x9_2).toNat*6)).off+3,none⟩=some (.int .i64 ((rd_T76 t14 x9_2).f3.f0))∧w'.cell? ⟨(ad43.add ((x9_2).toNat*6)).block,(ad43.add ((x9_2).toNat*6)).off+4,none⟩=some (.int .i64 ((rd_T76 t14 x9_2).f3.f1))∧w'.cell? ⟨(ad43.add ((x9_2).toNat*6)).block,(ad43.add ((x9_2).toNat*6)).off+5,none⟩=some (.int .i64 ((rd_T76 t14 x9_2).f3.f2))) (ds:=[]) (bt_ 16 0) (by kernel_rfl) rfl rfl ⟨(blk_cell BK30.out 0).trans rfl,(blk_cell BK30.out 1).trans rfl,(blk_cell BK30.out 2).trans rfl,(blk_cell BK30.out 3).trans rfl,(blk_cell BK30.out 4).trans rfl,(blk_cell BK30.out 5).trans rfl,(blk_cell BK18.out 0).trans rfl,(blk_cell BK18.out 1).trans rfl,hx43_0,hx43_1,hx43_2,hx43_3,hx43_4,hx43_5⟩ (fun hHeld=> ?_);refine with_tabW law23_ApplyEnds.tab12 law23_ApplyEnds.bits12 (fun HT_ HW_=> ?_)
      generalize w86.drew=w87 at HO_5 HO_6 HO_19000 HO_23000 HO_23001 HO33 HO36 HO39 BK18 BK22 BK30 BK42 HB hx43_0 hx43_1 hx43_2 hx43_3 hx43_4 hx43_5 hHeld ⊢;refine ru_ 0 HT_ ?_;refine ru_ 1 HT_ ?_;refine ru_ 2 HT_ ?_;refine ru_ 4 HT_ ?_;refine ru_ 6 HT_ ?_;refine rk_ 3 HT_ HW_ hHeld ?_;refine rk_ 5 HT_ HW_ hHeld ?_;refine ru_ 7 HT_ ?_;refine rk_ 8 HT_ HW_ hHeld ?_;refine ru_ 9 HT_ ?_;refine ru_ 10 HT_ ?_;refine ru_ 11 HT_ ?_;refine ru_ 12 HT_ ?_;refine on_ (i:=13) (N:=some 75) (bt_ 16 16383) HT_ (fun K hK=> ?_);refine gs_ Try.func25 #[.int .i64 t41] ?_
      with_reducible refine (law1_Num.calls t41 t44 _ A64.out).mono ?_
      rintro e w' ⟨rfl,⟨nd,rfl⟩⟩;refine ⟨_,rfl, ?_⟩;refine hK.out _ _ ⟨(blk_cell BK30.out 0).trans rfl,(blk_cell BK30.out 1).trans rfl,(blk_cell BK30.out 2).trans rfl,(blk_cell BK30.out 3).trans rfl,(blk_cell BK30.out 4).trans rfl,(blk_cell BK30.out 5).trans rfl,(blk_cell BK18.out 0).trans rfl,(blk_cell BK18.out 1).trans rfl,hHeld.2.2.2.2.2.2.2.2.1,hHeld.2.2.2.2.2.2.2.2.2.1,hHeld.2.2.2.2.2.2.2.2.2.2.1,hHeld.2.2.2.2.2.2.2.2.2.2.2.1,hHeld.2.2.2.2.2.2.2.2.2.2.2.2.1,hHeld.2.2.2.2.2.2.2.2.2.2.2.2.2⟩ (fun hHeld=> ?_);clear hK K;refine no_ (N:=some 75) ?_;refine ru_ 14 HT_ ?_;refine ru_ 15 HT_ ?_;refine done_ (done_of HT_.out (by kernel_rfl)) ?_;obtain ⟨_,_,_,_,_,_⟩:=y3_ BK42;obtain ⟨_,_,_,_,_,_⟩:=y3_ BK22;try go_wp2
      go_roundg k2
      case measure=>have:=HJ2.out;have:=HK2.out;omega
      case rel=>exact ⟨(t31),(wrap64 (x9_2+1)),(t34),(t37),(t40),(.slice Ao80 t34.length co80),(.slice Ao85 t37.length co85),rf_,H',⟨by have:=HJ2.out;have:=HK2.out;omega⟩,⟨zy_ HO33 BK22⟩,⟨zy_ HO_6 BK22⟩,⟨zy_ HO_19000 BK22⟩,⟨zy_ HO36 BK22⟩,⟨zy_ HO39 BK22⟩,⟨zw_ BK18⟩,⟨zw_ BK22⟩,⟨zl4_ HB GE18 GE22 GE30 GE42⟩⟩
     rw [if_neg c36] at H;have c36b0:=decide_eq_false c36;clear c36;replace H:=zbd_ H;obtain ⟨⟨t45,t46,t47,t48,t49,t50,t51⟩,A134,H⟩:=H;try dsimp only at H
     have HC135:=Aside0.mk H;clear H;have:=NB18_22.out;have:=NB22_18.out;obtain ⟨_,_,_,_⟩:=y2_ BK18;obtain ⟨_,_,_,_,_,_⟩:=y3_ BK22;obtain ⟨Ao139,co139,eo139⟩:=Kd.R_slice HO_23000.out;subst eo139;obtain ⟨Ao140,co140,eo140⟩:=Kd.R_slice HO_23001.out;subst eo140
     go_upto_region 17 with (first|((with_reducible refine gate_callee (f:=59) rfl ?_);refine gl_ (some 82) Try.func59 #[.agg #[.slice Ao139 x23000_2.length co139, .slice Ao140 x23001_2.length co140, .int .i64 x23002_2]] ?_;(with_reducible refine (apply_Next.calls _ _ x23000_2 _ _ x23001_2 x23002_2 t45 t46 t47 t48 t49 t50 t51 _ ?side1 ?side2 ?side3 ?side4 A134.out).mono ?_);(case side1=>exact zc_ (Kd.R_reads' HO_23000.out).2.2);(case side2=>exact (Kd.R_reads' HO_23000.out).2.1);(case side3=>exact zc_ (Kd.R_reads' HO_23001.out).2.2);(case side4=>exact (Kd.R_reads' HO_23001.out).2.1);rintro e w141 ⟨rfl,hb⟩;refine ⟨_,rfl, ?_⟩;replace HO_5:=ob_ HO_5 hb;replace HO_6:=ob_ HO_6 hb;replace HO_19000:=ob_ HO_19000 hb;replace HO_23000:=ob_ HO_23000 hb;replace HO_23001:=ob_ HO_23001 hb;replace BK18:=bb_ BK18 hb;replace BK22:=bb_ BK22 hb;replace HB:=am_ (below_step (zl2_ HB GE18 GE22) hb);(try clear hb))|((with_reducible refine gate_dst (N:=15) rfl ?_);(try (refine gate_guard (by rfl) ?_;dsimp only));refine bx_ (N:=15) (cs:=#[.int .i64 0, .string (⟨#[]⟩:ByteArray), .string (⟨#[]⟩:ByteArray), .int .i64 0, .int .i64 0, .int .i64 0]) (t:=76) ?_;intro gb52 hg w142 hbox hb;replace HO_5:=ob_ HO_5 hb;replace HO_6:=ob_ HO_6 hb;replace HO_19000:=am_ (Kd.R_below (Kd.R_elderB (zr_ HO_19000) gb52 (Nat.le_of_eq hg.symm)) hb);replace HO_23000:=ob_ HO_23000 hb;replace HO_23001:=am_ (Kd.R_below (Kd.R_elderB (zr_ HO_23001) gb52 (Nat.le_of_eq hg.symm)) hb);have BK52:=am_ (hbox);have GE52:=am_ ((zg2_ HB GE18 GE22 hg:w.heap.size≤gb52));replace HB:=am_ (below_step (zl2_ HB GE18 GE22) hb);have NB18_52:=am_ ((zn_ BK18 hg:gb18≠gb52));have NB52_18:=am_ ((zm_ BK18 hg:gb52≠gb18));replace BK18:=bb_ BK18 hb;have NB22_52:=am_ ((zn_ BK22 hg:gb22≠gb52));have NB52_22:=am_ ((zm_ BK22 hg:gb52≠gb22));replace BK22:=bb_ BK22 hb;clear hb hbox hg;have:=NB52_18.out;have:=NB18_52.out;have:=NB52_22.out;have:=NB22_52.out;obtain ⟨_,_,_,_,_,_⟩:=x6_ BK52;obtain ⟨_,_,_,_,_,_⟩:=ff6_ BK52))
     (try simp only [Act.put,List.setIfInBounds_toArray,List.set_cons_zero,List.set_cons_succ]);go_cut [100] (fun v100 wc=> ∃(kq:Nat) (x100_134:Bool),v100= .bool x100_134∧Aside0 (law23_ApplyEnds.j2 kq x5_2 t8 x100_134 x23000_2 x23001_2 x23002_2=some r)∧Aside0 (kq≤k2)∧Aside0 (Kd.R k79 79 wc w.heap.size (fun _=>True) u5 x5_2)∧Aside0 (Kd.R k39 39 wc w.heap.size (fun _=>True) (.slice Ao20 t8.length co20) t8)∧Aside0 (Kd.R k76 76 wc w.heap.size (fun k_=>k_≠gb52) (.slice Ao24 t14.length co24) t14)∧Aside0 (Kd.R k84 84 wc w.heap.size (fun _=>True) (.slice Ao139 x23000_2.length co139) x23000_2)∧Aside0 (Kd.R k76 76 wc w.heap.size (fun k_=>k_≠gb52) (.slice Ao140 x23001_2.length co140) x23001_2)∧Aside0 (wc.heap[gb18]?=some (.cells #[(.slice Ao24 t14.length co24), .int .i64 t17] 51 (0,0)))∧Aside0 (wc.heap[gb22]?=some (.cells #[(.slice Ao139 x23000_2.length co139),(.slice Ao140 x23001_2.length co140), .int .i64 x23002_2] 63 (0,0)))∧Aside0 (wc.heap[gb52]?=some (.cells #[.int .i64 t45, .string t46, .string t47, .int .i64 t48, .int .i64 t49, .int .i64 t50] 76 (0,0)))∧Aside0 (Below w.heap.size w wc))
     case first=>
      have H:=HC135.out;clear HC135;by_cases c146:t51=true
      ·subst c146;have H1:(none)=some r:=by rw [if_pos rfl] at H;exact H
       cases H1
      replace c146:=Bool.eq_false_iff.mpr c146;subst c146;rw [if_neg (show¬(false=true) by decide)] at H;by_cases c147:(x23000_2.length:Int)=(t8.length:Int);rotate_left
      ·rw [if_neg c147] at H;cases H
      rw [if_pos c147] at H;have c147b0:=beq_iff_eq.mpr c147;have c147b1:=bne_eq_false_iff_eq.mpr c147;have c147b2:(x23000_2.length==t8.length)=true:=by first|simpa using c147|(simp at c147 ⊢;omega)
      clear c147;(first|rw [c147b0]|(simp only [i64_w,i32_w];rw [c147b0])|skip);have H':=Aside0.mk H;clear H;have:=NB22_18.out;have:=NB18_22.out;have:=NB22_52.out;have:=NB52_22.out;obtain ⟨_,_,_,_,_,_⟩:=y3_ BK22;obtain ⟨Ao151,co151,eo151⟩:=Kd.R_slice HO_5.out;subst eo151;go_wp2
      go_meet
      case rel=>exact ⟨_,(((x5_2.length:Int) !=(t8.length:Int))),rf_,H',⟨by have:=HJ2.out;have:=HK2.out;first|omega|exact Nat.le_refl _⟩,⟨zy_ HO_5 BK52⟩,⟨zy_ HO_6 BK52⟩,⟨by (with_reducible repeat (first|apply Kd.R_alloc|apply Kd.R_drewN|apply Kd.R_drew));exact Kd.R_mono (Kd.R_far (p:=⟨gb52,5,none⟩) (Kd.R_far (p:=⟨gb52,4,none⟩) (Kd.R_far (p:=⟨gb52,3,none⟩) (Kd.R_far (p:=⟨gb52,2,none⟩) (Kd.R_far (p:=⟨gb52,1,none⟩) (Kd.R_far (p:=⟨gb52,0,none⟩) (Kd.R_mono HO_19000.out (fun k_ hk=>(⟨hk,hk.2⟩:_∧k_≠gb52))) (fun _ hk=>hk.2) (.int .i64 t45)) (fun _ hk=>hk.2) (.string t46)) (fun _ hk=>hk.2) (.string t47)) (fun _ hk=>hk.2) (.int .i64 t48)) (fun _ hk=>hk.2) (.int .i64 t49)) (fun _ hk=>hk.2) (.int .i64 t50)) (fun _ hk=>hk.1.2)⟩,⟨zy_ HO_23000 BK52⟩,⟨by (with_reducible repeat (first|apply Kd.R_alloc|apply Kd.R_drewN|apply Kd.R_drew));exact Kd.R_mono (Kd.R_far (p:=⟨gb52,5,none⟩) (Kd.R_far (p:=⟨gb52,4,none⟩) (Kd.R_far (p:=⟨gb52,3,none⟩) (Kd.R_far (p:=⟨gb52,2,none⟩) (Kd.R_far (p:=⟨gb52,1,none⟩) (Kd.R_far (p:=⟨gb52,0,none⟩) (Kd.R_mono HO_23001.out (fun k_ hk=>(⟨hk,hk.2⟩:_∧k_≠gb52))) (fun _ hk=>hk.2) (.int .i64 t45)) (fun _ hk=>hk.2) (.string t46)) (fun _ hk=>hk.2) (.string t47)) (fun _ hk=>hk.2) (.int .i64 t48)) (fun _ hk=>hk.2) (.int .i64 t49)) (fun _ hk=>hk.2) (.int .i64 t50)) (fun _ hk=>hk.1.2)⟩,⟨zw_ BK18⟩,⟨zw_ BK22⟩,⟨zw_ BK52⟩,⟨zl3_ HB GE18 GE22 GE52⟩⟩
     case rest=>
      clear HC135;obtain ⟨kq,x100_134,rfl,HA,HJ134,HO_5,HO_6,HO_19000,HO_23000,HO_23001,BK18,BK22,BK52,HB⟩:=hcut
      cases kq with
      |zero=>exact absurd HA.out (by simp [law23_ApplyEnds.j2])
      |succ kj134=>
       have H:=HA.out;clear HA;simp only [law23_ApplyEnds.j2] at H;by_cases c155:x100_134=true
       ·subst c155;have H1:(none)=some r:=by rw [if_pos rfl] at H;exact H
        cases H1
       replace c155:=Bool.eq_false_iff.mpr c155;subst c155;rw [if_neg (show¬(false=true) by decide)] at H;have H':=Aside0.mk H;clear H;go_wp2
       go_loopg [17] kj134 (fun kq v17 w'=> ∃(x17_4:Int),v17= .int .i64 x17_4∧Aside0 (law23_ApplyEnds.l1 kq x5_2 t8 x17_4 x23000_2 x23001_2 x23002_2=some r)∧Aside0 (kq≤kj134)∧Aside0 (Kd.R k79 79 w' w.heap.size (fun _=>True) u5 x5_2)∧Aside0 (Kd.R k39 39 w' w.heap.size (fun _=>True) (.slice Ao20 t8.length co20) t8)∧Aside0 (Kd.R k76 76 w' w.heap.size (fun k_=>k_≠gb52) (.slice Ao24 t14.length co24) t14)∧Aside0 (Kd.R k84 84 w' w.heap.size (fun _=>True) (.slice Ao139 x23000_2.length co139) x23000_2)∧Aside0 (Kd.R k76 76 w' w.heap.size (fun k_=>k_≠gb52) (.slice Ao140 x23001_2.length co140) x23001_2)∧Aside0 (w'.heap[gb18]?=some (.cells #[(.slice Ao24 t14.length co24), .int .i64 t17] 51 (0,0)))∧Aside0 (w'.heap[gb22]?=some (.cells #[(.slice Ao139 x23000_2.length co139),(.slice Ao140 x23001_2.length co140), .int .i64 x23002_2] 63 (0,0)))∧Aside0 (w'.heap[gb52]?=some (.cells #[.int .i64 t45, .string t46, .string t47, .int .i64 t48, .int .i64 t49, .int .i64 t50] 76 (0,0)))∧Aside0 (Below w.heap.size w w'))
       case atStart=>exact ⟨(0),rf_,H',⟨Nat.le_refl _⟩,am_ (zr_ HO_5),am_ (zr_ HO_6),am_ (zr_ HO_19000),am_ (zr_ HO_23000),am_ (zr_ HO_23001),am_ (zb_ BK18),am_ (zb_ BK22),am_ (zb_ BK52),⟨zl3_ HB GE18 GE22 GE52⟩⟩
       case round=>
        clear H';obtain ⟨x17_4,rfl,HA,HK4,HO_5,HO_6,HO_19000,HO_23000,HO_23001,BK18,BK22,BK52,HB⟩:=hrel
        cases gk with
        |zero=>exact absurd HA.out (by simp [law23_ApplyEnds.l1])
        |succ k4=>
         have H:=HA.out;clear HA;simp only [law23_ApplyEnds.l1] at H;by_cases c156:x17_4<(t8.length:Int);rotate_left
         ·rw [if_neg c156] at H;have c156b0:=decide_eq_false c156;clear c156;replace H:=zbd_ H;obtain ⟨t57,A169,H⟩:=H;try dsimp only at H
          obtain rfl:=Option.some.inj H;go_wp2_with (first|((with_reducible refine gate_callee (f:=58) rfl ?_);refine gl_ (some 130) Try.func58 #[] ?_;(with_reducible refine (law23_awake.calls k4 t57 _ A169.out).mono ?_);rintro e w170 ⟨rfl,hb⟩;refine ⟨_,rfl, ?_⟩;replace HO_5:=ob_ HO_5 hb;replace HO_6:=ob_ HO_6 hb;replace HO_19000:=ob_ HO_19000 hb;replace HO_23000:=ob_ HO_23000 hb;replace HO_23001:=ob_ HO_23001 hb;replace BK18:=bb_ BK18 hb;replace BK22:=bb_ BK22 hb;replace BK52:=bb_ BK52 hb;replace HB:=am_ (below_step (zl3_ HB GE18 GE22 GE52) hb);(try clear hb)))
          go_ret
          exact ⟨er_,zl3_ HB GE18 GE22 GE52⟩

         rw [if_pos c156] at H;have c156b0:=decide_eq_true c156;clear c156;replace H:=zif_ H;obtain ⟨c157,H⟩:=H;replace c157:=decide_eq_true c157;replace H:=zbd_ H;obtain ⟨t54,A158,H⟩:=H;try dsimp only at H
         by_cases c159:t54<0
         ·rw [if_pos c159] at H;cases H
         rw [if_neg c159] at H;replace c159:=decide_eq_false c159;by_cases c162:0≤t54;rotate_left
         ·rw [if_neg c162] at H;cases H
         rw [if_pos c162] at H;replace c162:=decide_eq_true c162;by_cases c163:t54<(x23000_2.length:Int);rotate_left
         ·rw [if_neg c163] at H;cases H
         rw [if_pos c163] at H;replace c163:=decide_eq_true c163;by_cases c164:((rd_T84 x23000_2 t54).f0).toList=((rd_T39 t8 x17_4).f0).toList;rotate_left
         ·rw [if_neg c164] at H;cases H
         rw [if_pos c164] at H;have c164b0:=beq_iff_eq.mpr c164;have c164b1:=bne_eq_false_iff_eq.mpr c164;clear c164;have H':=Aside0.mk H;clear H;obtain ⟨p53,q53,ad53,e53,hx53_0,hx53_1,hx53_2,hx53_3,hx53_4⟩:=zat_ (at_T39 (Kd.R_reads' HO_6.out).2.2 x17_4);cases e53;obtain ⟨Ao165,co165,eo165⟩:=Kd.R_slice HO_5.out;subst eo165;try go_wp2_with (first|((with_reducible refine gate_callee (f:=52) rfl ?_);refine gl_ (some 113) Try.func52 #[.slice Ao165 x5_2.length co165, .string ((rd_T39 t8 x17_4).f0)] ?_;(with_reducible refine (r10_Find.calls k4 _ _ x5_2 ((rd_T39 t8 x17_4).f0) t54 _ ?side1 ?side2 A158.out).mono ?_);(case side1=>exact zc_ (Kd.R_reads' HO_5.out).2.2);(case side2=>exact (Kd.R_reads' HO_5.out).2.1);rintro e w' ⟨rfl,⟨nd,rfl⟩⟩;refine ⟨_,rfl, ?_⟩))
         (try (rw [drewN_self wr];generalize hq_:World.drewN wr _=wr;replace HO_19000:=am_ (qr_ hq_ HO_19000.out);replace HO_23000:=am_ (qr_ hq_ HO_23000.out);replace HO_23001:=am_ (qr_ hq_ HO_23001.out);replace HO_5:=am_ (qr_ hq_ HO_5.out);replace HO_6:=am_ (qr_ hq_ HO_6.out);replace BK18:=am_ (qb_ hq_ BK18.out);replace BK22:=am_ (qb_ hq_ BK22.out);replace BK52:=am_ (qb_ hq_ BK52.out);replace HB:=am_ (ql_ hq_ HB.out);clear hq_));replace HO_5:=am_ (Kd.R_drew HO_5.out);replace HO_6:=am_ (Kd.R_drew HO_6.out);replace HO_19000:=am_ (Kd.R_drew HO_19000.out);replace HO_23000:=am_ (Kd.R_drew HO_23000.out);replace HO_23001:=am_ (Kd.R_drew HO_23001.out);replace BK18:=am_ (blk_drew BK18.out);replace BK22:=am_ (blk_drew BK22.out);replace BK52:=am_ (blk_drew BK52.out);replace HB:=am_ (below_drew1 HB.out);obtain ⟨p55,q55,ad55,e55,hx55_0,hx55_1,hx55_2,hx55_3,hx55_4,hx55_5⟩:=zat_ (at_T84 (Kd.R_reads' HO_23000.out).2.2 t54);cases e55;obtain ⟨p56,q56,ad56,e56,hx56_0,hx56_1,hx56_2,hx56_3,hx56_4⟩:=zat_ (at_T39 (Kd.R_reads' HO_6.out).2.2 x17_4);obtain rfl:ad53=ad56:=(by injection e56)
         refine start_ (n:=16) (S:=fun w'=>w'.cell? ⟨gb22,0,none⟩=some (.slice (some ad55) x23000_2.length co139)∧w'.cell? ⟨gb22,1,none⟩=some (.slice Ao140 x23001_2.length co140)∧w'.cell? ⟨gb22,2,none⟩=some (.int .i64 x23002_2)∧w'.cell? (ad55.add ((t54).toNat*6))=some (.string ((rd_T84 x23000_2 t54).f0))∧w'.cell? (ad53.add ((x17_4).toNat*5))=some (.string ((rd_T39 t8 x17_4).f0))) (ds:=[]) (bt_ 16 0) (by kernel_rfl) rfl rfl ⟨(blk_cell BK22.out 0).trans rfl,(blk_cell BK22.out 1).trans rfl,(blk_cell BK22.out 2).trans rfl,hx55_0,hx56_0⟩ (fun hHeld=> ?_);refine with_tabW law23_ApplyEnds.tab23 law23_ApplyEnds.bits23 (fun HT_ HW_=> ?_);generalize wr.drew=w166 at HO_5 HO_6 HO_19000 HO_23000 HO_23001 BK18 BK22 BK52 HB hx55_0 hx55_1 hx55_2 hx55_3 hx55_4 hx55_5 hx56_0 hx56_1 hx56_2 hx56_3 hx56_4 hHeld ⊢;refine ru_ 0 HT_ ?_;refine ru_ 1 HT_ ?_;refine ru_ 2 HT_ ?_;refine ru_ 3 HT_ ?_;refine ru_ 5 HT_ ?_;refine ru_ 9 HT_ ?_;refine ru_ 10 HT_ ?_;refine ru_ 11 HT_ ?_;refine ru_ 12 HT_ ?_;refine rk_ 4 HT_ HW_ hHeld ?_;refine ru_ 6 HT_ ?_;refine ru_ 7 HT_ ?_;refine rk_ 8 HT_ HW_ hHeld ?_;refine rk_ 13 HT_ HW_ hHeld ?_;refine ru_ 14 HT_ ?_;refine ru_ 15 HT_ ?_;refine done_ (done_of HT_.out (by kernel_rfl)) ?_;try go_wp2
         go_roundg k4
         case measure=>have:=HJ2.out;have:=HK2.out;have:=HJ134.out;have:=HK4.out;omega
         case rel=>exact ⟨(wrap64 (x17_4+1)),rf_,H',⟨by have:=HJ2.out;have:=HK2.out;have:=HJ134.out;have:=HK4.out;omega⟩,am_ (zr_ HO_5),am_ (zr_ HO_6),am_ (zr_ HO_19000),am_ (zr_ HO_23000),am_ (zr_ HO_23001),am_ (zb_ BK18),am_ (zb_ BK22),am_ (zb_ BK52),⟨zl3_ HB GE18 GE22 GE52⟩⟩
def law23_ApplyEnds.Pure:Prop:= ∀(l0:List Int) (l1:List Int),l0.length≤maxLen→l0.length*1≤140737488351232→(∀x∈l0,(Lit.int .u8 x).wf=true)→l1.length≤maxLen→l1.length*1≤140737488351232→(∀x∈l1,(Lit.int .u8 x).wf=true)→ ∃k,law23_ApplyEnds.f k l0 l1=some true
theorem law23_ApplyEnds.walk (P:law23_ApplyEnds.Pure) (a0:Option Addr) (len0 cap0:Nat) (z0:List Int) (a1:Option Addr) (len1 cap1:Nat) (z1:List Int) (w:World) (w0:(a0=none∧len0=0∧cap0=0∧z0=[])∨ ∃x,a0=some x∧len0≤cap0∧cap0≤maxLen∧z0.length=cap0∧(∀i,i<z0.length→w.cell? (x.add i)=some (.int .u8 (z0.getD i 0)))∧ ∀n∈z0,(Lit.int .u8 n).wf=true) (y0:len0*1≤140737488351232) (w1:(a1=none∧len1=0∧cap1=0∧z1=[])∨ ∃x,a1=some x∧len1≤cap1∧cap1≤maxLen∧z1.length=cap1∧(∀i,i<z1.length→w.cell? (x.add i)=some (.int .u8 (z1.getD i 0)))∧ ∀n∈z1,(Lit.int .u8 n).wf=true) (y1:len1*1≤140737488351232):
  Calls Try.prog 21 #[.slice a0 len0 cap0, .slice a1 len1 cap1] w fun e w'=>e= .returned (.bool true)∧Below w.heap.size w w':=by
 obtain ⟨l0,rfl,hr0,hm0,hw0,hc0⟩:=ReadsInt.ofRowC w0;obtain ⟨l1,rfl,hr1,hm1,hw1,hc1⟩:=ReadsInt.ofRowC w1;obtain ⟨k,h⟩:=P l0 l1 hm0 y0 hw0 hm1 y1 hw1;refine (law23_ApplyEnds.calls k _ _ l0 _ _ l1 true w (Kd.C_of_reads (d:=(0:Int)) (h1:=fun _=>rfl) hr0) hc0 (Kd.C_of_reads (d:=(0:Int)) (h1:=fun _=>rfl) hr1) hc1 h).mono ?_;rintro e w' ⟨rfl,hd⟩;exact ⟨rfl,hd⟩

end Go.Proofs.Ytahidkjncljkaaa.Print

namespace Go.Proofs.Ytahidkjncljkaaa.Print
open Go.RowKit Go.Proofs.YtahidkjncljkaaaW.PrintWords Go.Proofs.YtahidkjncljkaaaW.PrintLast
abbrev Item:=S79
abbrev Vec:=S37
abbrev zItem:Item:=z79
theorem rd_item (l:List Item) (i:Int):rd_T79 l i=l.getD i.toNat zItem:=rfl
instance baLawful:LawfulBEq ByteArray where
 eq_of_beq {a b} h:=by
  obtain ⟨a⟩:=a
  obtain ⟨b⟩:=b
  have:(a==b)=true:=h
  rw [eq_of_beq this]
 rfl {a}:=by
  obtain ⟨a⟩:=a
  show (a==a)=true
  exact beq_self_eq_true a
theorem nm_inj {a b:ByteArray}:a.toList=b.toList↔a=b:=by
  constructor
  rotate_left
  · rintro rfl;rfl
  intro h
  rw [ByteArray.toList_eq,ByteArray.toList_eq] at h
  exact ByteArray.ext (Array.toList_inj.1 h)
theorem nm_beq (a b:ByteArray):(a.toList==b.toList)=decide (a=b):=by
 rw [Bool.eq_iff_iff,beq_iff_eq,nm_inj,decide_eq_true_iff]
theorem nm_empty {a:ByteArray}:a.toList=([]:List UInt8)↔a=⟨#[]⟩:=by
 rw [←nm_inj];rw [show (ByteArray.mk #[]).toList=[] from by rw [ByteArray.toList_eq]]
theorem Ev.const {α:Type} {g:Option α} {r:α} (h:g=some r):Ev (fun _=>g) r:=⟨0,fun _ _=>h⟩
theorem w64 {n:Int} (h0: -9223372036854775808≤n) (h1:n≤9223372036854775807):wrap64 n=n:=by unfold wrap64;omega
def look (l:List Item) (n:ByteArray):Option Item:=l.find? (fun x=>x.f0=n)
def fnd (l:List Item) (n:ByteArray):Int:=fidx (fun x:Item=>x.f0.toList==n.toList) l 0
theorem fidx_none {α:Type} {p:α→Bool}: ∀{l:List α} {i:Int},(∀x∈l,p x=false)→fidx p l i= -1
  |[],_,_=>rfl
  | x :: l, i, h => by
    unfold fidx;rw [if_neg (by rw [h x (by simp)];simp)];exact fidx_none (fun y hy=>h y (by simp [hy]))
theorem fidx_some {α:Type} {p:α→Bool} (z:α): ∀{l:List α} {i:Int} {x:α},l.find? p=some x→ ∃j:Nat,j<l.length∧fidx p l i=i+j∧l.getD j z=x∧p x=true∧ ∀m,m<j→p (l.getD m z)=false
  |[],_,_,h=>by simp at h
  | y :: l, i, x, h => by
    unfold fidx;by_cases hy:p y=true
    · rw [if_pos hy]
      simp only [List.find?_cons,hy] at h
      obtain rfl:=Option.some.inj h
      exact ⟨0,by simp,by simp,by simp,hy,fun m hm=>by omega⟩
    rw [if_neg hy];have hy':p y=false:=by simpa using hy
    simp only [List.find?_cons,hy'] at h;obtain ⟨j,hj,h1,h2,h3,h4⟩:=fidx_some z (i:=i+1) h;refine ⟨j+1,by simp;omega,by rw [h1];omega,by simpa using h2,h3,fun m hm=> ?_⟩
    cases m with
    |zero=>simpa using hy'
    |succ m=>simpa using h4 m (by omega)
theorem look_pred (n:ByteArray):(fun x:Item=>x.f0.toList==n.toList)=(fun x:Item=>decide (x.f0=n)):=by
 funext x;exact nm_beq _ _
theorem look_mem {l:List Item} {n:ByteArray} {x:Item} (h:look l n=some x):x∈l∧x.f0=n:=by
 unfold look at h;exact ⟨List.mem_of_find?_eq_some h,by simpa using List.find?_some h⟩
theorem look_none {l:List Item} {n:ByteArray}:look l n=none↔ ∀x∈l,x.f0≠n:=by
 unfold look
 simp
theorem fnd_none {l:List Item} {n:ByteArray} (h:look l n=none):fnd l n= -1:=by
 unfold fnd;refine fidx_none fun x hx=> ?_
 rw [nm_beq]
 simpa using look_none.1 h x hx
theorem fnd_some {l:List Item} {n:ByteArray} {x:Item} (h:look l n=some x): ∃j:Nat,j<l.length∧fnd l n=j∧l.getD j zItem=x∧x.f0=n∧ ∀m,m<j→(l.getD m zItem).f0≠n:=by
 have h':l.find? (fun x:Item=>x.f0.toList==n.toList)=some x:=by rw [look_pred];exact h
 obtain ⟨j,h1,h2,h3,h4,h5⟩:=fidx_some zItem (i:=0) h';refine ⟨j,h1,by unfold fnd;rw [h2];omega,h3,by simpa [nm_beq] using h4,fun m hm=> ?_⟩
 simpa [nm_beq] using h5 m hm
theorem fnd_lt (l:List Item) (n:ByteArray):fnd l n<l.length:=by
 cases h:look l n with
 |none=>rw [fnd_none h];omega
 |some x=>obtain ⟨j,h1,h2,_⟩:=fnd_some h;omega
theorem fnd_neg {l:List Item} {n:ByteArray}:fnd l n<0↔look l n=none:=by
 cases h:look l n with
 |none=>rw [fnd_none h];simp
 |some x=>obtain ⟨j,h1,h2,_⟩:=fnd_some h;simp;omega
theorem fnd_ge {l:List Item} {n:ByteArray}:0≤fnd l n↔ ∃x,look l n=some x:=by
 cases h:look l n with
 |none=>rw [fnd_none h];simp
 |some x=>obtain ⟨j,h1,h2,_⟩:=fnd_some h;simp;omega
theorem fnd_rd {l:List Item} {n:ByteArray} {x:Item} (h:look l n=some x):rd_T79 l (fnd l n)=x:=by
 obtain ⟨j,h1,h2,h3,_⟩:=fnd_some h;rw [rd_item,h2,Int.toNat_natCast];exact h3
theorem tree_Find_eq (l:List Item) (n:ByteArray):tree_Find.f l n=some (fnd l n):=rfl
inductive Chain (l:List Item):ByteArray→List ByteArray→Prop where
 |nil {n:ByteArray}:look l n=none→Chain l n []
 |cons {n:ByteArray} {x:Item} {us:List ByteArray}:look l n=some x→Chain l x.f1 us→Chain l n (n::us)
def upGo (l:List Item):Nat→ByteArray→List ByteArray
  |0,_=> []
  | m + 1, n => match look l n with
    |none=> []
    |some x=>n::upGo l m x.f1
def up (l:List Item) (n:ByteArray):List ByteArray:=upGo l (l.length+1) n
theorem upGo_len (l:List Item): ∀(m:Nat) (n:ByteArray),(upGo l m n).length≤m
  |0,_=>by simp [upGo]
  | m + 1, n => by
    unfold upGo
    cases look l n with
    |none=>simp
    |some x=>have:=upGo_len l m x.f1;simp;omega
theorem up_len (l:List Item) (n:ByteArray):(up l n).length≤l.length+1:=upGo_len l _ n
theorem upGo_none {l:List Item} {n:ByteArray} (h:look l n=none) (m:Nat):upGo l m n=[]:=by
 cases m with
 |zero=>rfl
 |succ m=>unfold upGo;rw [h]
theorem upGo_some {l:List Item} {n:ByteArray} {x:Item} (h:look l n=some x) (m:Nat):upGo l (m+1) n=n::upGo l m x.f1:=by
 rw [upGo.eq_2,h]
theorem Chain.det {l:List Item} {n:ByteArray} {us:List ByteArray} (h:Chain l n us): ∀{vs:List ByteArray},Chain l n vs→us=vs:=by
  induction h with
  | nil h =>
    intro vs k
    cases k with
    |nil _=>rfl
    |cons k _=>rw [h] at k;cases k
  | cons h _ ih =>
    intro vs k
    cases k with
    |nil k=>rw [h] at k;cases k
    | cons k k2 =>
      rw [h] at k;cases k;rw [ih k2]
theorem Chain.upGo {l:List Item} {n:ByteArray} {us:List ByteArray} (h:Chain l n us): ∀m,us.length≤m→upGo l m n=us:=by
  induction h with
  |nil h=>intro m _;exact upGo_none h m
  | cons h _ ih =>
    intro m hm
    cases m with
    |zero=>simp at hm
    | succ m =>
      rw [upGo_some h,ih m (by simpa using hm)]
theorem Chain.suffix {l:List Item} {n:ByteArray} {us:List ByteArray} (h:Chain l n us): ∀{m:ByteArray},m∈us→ ∃vs ws,us=ws++vs∧Chain l m vs∧ ∃vt,vs=m::vt:=by
  induction h with
  |nil _=>intro m hm;cases hm
  | @cons n x us h k ih =>
    intro m hm
    rcases List.mem_cons.1 hm with rfl|hm
    · exact ⟨_,[],rfl, .cons h k,_,rfl⟩
    obtain ⟨vs,ws,e,hc,he⟩:=ih hm;exact ⟨vs,n::ws,by rw [e];rfl,hc,he⟩
theorem Chain.mem_look {l:List Item} {n:ByteArray} {us:List ByteArray} (h:Chain l n us) {m:ByteArray} (hm:m∈us): ∃x,look l m=some x:=by
 obtain ⟨vs,ws,_,hc,vt,rfl⟩:=h.suffix hm
 cases hc with
 |cons h _=>exact ⟨_,h⟩
theorem Chain.nodup {l:List Item} {n:ByteArray} {us:List ByteArray} (h:Chain l n us):us.Nodup:=by
  induction h with
  |nil _=>simp
  | @cons n x us h k ih =>
    rw [List.nodup_cons];refine ⟨fun hm=> ?_,ih⟩;obtain ⟨vs,ws,e,hc,_⟩:=k.suffix hm;have:=hc.det (.cons h k)
    rw [this] at e;have:=congrArg List.length e
    simp at this
    omega
theorem Chain.len {l:List Item} {n:ByteArray} {us:List ByteArray} (h:Chain l n us):us.length≤l.length:=by
 have:=h.nodup.length_le_of_subset (l₂:=l.map (·.f0)) (fun m hm=>by
  obtain ⟨x,hx⟩:=h.mem_look hm;obtain ⟨h1,rfl⟩:=look_mem hx;exact List.mem_map_of_mem h1)
 simpa using this
theorem Chain.up {l:List Item} {n:ByteArray} {us:List ByteArray} (h:Chain l n us):up l n=us:=h.upGo _ (by have:=h.len;omega)
def lt (a b:ByteArray):Bool:=Op.bytesLess a.toList b.toList
theorem bl_irrefl: ∀a:List UInt8,Op.bytesLess a a=false
 |[]=>rfl
 |x::a=>by unfold Op.bytesLess;simp [bl_irrefl a]
theorem bl_trans: ∀{a b c:List UInt8},Op.bytesLess a b=true→Op.bytesLess b c=true→Op.bytesLess a c=true
  |[],[],_,h,_=>by simp [Op.bytesLess] at h
  |[],_::_,[],_,k=>by simp [Op.bytesLess] at k
  |[],_::_,_::_,_,_=>by simp [Op.bytesLess]
  |_::_,[],_,h,_=>by simp [Op.bytesLess] at h
  |_::_,_::_,[],_,k=>by simp [Op.bytesLess] at k
  | x :: a, y :: b, z :: c, h, k => by
    simp only [Op.bytesLess,Bool.or_eq_true,Bool.and_eq_true,decide_eq_true_eq,beq_iff_eq] at h k ⊢
    rcases h with h|⟨rfl,h⟩
    · rcases k with k | ⟨rfl, k⟩
      · exact .inl (UInt8.lt_trans h k)
      exact .inl h
    rcases k with k|⟨rfl,k⟩
    · exact .inl k
    exact .inr ⟨rfl,bl_trans h k⟩
theorem bl_total: ∀{a b:List UInt8},Op.bytesLess a b=false→a≠b→Op.bytesLess b a=true
  |[],[],_,h=>absurd rfl h
  |[],_::_,h,_=>by simp [Op.bytesLess] at h
  |_::_,[],_,_=>by simp [Op.bytesLess]
  | x :: a, y :: b, h, k => by
    simp only [Op.bytesLess,Bool.or_eq_true,Bool.or_eq_false_iff,Bool.and_eq_false_iff,Bool.and_eq_true,decide_eq_true_eq,decide_eq_false_iff_not,beq_iff_eq,beq_eq_false_iff_ne] at h ⊢;obtain ⟨h1,h2⟩:=h;by_cases e:x=y
    · subst e
      rcases h2 with h2|h2
      · exact absurd rfl h2
      exact .inr ⟨rfl,bl_total h2 (fun e=>k (by rw [e]))⟩
    left
    have h3: ¬x.toNat<y.toNat:=by rwa [←UInt8.lt_iff_toNat_lt]
    have h4:x.toNat≠y.toNat:=fun q=>e (UInt8.toNat_inj.1 q)
    rw [UInt8.lt_iff_toNat_lt];omega
theorem lt_irrefl (a:ByteArray):lt a a=false:=bl_irrefl _
theorem lt_trans {a b c:ByteArray} (h:lt a b=true) (k:lt b c=true):lt a c=true:=bl_trans h k
theorem lt_total {a b:ByteArray} (h:lt a b=false) (k:a≠b):lt b a=true:=bl_total h (fun e=>k (nm_inj.1 e))
theorem lt_ne {a b:ByteArray} (h:lt a b=true):a≠b:=by rintro rfl;rw [lt_irrefl] at h;cases h
theorem lt_asymm {a b:ByteArray} (h:lt a b=true):lt b a=false:=by
 cases k:lt b a with
 |false=>rfl
 |true=>have:=lt_trans h k;rw [lt_irrefl] at this;cases this
inductive Comp where|cpu|mem|pods
def Comp.of:Comp→Vec→Int| .cpu,v=>v.f0| .mem,v=>v.f1| .pods,v=>v.f2
def vadd (a b:Vec):Vec:=⟨a.f0+b.f0,a.f1+b.f1,a.f2+b.f2⟩
def vsub (a b:Vec):Vec:=⟨a.f0 - b.f0,a.f1 - b.f1,a.f2 - b.f2⟩
theorem of_vadd (c:Comp) (a b:Vec):c.of (vadd a b)=c.of a+c.of b:=by cases c<;>rfl
theorem of_vsub (c:Comp) (a b:Vec):c.of (vsub a b)=c.of a - c.of b:=by cases c<;>rfl
def MayP (v:Vec):Prop:= ∀c:Comp,0≤c.of v∧c.of v≤1099511627776
def LeP (a b:Vec):Prop:= ∀c:Comp,c.of a≤c.of b
theorem comp_all {p:Comp→Prop}:(∀c,p c)↔p .cpu∧p .mem∧p .pods:=
 ⟨fun h=>⟨h _,h _,h _⟩,fun ⟨a,b,d⟩ c=>by cases c<;>assumption⟩
instance (v:Vec):Decidable (MayP v):=decidable_of_iff _ comp_all.symm
instance (a b:Vec):Decidable (LeP a b):=decidable_of_iff _ comp_all.symm
theorem mayP_iff {a b d:Int}:MayP ⟨a,b,d⟩↔(0≤a∧a≤1099511627776)∧(0≤b∧b≤1099511627776)∧(0≤d∧d≤1099511627776):=comp_all
theorem leP_iff {a b d a' b' d':Int}:LeP ⟨a,b,d⟩ ⟨a',b',d'⟩↔a≤a'∧b≤b'∧d≤d':=comp_all
def sumBy (g:Item→Int) (l:List Item):Int:=(l.map g).sum
theorem sumBy_nil (g:Item→Int):sumBy g []=0:=rfl
theorem sumBy_cons (g:Item→Int) (x:Item) (l:List Item):sumBy g (x::l)=g x+sumBy g l:=by simp [sumBy]
theorem sumBy_append (g:Item→Int) (l m:List Item):sumBy g (l++m)=sumBy g l+sumBy g m:=by simp [sumBy]
theorem sumBy_congr {g h:Item→Int}: ∀{l:List Item},(∀x∈l,g x=h x)→sumBy g l=sumBy h l
 |[],_=>rfl
 |x::l,e=>by rw [sumBy_cons,sumBy_cons,e x (by simp),sumBy_congr (fun y hy=>e y (by simp [hy]))]
theorem sumBy_add (g h:Item→Int): ∀l:List Item,sumBy (fun x=>g x+h x) l=sumBy g l+sumBy h l
 |[]=>rfl
 |x::l=>by rw [sumBy_cons,sumBy_cons,sumBy_cons,sumBy_add g h l];omega
theorem sumBy_sub (g h:Item→Int): ∀l:List Item,sumBy (fun x=>g x - h x) l=sumBy g l - sumBy h l
 |[]=>rfl
 |x::l=>by rw [sumBy_cons,sumBy_cons,sumBy_cons,sumBy_sub g h l];omega
theorem sumBy_map (g:Item→Int) (f:Item→Item): ∀l:List Item,sumBy g (l.map f)=sumBy (fun x=>g (f x)) l
 |[]=>rfl
 |x::l=>by rw [List.map_cons,sumBy_cons,sumBy_cons,sumBy_map g f l]
theorem sumBy_zero {g:Item→Int}: ∀{l:List Item},(∀x∈l,g x=0)→sumBy g l=0
 |[],_=>rfl
 |x::l,e=>by rw [sumBy_cons,e x (by simp),sumBy_zero (fun y hy=>e y (by simp [hy]))];rfl
theorem sumBy_nonneg {g:Item→Int}: ∀{l:List Item},(∀x∈l,0≤g x)→0≤sumBy g l
 |[],_=>by simp [sumBy_nil]
 |x::l,e=>by rw [sumBy_cons];have:=e x (by simp);have:=sumBy_nonneg (l:=l) (fun y hy=>e y (by simp [hy]));omega
theorem sumBy_one {v:Int} {l:List Item} (hn:(l.map (·.f0)).Nodup) {x:Item} (hx:x∈l):sumBy (fun y=>if y.f0=x.f0 then v else 0) l=v:=by
  induction l with
  |nil=>cases hx
  | cons y l ih =>
    rw [List.map_cons,List.nodup_cons] at hn
    rw [sumBy_cons]
    rcases List.mem_cons.1 hx with rfl|hx
    · rw [if_pos rfl,sumBy_zero (fun z hz=>if_neg (fun e=>hn.1 (by rw [←e];exact List.mem_map_of_mem hz)))];omega
    rw [if_neg (fun e=>hn.1 (by rw [e];exact List.mem_map_of_mem hx)),ih hn.2 hx];omega
def csum (c:Comp) (l:List Item) (n:ByteArray):Int:=sumBy (fun y=>if y.f1=n then c.of y.f4 else 0) l
structure ItemOK (x:Item):Prop where
 name:x.f0≠⟨#[]⟩
 size:x.f0.size≤24
 lim:MayP x.f2
 own:MayP x.f3
 sub:MayP x.f4
 fit:LeP x.f4 x.f2
 ver:1≤x.f5∧x.f5≤9007199254740992
structure RightP (l:List Item):Prop where
 len:l.length≤120
 ok: ∀x∈l,ItemOK x
 sorted:l.Pairwise (fun x y=>lt x.f0 y.f0=true)
 par: ∀x∈l,x.f1=⟨#[]⟩∨ ∃y,look l x.f1=some y
 sum: ∀c:Comp,∀x∈l,c.of x.f4=c.of x.f3+csum c l x.f0
 chain: ∀x∈l,∃us,Chain l x.f0 us
theorem sorted_nodup {l:List Item} (h:l.Pairwise (fun x y=>lt x.f0 y.f0=true)):(l.map (·.f0)).Nodup:=by
 rw [List.Nodup,List.pairwise_map];exact h.imp (fun hxy=>lt_ne hxy)
theorem RightP.nodup {l:List Item} (h:RightP l):(l.map (·.f0)).Nodup:=sorted_nodup h.sorted
theorem look_of_mem {l:List Item} (hn:(l.map (·.f0)).Nodup) {x:Item} (hx:x∈l):look l x.f0=some x:=by
  induction l with
  |nil=>cases hx
  | cons y l ih =>
    rw [List.map_cons,List.nodup_cons] at hn;unfold look;rw [List.find?_cons]
    rcases List.mem_cons.1 hx with rfl|hx
    · simp
    have:y.f0≠x.f0:=fun e=>hn.1 (by rw [e];exact List.mem_map_of_mem hx)
    simp only [this,decide_false];exact ih hn.2 hx
theorem RightP.look {l:List Item} (h:RightP l) {x:Item} (hx:x∈l):look l x.f0=some x:=look_of_mem h.nodup hx
theorem RightP.chainAll {l:List Item} (h:RightP l) (n:ByteArray):Chain l n (up l n):=by
  cases hl:Print.look l n with
  |none=>have c:=Chain.nil hl;rw [c.up];exact c
  | some x =>
    obtain ⟨hx,rfl⟩:=look_mem hl;obtain ⟨us,c⟩:=h.chain x hx;rw [c.up];exact c
theorem right_nil:RightP []:=⟨by simp,by simp,by simp,by simp,by simp,by simp⟩
theorem RightP.eq_of {l:List Item} (h:RightP l) {x y:Item} (hx:x∈l) (hy:y∈l) (e:x.f0=y.f0):x=y:=by
 have h1:=h.look hx
 rw [e,h.look hy] at h1
 exact (Option.some.inj h1).symm
theorem ite_iff {α:Type} {p q:Prop} [Decidable p] [Decidable q] (h:p↔q) {a b:α}:(if p then a else b)=if q then a else b:=by
  by_cases hp:p
  · rw [if_pos hp,if_pos (h.1 hp)]
  rw [if_neg hp,if_neg (fun k=>hp (h.2 k))]
theorem r10_Le_eq (a b d a' b' d':Int):r10_Le.f a b d a' b' d'=some (decide (LeP ⟨a,b,d⟩ ⟨a',b',d'⟩)):=by
 unfold r10_Le.f
 by_cases h0:a≤a'<;>by_cases h1:b≤b'<;>simp [h0,h1,leP_iff]
theorem r10_unit_eq (a:Int):r10_unit.f a=some (decide (0≤a∧a≤1099511627776)):=by
  unfold r10_unit.f;by_cases h0:0≤a
  · rw [if_pos (by omega)];simp [h0]
  rw [if_neg (by omega)];simp [h0]
theorem r10_MayVec_eq (a b d:Int):r10_MayVec.f a b d=some (decide (MayP ⟨a,b,d⟩)):=by
 unfold r10_MayVec.f;simp only [r10_unit_eq,Option.bind_some];by_cases h0:0≤a∧a≤1099511627776<;>by_cases h1:0≤b∧b≤1099511627776<;>simp [h0,h1,mayP_iff]
theorem r10_MayName_eq (n:ByteArray):r10_MayName.f n=some (decide (n≠⟨#[]⟩∧n.size≤24)):=by
  unfold r10_MayName.f;by_cases h:n=⟨#[]⟩
  · rw [if_pos (nm_empty.2 h)];simp [h]
  rw [if_neg (fun q=>h (nm_empty.1 q))];simp [h];omega
abbrev Want:=S39
abbrev zWant:Want:=z39
theorem rd_want (l:List Want) (i:Int):rd_T39 l i=l.getD i.toNat zWant:=rfl
theorem rd_wantN (l:List Want) {i:Nat} (h:i<l.length):rd_T39 l (i:Int)=l[i]:=by
 rw [rd_want,Int.toNat_natCast,List.getD_eq_getElem?_getD,List.getElem?_eq_getElem h,Option.getD_some]
def itW (w:Want):Item:=⟨w.f0,w.f1,w.f2,⟨0,0,0⟩,⟨0,0,0⟩,0⟩
def lookW (l:List Want) (n:ByteArray):Option Want:=l.find? (fun x=>x.f0=n)
def wfnd (l:List Want) (n:ByteArray):Int:=fidx (fun x:Want=>x.f0.toList==n.toList) l 0
theorem wlook (l:List Want) (n:ByteArray):look (l.map itW) n=(lookW l n).map itW:=by
  unfold look lookW
  induction l with
  |nil=>rfl
  | cons x l ih =>
    rw [List.map_cons,List.find?_cons,List.find?_cons]
    show (match decide (x.f0=n) with|true=>_|false=>_)=_
    by_cases h:x.f0=n
    · simp [h]
    simp [h,ih]
theorem lookW_mem {l:List Want} {n:ByteArray} {x:Want} (h:lookW l n=some x):x∈l∧x.f0=n:=by
 unfold lookW at h;exact ⟨List.mem_of_find?_eq_some h,by simpa using List.find?_some h⟩
theorem lookW_none {l:List Want} {n:ByteArray}:lookW l n=none↔ ∀x∈l,x.f0≠n:=by
 unfold lookW
 simp
theorem wpred (n:ByteArray):(fun x:Want=>x.f0.toList==n.toList)=(fun x:Want=>decide (x.f0=n)):=by
 funext x;exact nm_beq _ _
theorem wfnd_none {l:List Want} {n:ByteArray} (h:lookW l n=none):wfnd l n= -1:=by
 unfold wfnd;refine fidx_none fun x hx=> ?_
 rw [nm_beq]
 simpa using lookW_none.1 h x hx
theorem wfnd_some {l:List Want} {n:ByteArray} {x:Want} (h:lookW l n=some x): ∃j:Nat,j<l.length∧wfnd l n=j∧l.getD j zWant=x∧x.f0=n∧ ∀m,m<j→(l.getD m zWant).f0≠n:=by
 have h':l.find? (fun x:Want=>x.f0.toList==n.toList)=some x:=by rw [wpred];exact h
 obtain ⟨j,h1,h2,h3,h4,h5⟩:=fidx_some zWant (i:=0) h';refine ⟨j,h1,by unfold wfnd;rw [h2];omega,h3,by simpa [nm_beq] using h4,fun m hm=> ?_⟩
 simpa [nm_beq] using h5 m hm
theorem wfnd_lt (l:List Want) (n:ByteArray):wfnd l n<l.length:=by
 cases h:lookW l n with
 |none=>rw [wfnd_none h];omega
 |some x=>obtain ⟨j,h1,h2,_⟩:=wfnd_some h;omega
theorem wfnd_neg {l:List Want} {n:ByteArray}:wfnd l n<0↔lookW l n=none:=by
 cases h:lookW l n with
 |none=>rw [wfnd_none h];simp
 |some x=>obtain ⟨j,h1,h2,_⟩:=wfnd_some h;simp;omega
theorem wfnd_ge {l:List Want} {n:ByteArray}:0≤wfnd l n↔ ∃x,lookW l n=some x:=by
 cases h:lookW l n with
 |none=>rw [wfnd_none h];simp
 |some x=>obtain ⟨j,h1,h2,_⟩:=wfnd_some h;simp;omega
theorem wfnd_rd {l:List Want} {n:ByteArray} {x:Want} (h:lookW l n=some x):rd_T39 l (wfnd l n)=x:=by
 obtain ⟨j,h1,h2,h3,_⟩:=wfnd_some h;rw [rd_want,h2,Int.toNat_natCast];exact h3
theorem r10_wanted_l0 (l:List Want) (n:ByteArray) (hl:l.length<1000000): ∀(d i:Nat),l.length - i=d→i≤l.length→
    Ev (fun k=>r10_wanted.l0 k l n i) (fidx (fun x:Want=>x.f0.toList==n.toList) (l.drop i) i)
  | 0, i, hd, hi => by
    obtain rfl:i=l.length:=by omega
    rw [List.drop_length];exact Ev.step (fun k=>r10_wanted.l0.eq_2 (k:=k) ..) (Ev.congr (fun k=>if_neg (by omega)) (Ev.now _))
  | d + 1, i, hd, hi => by
    have hlt:i<l.length:=by omega
    rw [fidx_drop _ zWant l i hlt];have hrd:rd_T39 l (i:Int)=l.getD i zWant:=by rw [rd_want,Int.toNat_natCast]
    have e3:wrap64 ((i:Int)+1)=((i+1:Nat):Int):=by rw [w64 (by omega) (by omega)];rfl
    refine Ev.step (fun k=>r10_wanted.l0.eq_2 (k:=k) ..) (Ev.congr (fun k=>by rw [if_pos (show (i:Int)<(l.length:Int) by omega),if_pos (show 0≤(i:Int) by omega),hrd,e3]) ?_);by_cases e:(l.getD i zWant).f0.toList=n.toList
    · rw [if_pos (beq_iff_eq.2 e)]
      exact Ev.congr (fun k=>if_pos e) (Ev.now _)
    rw [if_neg (fun q=>e (beq_iff_eq.1 q))];exact Ev.congr (fun k=>if_neg e) (r10_wanted_l0 l n hl d (i+1) (by omega) (by omega))
theorem r10_wanted_ev (l:List Want) (n:ByteArray) (hl:l.length<1000000):Ev (fun k=>r10_wanted.f k l n) (wfnd l n):=r10_wanted_l0 l n hl _ 0 rfl (by omega)
def depGo (l:List Want):Nat→Int→ByteArray→Int
  |0,_,_=> -1
  | m + 1, d, n => match lookW l n with
    |none=>0
    |some w=>if d+1>(l.length:Int) then -1 else if w.f1=⟨#[]⟩ then d+1 else depGo l m (d+1) w.f1
def depR (l:List Want) (n:ByteArray):Int:=depGo l (l.length+1) 0 n
theorem depGo_succ (l:List Want) (m:Nat) (d:Int) (n:ByteArray):depGo l (m+1) d n=match lookW l n with
 |none=>0
 |some w=>if d+1>(l.length:Int) then -1 else if w.f1=⟨#[]⟩ then d+1 else depGo l m (d+1) w.f1:=rfl
theorem r10_Depth_l0 (l:List Want) (hl:l.length<1000000): ∀(m:Nat) (d:Int) (n:ByteArray),0≤d→d+m=l.length→Ev (fun k=>r10_Depth.l0 k l d (wfnd l n)) (depGo l (m+1) d n)
  | m, d, n, h0, hm => by
    rw [depGo_succ];refine Ev.step (fun k=>r10_Depth.l0.eq_2 (k:=k) ..) ?_;rw [w64 (n:=d+1) (by omega) (by omega)]
    cases h:lookW l n with
    |none=>exact Ev.congr (fun k=>if_neg (by have:=wfnd_neg.2 h;omega)) (Ev.now _)
    | some x =>
      have g0:=wfnd_ge.2 ⟨x,h⟩;have g1:=wfnd_lt l n;rw [wfnd_rd h];dsimp only;by_cases c:d+1>(l.length:Int)
      · rw [if_pos c]
        exact Ev.congr (fun k=>by rw [if_pos g0,if_pos c]) (Ev.now _)
      rw [if_neg c];by_cases e:x.f1=⟨#[]⟩
      · rw [if_pos e]
        exact Ev.congr (fun k=>by rw [if_pos g0,if_neg c,if_pos g0,if_pos g1,if_pos (nm_empty.2 e)]) (Ev.now _)
      rw [if_neg e];refine Ev.congr (fun k=>by rw [if_pos g0,if_neg c,if_pos g0,if_pos g1,if_neg (fun q=>e (nm_empty.1 q))]) (Ev.bind (r10_wanted_ev l x.f1 hl) ?_)
      match m,hm with
      |0,hm=>omega
      |m+1,hm=>exact r10_Depth_l0 l hl m (d+1) x.f1 (by omega) (by omega)
theorem r10_Depth_ev (l:List Want) (n:ByteArray) (hl:l.length<1000000):Ev (fun k=>r10_Depth.f k l n) (depR l n):=by
 unfold r10_Depth.f;exact Ev.bind (r10_wanted_ev l n hl) (r10_Depth_l0 l hl l.length 0 n (by omega) (by omega))
def ParW (l:List Want):Prop:=(∀w∈l,w.f0≠⟨#[]⟩)∧ ∀w∈l,w.f1≠⟨#[]⟩→ ∃x,lookW l w.f1=some x
abbrev ChainW (l:List Want) (n:ByteArray) (us:List ByteArray):Prop:=Chain (l.map itW) n us
theorem ParW.root {l:List Want} (h:ParW l):lookW l ⟨#[]⟩=none:=lookW_none.2 fun x hx e=>h.1 x hx e
theorem chainW_cons {l:List Want} {n:ByteArray} {us:List ByteArray} {x:Want} (h:lookW l n=some x) (k:ChainW l x.f1 us):ChainW l n (n::us):= .cons (x:=itW x) (by rw [wlook,h];rfl) k
theorem chainW_nil {l:List Want} {n:ByteArray} (h:lookW l n=none):ChainW l n []:= .nil (by rw [wlook,h];rfl)
theorem chainW_inv {l:List Want} {n:ByteArray} {us:List ByteArray} (h:ChainW l n us):(lookW l n=none∧us=[])∨ ∃x vs,lookW l n=some x∧us=n::vs∧ChainW l x.f1 vs:=by
  cases h with
  | nil h1 =>
    rw [wlook] at h1;exact .inl ⟨by simpa using h1,rfl⟩
  | @cons _ y vs h1 k =>
    rw [wlook] at h1;obtain ⟨x,hx,rfl⟩:=Option.map_eq_some_iff.1 h1;exact .inr ⟨x,vs,hx,rfl,k⟩
theorem chainW_len {l:List Want} {n:ByteArray} {us:List ByteArray} (h:ChainW l n us):us.length≤l.length:=by
 have:=h.len
 rwa [List.length_map] at this
theorem depGo_chain {l:List Want} (hp:ParW l): ∀(us:List ByteArray) (m:Nat) (d:Int) (n:ByteArray),ChainW l n us→d+us.length≤l.length→us.length≤m→depGo l (m+1) d n=if us=[] then 0 else d+us.length
  | us, m, d, n, h, hd, hm => by
    rw [depGo_succ]
    rcases chainW_inv h with ⟨h0,e0⟩|⟨x,vs,h0,e0,k⟩
    · subst e0
      rw [h0,if_pos rfl]
    subst e0;rw [h0];dsimp only;rw [List.length_cons] at hd hm ⊢;rw [if_neg (show¬d+1>(l.length:Int) by omega),if_neg (show¬(n::vs=[]) by simp)]
    rcases chainW_inv k with ⟨h1,rfl⟩|⟨y,ws,h1,rfl,k1⟩
    · have e:x.f1=⟨#[]⟩:=by
        refine Classical.byContradiction fun q=> ?_
        obtain ⟨z,hz⟩:=hp.2 x (lookW_mem h0).1 q;rw [h1] at hz;cases hz
      rw [if_pos e];rfl
    have e:x.f1≠⟨#[]⟩:=fun q=>by rw [q,hp.root] at h1;cases h1
    rw [if_neg e]
    match m,hm with
    |0,hm=>omega
    | m + 1, hm =>
      rw [depGo_chain hp (x.f1::ws) m (d+1) x.f1 k (by omega) (by omega),if_neg (by simp)]
      omega
theorem depGo_none {l:List Want} (hp:ParW l): ∀(m:Nat) (d:Int) (n:ByteArray),d+m=l.length→(∀us,¬ChainW l n us)→depGo l (m+1) d n= -1
  | m, d, n, hd, h => by
    rw [depGo_succ]
    cases hx:lookW l n with
    |none=>exact absurd (chainW_nil hx) (h [])
    | some x =>
      dsimp only;by_cases c:d+1>(l.length:Int)
      · rw [if_pos c]
      have e:x.f1≠⟨#[]⟩:=fun q=>h [n] (chainW_cons hx (chainW_nil (by rw [q];exact hp.root)))
      rw [if_neg c,if_neg e]
      match m,hd with
      |0,hd=>omega
      |m+1,hd=>exact depGo_none hp m (d+1) x.f1 (by omega) (fun us k=>h _ (chainW_cons hx k))
theorem depR_chain {l:List Want} (hp:ParW l) {n:ByteArray} {us:List ByteArray} (h:ChainW l n us):depR l n=us.length:=by
  have hl:=chainW_len h;unfold depR;rw [depGo_chain hp us l.length 0 n h (by omega) hl];by_cases e:us=[]
  · rw [if_pos e,e];rfl
  rw [if_neg e];omega
theorem depR_none {l:List Want} (hp:ParW l) {n:ByteArray} (h: ∀us,¬ChainW l n us):depR l n= -1:=depGo_none hp _ _ _ (by omega) h
theorem depR_some {l:List Want} (hp:ParW l) {n:ByteArray} {x:Want} (hx:lookW l n=some x) (h:0<depR l n):depR l n=depR l x.f1+1∧0≤depR l x.f1∧(x.f1≠⟨#[]⟩→0<depR l x.f1):=by
  by_cases c: ∃us,ChainW l n us
  rotate_left
  · rw [depR_none hp (fun us k => c ⟨us, k⟩)] at h
    omega
  obtain ⟨us,c⟩:=c
  rcases chainW_inv c with ⟨h1,rfl⟩|⟨y,vs,h1,rfl,k⟩
  · rw [hx] at h1;cases h1
  rw [hx] at h1
  obtain rfl:=Option.some.inj h1
  rw [depR_chain hp c,depR_chain hp k,List.length_cons]
  refine ⟨by omega,by omega,fun e=> ?_⟩
  rcases chainW_inv k with ⟨h2,rfl⟩|⟨z,ws,h2,rfl,k2⟩
  · obtain ⟨z, hz⟩ := hp.2 x (lookW_mem hx).1 e
    rw [h2] at hz;cases hz
  rw [List.length_cons];omega
def mayW (w:Want):Bool:=decide ((w.f0≠⟨#[]⟩∧w.f0.size≤24)∧MayP w.f2)
def ph1:List Want→List Want→Int
 |_,[]=>0
 |pre,w::ws=>if mayW w=true then (if (lookW pre w.f0).isSome=true then 3 else ph1 (pre++ [w]) ws) else 1
def sumGo (n:ByteArray):List Want→Vec→Vec
 |[],v=>v
 |w::ws,v=>sumGo n ws (if w.f1=n then vadd v w.f2 else v)
def sumW (l:List Want) (n:ByteArray):Vec:=sumGo n l ⟨0,0,0⟩
def noPar (l:List Want) (w:Want):Bool:=decide (w.f1≠⟨#[]⟩∧lookW l w.f1=none)
def checkR (l:List Want):Int:=
 if l.length>120 then 4 else if ph1 [] l≠0 then ph1 [] l else if l.any (noPar l)=true then 2 else if l.any (fun w=>decide (depR l w.f0<1))=true then 10 else if l.any (fun w=> !decide (LeP (sumW l w.f0) w.f2))=true then 11 else 0
theorem ph1_ok: ∀{ws pre:List Want},ph1 pre ws=0→ ∀w∈ws,mayW w=true
  |[],_,_,w,hw=>by cases hw
  | x :: ws, pre, h, w, hw => by
    unfold ph1 at h;by_cases c:mayW x=true;rotate_left
    · rw [if_neg c] at h;omega
    rw [if_pos c] at h;by_cases e:(lookW pre x.f0).isSome=true
    · rw [if_pos e] at h;omega
    rw [if_neg e] at h
    rcases List.mem_cons.1 hw with rfl|hw
    · exact c
    exact ph1_ok h w hw
theorem ph1_nodup: ∀{ws pre:List Want},ph1 pre ws=0→(pre.map (·.f0)).Nodup→((pre++ws).map (·.f0)).Nodup
  |[],pre,_,hn=>by rwa [List.append_nil]
  | x :: ws, pre, h, hn => by
    unfold ph1 at h;by_cases c:mayW x=true;rotate_left
    · rw [if_neg c] at h;omega
    rw [if_pos c] at h;by_cases e:(lookW pre x.f0).isSome=true
    · rw [if_pos e] at h;omega
    rw [if_neg e] at h
    have q:=ph1_nodup h (by
      rw [List.map_append,List.map_cons,List.map_nil,List.nodup_append];refine ⟨hn,by simp, ?_⟩;intro a ha b hb;obtain ⟨y,hy,rfl⟩:=List.mem_map.1 ha;rw [List.mem_singleton] at hb;subst hb;have hz:lookW pre x.f0=none:=by simpa using e
      exact fun q=>lookW_none.1 hz y hy q)
    rwa [List.append_assoc] at q
theorem ph1_01: ∀(ws pre:List Want),ph1 pre ws=0∨ph1 pre ws=1∨ph1 pre ws=3
  |[],_=> .inl rfl
  | x :: ws, pre => by
    unfold ph1
    split
    rotate_left
    · exact .inr (.inl rfl)
    split
    · exact .inr (.inr rfl)
    exact ph1_01 ws _
theorem mayW_iff {w:Want}:mayW w=true↔(w.f0≠⟨#[]⟩∧w.f0.size≤24)∧MayP w.f2:=by unfold mayW;rw [decide_eq_true_iff]
structure TreeW (l:List Want):Prop where
 len:l.length≤120
 may: ∀w∈l,mayW w=true
 nodup:(l.map (·.f0)).Nodup
 par:ParW l
 dep: ∀w∈l,1≤depR l w.f0
theorem any_false {α:Type} {p:α→Bool} {l:List α}: ¬l.any p=true↔ ∀x∈l,p x=false:=by simp
theorem checkR_tree {l:List Want} (h:checkR l=0∨checkR l=11):TreeW l:=by
  unfold checkR at h;by_cases c0:l.length>120
  · rw [if_pos c0] at h;omega
  rw [if_neg c0] at h;by_cases c1:ph1 [] l≠0
  · rw [if_pos c1] at h
    rcases ph1_01 l [] with q|q|q<;>omega
  rw [if_neg c1] at h;have c1':ph1 [] l=0:=by omega
  by_cases c2:l.any (noPar l)=true
  · rw [if_pos c2] at h;omega
  rw [if_neg c2] at h;by_cases c3:l.any (fun w=>decide (depR l w.f0<1))=true
  · rw [if_pos c3] at h;omega
  have hm:=ph1_ok c1';refine ⟨by omega,hm, ?_,⟨fun w hw=>(mayW_iff.1 (hm w hw)).1.1,fun w hw e=> ?_⟩,fun w hw=> ?_⟩
  · have := ph1_nodup c1' (by simp)
    rwa [List.nil_append] at this
  rotate_left
  · have q := any_false.1 c3 w hw
    rw [decide_eq_false_iff_not] at q
    omega
  have q:=any_false.1 c2 w hw;unfold noPar at q;rw [decide_eq_false_iff_not] at q
  cases hx:lookW l w.f1 with
  |none=>exact absurd ⟨e,hx⟩ q
  |some x=>exact ⟨x,rfl⟩
theorem checkR_of {l:List Want} (h:TreeW l):checkR l=if l.any (fun w=> !decide (LeP (sumW l w.f0) w.f2))=true then 11 else 0:=by
  have e1:ph1 [] l=0:=by
    have: ∀ws pre:List Want,(∀w∈ws,mayW w=true)→((pre++ws).map (·.f0)).Nodup→ph1 pre ws=0:=by
      intro ws
      induction ws with
      |nil=>intro pre _ _;rfl
      | cons x ws ih =>
        intro pre hm hn;unfold ph1;rw [if_pos (hm x (by simp)),if_neg,ih (pre++ [x]) (fun w hw=>hm w (by simp [hw])) (by rwa [List.append_assoc])]
        have hz:lookW pre x.f0=none:=lookW_none.2 fun y hy q=>by
          rw [List.map_append,List.map_cons,List.nodup_append] at hn;exact hn.2.2 y.f0 (List.mem_map_of_mem hy) x.f0 (by simp) q
        rw [hz];simp
    exact this l [] h.may (by simpa using h.nodup)
  unfold checkR;rw [if_neg (by have:=h.len;omega),if_neg (by omega),if_neg,if_neg]
  · rw [any_false]
    intro w hw
    rw [decide_eq_false_iff_not]
    have:=h.dep w hw
    omega
  rw [any_false];intro w hw;unfold noPar;rw [decide_eq_false_iff_not];rintro ⟨a,b⟩;obtain ⟨x,hx⟩:=h.par.2 w hw a;rw [b] at hx;cases hx
theorem nx64 {i n:Nat} (h:i<n) (hn:n<1000000):wrap64 ((i:Int)+1)=((i+1:Nat):Int):=by rw [w64 (by omega) (by omega)];rfl
def UptoV (n:Nat) (v:Vec):Prop:= ∀c:Comp,0≤c.of v∧c.of v≤1099511627776*(n:Int)
theorem uptoV_add {n:Nat} {v u:Vec} (h:UptoV n v) (hu:MayP u):UptoV (n+1) (vadd v u):=fun c=>by
 have:=h c;have:=hu c
 rw [of_vadd]
 omega
theorem uptoV_succ {n:Nat} {v:Vec} (h:UptoV n v):UptoV (n+1) v:=fun c=>by have:=h c;omega
theorem add_upto {n:Nat} (hn:n≤1000) {v u:Vec} (h:UptoV n v) (hu:MayP u):r10_Add.f v.f0 v.f1 v.f2 u.f0 u.f1 u.f2=some ((vadd v u).f0,(vadd v u).f1,(vadd v u).f2):=by
 have a:=h .cpu;have b:=h .mem;have d:=h .pods;have a':=hu .cpu;have b':=hu .mem;have d':=hu .pods;simp only [Comp.of] at a b d a' b' d';unfold r10_Add.f;rw [w64 (by omega) (by omega),w64 (by omega) (by omega),w64 (by omega) (by omega)]
 rfl
def badSum (l:List Want) (w:Want):Bool:= !decide (LeP (sumW l w.f0) w.f2)
def badDep (l:List Want) (w:Want):Bool:=decide (depR l w.f0<1)
theorem chk_l4 {l:List Want} (hl:l.length≤120) (hm: ∀w∈l,MayP w.f2) {i:Nat} (hi:i<l.length) {r:Int} (hr:LeP (sumW l l[i].f0) l[i].f2→Ev (fun k=>r10_Check.l3 k l ((i+1:Nat):Int)) r) (hb: ¬LeP (sumW l l[i].f0) l[i].f2→r=11):
    ∀(d j:Nat) (v:Vec),l.length - j=d→j≤l.length→UptoV j v→sumGo l[i].f0 (l.drop j) v=sumW l l[i].f0→Ev (fun k=>r10_Check.l4 k l (i:Int) (j:Int) v.f0 v.f1 v.f2) r
  | 0, j, v, hd, hj, hv, hs => by
    rw [List.drop_of_length_le (by omega)] at hs;unfold sumGo at hs;refine Ev.step (fun k=>r10_Check.l4.eq_2 (k:=k) ..) ?_;rw [rd_wantN l hi,nx64 hi (by omega)];refine Ev.congr (fun k=>by rw [if_neg (by omega),if_pos (by omega),if_pos (by omega),r10_Le_eq]) ?_;simp only [Option.bind_some];by_cases c:LeP (sumW l l[i].f0) l[i].f2
    · exact Ev.congr (fun k=>if_pos (by rw [decide_eq_true_iff,hs];exact c)) (hr c)
    rw [hb c];exact Ev.congr (fun k=>if_neg (by rw [decide_eq_true_iff,hs];exact c)) (Ev.now _)
  | d + 1, j, v, hd, hj, hv, hs => by
    have hlt:j<l.length:=by omega
    rw [List.drop_eq_getElem_cons hlt] at hs;unfold sumGo at hs;refine Ev.step (fun k=>r10_Check.l4.eq_2 (k:=k) ..) ?_;rw [rd_wantN l hi,rd_wantN l hlt,nx64 hlt (by omega)];refine Ev.congr (fun k=>by rw [if_pos (by omega),if_pos (by omega),if_pos (by omega),if_pos (by omega)]) ?_;by_cases c:l[j].f1=l[i].f0
    · rw [if_pos c] at hs
      refine Ev.congr (fun k=>by rw [if_pos (nm_inj.2 c),add_upto (by omega) hv (hm _ (List.getElem_mem hlt))]) ?_
      simp only [Option.bind_some]
      exact chk_l4 hl hm hi hr hb d (j+1) _ (by omega) (by omega) (uptoV_add hv (hm _ (List.getElem_mem hlt))) hs
    rw [if_neg c] at hs;refine Ev.congr (fun k=>if_neg (fun q=>c (nm_inj.1 q))) ?_;exact chk_l4 hl hm hi hr hb d (j+1) v (by omega) (by omega) (uptoV_succ hv) hs
theorem chk_l3 {l:List Want} (hl:l.length≤120) (hm: ∀w∈l,MayP w.f2): ∀(d i:Nat),l.length - i=d→i≤l.length→Ev (fun k=>r10_Check.l3 k l (i:Int)) (if (l.drop i).any (badSum l)=true then 11 else 0)
  | 0, i, hd, hi => by
    rw [List.drop_of_length_le (by omega)];exact Ev.step (fun k=>r10_Check.l3.eq_2 (k:=k) ..) (Ev.congr (fun k=>if_neg (by omega)) (Ev.now _))
  | d + 1, i, hd, hi => by
    have hlt:i<l.length:=by omega
    have next:=chk_l3 hl hm d (i+1) (by omega) (by omega);rw [List.drop_eq_getElem_cons hlt,List.any_cons];refine Ev.step (fun k=>r10_Check.l3.eq_2 (k:=k) ..) (Ev.congr (fun k=>if_pos (by omega)) ?_);refine chk_l4 hl hm hlt (fun c=> ?_) (fun c=> ?_) l.length 0 ⟨0,0,0⟩ (by omega) (by omega) (fun c=>by cases c<;>exact ⟨Int.le_refl _,by simp [Comp.of]⟩) (by rw [List.drop_zero];rfl)
    · rw [show badSum l l[i] = false from by unfold badSum; rw [decide_eq_true c]; rfl, Bool.false_or]
      exact next
    rw [show badSum l l[i]=true from by unfold badSum;rw [decide_eq_false c];rfl,Bool.true_or,if_pos rfl]
theorem chk_l2 {l:List Want} (hl:l.length≤120) {r:Int} (hr:Ev (fun k=>r10_Check.l3 k l 0) r): ∀(d i:Nat),l.length - i=d→i≤l.length→Ev (fun k=>r10_Check.l2 k l (i:Int)) (if (l.drop i).any (badDep l)=true then 10 else r)
  | 0, i, hd, hi => by
    rw [List.drop_of_length_le (by omega)];exact Ev.step (fun k=>r10_Check.l2.eq_2 (k:=k) ..) (Ev.congr (fun k=>if_neg (by omega)) hr)
  | d + 1, i, hd, hi => by
    have hlt:i<l.length:=by omega
    have next:=chk_l2 hl hr d (i+1) (by omega) (by omega);rw [List.drop_eq_getElem_cons hlt,List.any_cons];refine Ev.step (fun k=>r10_Check.l2.eq_2 (k:=k) ..) ?_;rw [rd_wantN l hlt,nx64 hlt (by omega)];refine Ev.congr (fun k=>by rw [if_pos (by omega),if_pos (by omega)]) (Ev.bind (r10_Depth_ev l l[i].f0 (by omega)) ?_);by_cases c:depR l l[i].f0<1
    · rw [show badDep l l[i] = true from decide_eq_true c, Bool.true_or, if_pos rfl]
      exact Ev.congr (fun k=>if_pos c) (Ev.now _)
    rw [show badDep l l[i]=false from decide_eq_false c,Bool.false_or];exact Ev.congr (fun k=>if_neg c) next
theorem chk_l1 {l:List Want} (hl:l.length≤120) {r:Int} (hr:Ev (fun k=>r10_Check.l2 k l 0) r): ∀(d i:Nat),l.length - i=d→i≤l.length→Ev (fun k=>r10_Check.l1 k l (i:Int)) (if (l.drop i).any (noPar l)=true then 2 else r)
  | 0, i, hd, hi => by
    rw [List.drop_of_length_le (by omega)];exact Ev.step (fun k=>r10_Check.l1.eq_2 (k:=k) ..) (Ev.congr (fun k=>if_neg (by omega)) hr)
  | d + 1, i, hd, hi => by
    have hlt:i<l.length:=by omega
    have next:=chk_l1 hl hr d (i+1) (by omega) (by omega);rw [List.drop_eq_getElem_cons hlt,List.any_cons];refine Ev.step (fun k=>r10_Check.l1.eq_2 (k:=k) ..) ?_;rw [rd_wantN l hlt,nx64 hlt (by omega)];refine Ev.congr (fun k=>by rw [if_pos (by omega),if_pos (by omega)]) ?_;by_cases e:l[i].f1=⟨#[]⟩
    · rw [show noPar l l[i] = false from decide_eq_false (fun q => q.1 e), Bool.false_or]
      exact Ev.congr (fun k=>if_pos (nm_empty.2 e)) next
    refine Ev.congr (fun k=>if_neg (fun q=>e (nm_empty.1 q))) (Ev.bind (r10_wanted_ev l l[i].f1 (by omega)) ?_);by_cases c:lookW l l[i].f1=none
    · rw [show noPar l l[i] = true from decide_eq_true ⟨e, c⟩, Bool.true_or, if_pos rfl]
      exact Ev.congr (fun k=>if_pos (wfnd_neg.2 c)) (Ev.now _)
    rw [show noPar l l[i]=false from decide_eq_false (fun q=>c q.2),Bool.false_or];exact Ev.congr (fun k=>if_neg (fun q=>c (wfnd_neg.1 q))) next
theorem take_next {l:List Want} {i:Nat} (h:i<l.length):l.take (i+1)=l.take i++ [l[i]]:=by
 rw [List.take_add_one,List.getElem?_eq_getElem h];rfl
theorem chk_l0 {l:List Want} (hl:l.length≤120) {r:Int} (hr:ph1 [] l=0→Ev (fun k=>r10_Check.l1 k l 0) r): ∀(d i:Nat),l.length - i=d→i≤l.length→ph1 [] l=ph1 (l.take i) (l.drop i)→Ev (fun k=>r10_Check.l0 k l (i:Int)) (if ph1 [] l≠0 then ph1 [] l else r)
  | 0, i, hd, hi, he => by
    rw [List.drop_of_length_le (by omega)] at he;unfold ph1 at he;have he':ph1 [] l=0:=by cases l<;>exact he
    rw [if_neg (by omega)];exact Ev.step (fun k=>r10_Check.l0.eq_2 (k:=k) ..) (Ev.congr (fun k=>if_neg (by omega)) (hr he'))
  | d + 1, i, hd, hi, he => by
    have hlt:i<l.length:=by omega
    have next:=chk_l0 hl hr d (i+1) (by omega) (by omega);rw [List.drop_eq_getElem_cons hlt] at he;have he2:ph1 (l.take i) (l[i]::l.drop (i+1))=if mayW l[i]=true then (if (lookW (l.take i) l[i].f0).isSome=true then 3 else ph1 (l.take i++ [l[i]]) (l.drop (i+1))) else 1:=rfl;rw [he2,←take_next hlt] at he
    have j1: ∀b,b= !mayW l[i]→Ev (fun k=>r10_Check.j1 k l (i:Int) b) (if ph1 [] l≠0 then ph1 [] l else r):=by
      intro b hb;refine Ev.step (fun k=>r10_Check.j1.eq_2 (k:=k) ..) ?_;rw [rd_wantN l hlt,nx64 hlt (by omega),Int.toNat_natCast];by_cases c:mayW l[i]=true;rotate_left
      · rw [if_neg c] at he
        rw [Bool.eq_false_iff.2 c] at hb
        subst hb
        rw [he,if_pos (by decide)]
        exact Ev.congr (fun k=>if_pos rfl) (Ev.now _)
      rw [if_pos c] at he;rw [c] at hb;subst hb;refine Ev.congr (fun k=>by rw [if_neg (by simp),if_pos (by omega),if_pos (by omega),if_pos (by omega)]) (Ev.bind (r10_wanted_ev (l.take i) l[i].f0 (by rw [List.length_take];omega)) ?_);by_cases e:(lookW (l.take i) l[i].f0).isSome=true
      · rw [if_pos e] at he
        rw [he,if_pos (by decide)]
        exact Ev.congr (fun k=>if_pos (wfnd_ge.2 (Option.isSome_iff_exists.1 e))) (Ev.now _)
      rw [if_neg e] at he;exact Ev.congr (fun k=>if_neg (fun q=>e (Option.isSome_iff_exists.2 (wfnd_ge.1 q)))) (next he)
    refine Ev.step (fun k=>r10_Check.l0.eq_2 (k:=k) ..) ?_;rw [rd_wantN l hlt];refine Ev.congr (fun k=>by rw [if_pos (by omega),if_pos (by omega),r10_MayName_eq,r10_MayVec_eq]) ?_;simp only [Option.bind_some];by_cases e:l[i].f0≠⟨#[]⟩∧l[i].f0.size≤24;rotate_left
    · refine Ev.congr (fun k => if_neg (by rw [decide_eq_true_iff]; exact e)) (j1 _ ?_)
      unfold mayW
      rw [decide_eq_false (fun h=>e h.1)];rfl
    refine Ev.congr (fun k=>if_pos (decide_eq_true e)) (j1 _ ?_);unfold mayW;by_cases q:MayP l[i].f2
    · rw [decide_eq_true (show MayP ⟨l[i].f2.f0,l[i].f2.f1,l[i].f2.f2⟩ from q),decide_eq_true ⟨e,q⟩]
    rw [decide_eq_false (show¬MayP ⟨l[i].f2.f0,l[i].f2.f1,l[i].f2.f2⟩ from q),decide_eq_false (fun h=>q h.2)]
theorem r10_Check_ev (l:List Want):Ev (fun k=>r10_Check.f k l) (checkR l):=by
  unfold r10_Check.f checkR;by_cases c:l.length>120
  · rw [if_pos c]
    exact Ev.congr (fun k=>if_pos (by omega)) (Ev.now _)
  rw [if_neg c];refine Ev.congr (fun k=>if_neg (by omega)) ?_;refine chk_l0 (by omega) (fun h0=> ?_) l.length 0 (by omega) (by omega) (by rw [List.take_zero,List.drop_zero]);have hm: ∀w∈l,MayP w.f2:=fun w hw=>(mayW_iff.1 (ph1_ok h0 w hw)).2
  have h3:=chk_l3 (by omega) hm l.length 0 (by omega) (by omega);have h2:=chk_l2 (by omega) h3 l.length 0 (by omega) (by omega);have h1:=chk_l1 (by omega) h2 l.length 0 (by omega) (by omega);rw [List.drop_zero] at h1 h2 h3;exact h1
def bef (l:List Want) (a b:Want):Bool:=decide (depR l a.f0<depR l b.f0)||(decide (depR l a.f0=depR l b.f0) && lt a.f0 b.f0)
def insT (l:List Want) (w:Want) (out:List Want):List Want:=out.takeWhile (fun a=>bef l a w)++w::out.dropWhile (fun a=>bef l a w)
def topGo (l:List Want) (out:List Want):List Want→List Want
 |[]=>out
 |w::ws=>topGo l (insT l w out) ws
def topR (l:List Want):List Want:=topGo l [] l
theorem len_insT (l:List Want) (w:Want) (out:List Want):(insT l w out).length=out.length+1:=by
 unfold insT;have:=congrArg List.length (List.takeWhile_append_dropWhile (p:=fun a=>bef l a w) (l:=out))
 rw [List.length_append] at this;rw [List.length_append,List.length_cons]
 omega
theorem while_at {α:Type} {p:α→Bool}: ∀{out:List α} {j:Nat},j≤out.length→(∀m (h:m<out.length),m<j→p out[m]=true)→(∀h:j<out.length,p out[j]=false)→out.takeWhile p=out.take j∧out.dropWhile p=out.drop j
  |[],0,_,_,_=>⟨rfl,rfl⟩
  |[],j+1,h,_,_=>by simp at h
  | x :: out, 0, _, _, h => by
    have q:=h (by simp);rw [List.getElem_cons_zero] at q;rw [List.takeWhile_cons,List.dropWhile_cons,q];exact ⟨rfl,rfl⟩
  | x :: out, j + 1, hj, h1, h2 => by
    have q:=h1 0 (by simp) (by omega);rw [List.getElem_cons_zero] at q;rw [List.takeWhile_cons,List.dropWhile_cons,q];obtain ⟨a,b⟩:=while_at (p:=p) (out:=out) (j:=j) (by simpa using hj) (fun m h hm=>by have:=h1 (m+1) (by simpa using h) (by omega);simpa using this) (fun h=>by have:=h2 (by simpa using h);simpa using this)
    simp [a,b]
theorem top_put {l out:List Want} (hl:l.length≤1000) (ho:out.length≤1000) {i:Nat} (hi:i<l.length) {j:Nat} (hj:j≤out.length) {r:List Want} (hr:Ev (fun k=>r10_Top.l0 k l (insT l l[i] out) ((i+1:Nat):Int)) r)
  (h1: ∀m (h:m<out.length),m<j→bef l out[m] l[i]=true) (h2: ∀h:j<out.length,bef l out[j] l[i]=false):Ev (fun k=>r10_Top.l0 k l ((([]++out.take j)++ [l[i]])++out.drop j) ((i+1:Nat):Int)) r:=by
 obtain ⟨a,b⟩:=while_at (p:=fun a=>bef l a l[i]) hj h1 h2;unfold insT at hr;rw [a,b] at hr;rw [List.nil_append,List.append_assoc,List.singleton_append];exact hr
theorem top_l1 {l out:List Want} (hl:l.length≤1000) (ho:out.length≤1000) {i:Nat} (hi:i<l.length) {r:List Want} (hr:Ev (fun k=>r10_Top.l0 k l (insT l l[i] out) ((i+1:Nat):Int)) r):
    ∀(d j:Nat),out.length - j=d→j≤out.length→(∀m (h:m<out.length),m<j→bef l out[m] l[i]=true)→Ev (fun k=>r10_Top.l1 k l out (i:Int) (depR l l[i].f0) (j:Int)) r
  | 0, j, hd, hj, h1 => by
    refine Ev.step (fun k=>r10_Top.l1.eq_2 (k:=k) ..) ?_;rw [rd_wantN l hi,nx64 hi (by omega),Int.toNat_natCast];have lt1:([]++out.take j).length≤1000:=by rw [List.nil_append,List.length_take];omega
    have lt2:(out.drop j).length≤1000:=by rw [List.length_drop];omega
    refine Ev.congr (fun k=>by rw [if_neg (by omega),Option.bind_some,if_pos (by omega),if_pos (by omega),Option.bind_some,if_pos (by rw [List.length_nil,List.length_take];omega),Option.bind_some,if_pos (by omega),if_pos (by omega),if_pos (by omega),Option.bind_some,Option.bind_some,if_pos (by rw [List.length_append,List.length_singleton];omega)]) ?_;exact top_put hl ho hi hj hr h1 (fun h=>by omega)
  | d + 1, j, hd, hj, h1 => by
    have hlt:j<out.length:=by omega
    have lt1:([]++out.take j).length≤1000:=by rw [List.nil_append,List.length_take];omega
    have lt2:(out.drop j).length≤1000:=by rw [List.length_drop];omega
    have next:bef l out[j] l[i]=true→Ev (fun k=>r10_Top.l1 k l out (i:Int) (depR l l[i].f0) ((j+1:Nat):Int)) r:=fun hb=>top_l1 hl ho hi hr d (j+1) (by omega) (by omega) (fun m h hm=>by
      by_cases e:m=j
      · subst e;exact hb
      exact h1 m h (by omega))
    refine Ev.step (fun k=>r10_Top.l1.eq_2 (k:=k) ..) ?_;rw [rd_wantN l hi,rd_wantN out hlt,nx64 hi (by omega),nx64 hlt (by omega),Int.toNat_natCast];refine Ev.congr (fun k=>by rw [if_pos (by omega),if_pos (by omega)]) (Ev.bind (r10_Depth_ev l out[j].f0 (by omega)) ?_);by_cases c1:depR l out[j].f0<depR l l[i].f0
    · exact Ev.congr (fun k=>if_pos c1) (next (by unfold bef;rw [decide_eq_true c1];rfl))
    refine Ev.congr (fun k=>if_neg c1) (Ev.bind (r10_Depth_ev l out[j].f0 (by omega)) ?_);by_cases c2:depR l out[j].f0=depR l l[i].f0;rotate_left
    · refine Ev.congr (fun k => by rw [if_neg c2, Option.bind_some, if_pos (by omega), Option.bind_some, if_pos (by rw [List.length_nil, List.length_take]; omega), Option.bind_some, if_pos (by omega), if_pos (by omega), if_pos (by omega), Option.bind_some, Option.bind_some, if_pos (by rw [List.length_append, List.length_singleton]; omega)]) ?_
      exact top_put hl ho hi hj hr h1 (fun h=>by unfold bef;rw [decide_eq_false c1,decide_eq_false c2];simp)
    refine Ev.congr (fun k=>by rw [if_pos c2,if_pos (by omega),if_pos (by omega)]) ?_;by_cases c3:lt out[j].f0 l[i].f0=true
    · exact Ev.congr (fun k=>if_pos (show Op.bytesLess out[j].f0.toList l[i].f0.toList=true from c3)) (next (by unfold bef;rw [decide_eq_true c2,c3];simp))
    refine Ev.congr (fun k=>by rw [if_neg (show¬Op.bytesLess out[j].f0.toList l[i].f0.toList=true from c3),Option.bind_some,if_pos (by omega),Option.bind_some,if_pos (by rw [List.length_nil,List.length_take];omega),Option.bind_some,if_pos (by omega),Option.bind_some,Option.bind_some,if_pos (by rw [List.length_append,List.length_singleton];omega)]) ?_;exact top_put hl ho hi hj hr h1 (fun h=>by unfold bef;rw [decide_eq_false c1,Bool.eq_false_iff.2 c3];simp)
theorem top_l0 {l:List Want} (hl:l.length≤500): ∀(d i:Nat) (out:List Want),l.length - i=d→i≤l.length→out.length=i→Ev (fun k=>r10_Top.l0 k l out (i:Int)) (topGo l out (l.drop i))
  | 0, i, out, hd, hi, ho => by
    rw [List.drop_of_length_le (by omega)];exact Ev.step (fun k=>r10_Top.l0.eq_2 (k:=k) ..) (Ev.congr (fun k=>if_neg (by omega)) (Ev.now _))
  | d + 1, i, out, hd, hi, ho => by
    have hlt:i<l.length:=by omega
    have next:=top_l0 hl d (i+1) (insT l l[i] out) (by omega) (by omega) (by rw [len_insT];omega);rw [List.drop_eq_getElem_cons hlt];refine Ev.step (fun k=>r10_Top.l0.eq_2 (k:=k) ..) ?_;rw [rd_wantN l hlt];refine Ev.congr (fun k=>by rw [if_pos (by omega),if_pos (by omega)]) (Ev.bind (r10_Depth_ev l l[i].f0 (by omega)) ?_);exact top_l1 (by omega) (by omega) hlt next out.length 0 (by omega) (by omega) (fun m h hm=>by omega)
theorem r10_Top_ev {l:List Want} (hl:l.length≤500):Ev (fun k=>r10_Top.f k l) (topR l):=by
 have h:=top_l0 hl l.length 0 [] (by omega) (by omega) rfl;rw [List.drop_zero] at h;exact h
theorem bef_iff {l:List Want} {a b:Want}:bef l a b=true↔depR l a.f0<depR l b.f0∨(depR l a.f0=depR l b.f0∧lt a.f0 b.f0=true):=by unfold bef;simp
theorem bef_trans {l:List Want} {a b c:Want} (h:bef l a b=true) (k:bef l b c=true):bef l a c=true:=by
  rw [bef_iff] at h k ⊢
  rcases h with h|⟨h,h'⟩<;>rcases k with k|⟨k,k'⟩
  · exact .inl (by omega)
  · exact .inl (by omega)
  · exact .inl (by omega)
  exact .inr ⟨by omega,lt_trans h' k'⟩
theorem bef_total {l:List Want} {a b:Want} (h:bef l a b=false) (hn:a.f0≠b.f0):bef l b a=true:=by
  rw [←Bool.not_eq_true,bef_iff] at h;rw [bef_iff];by_cases e:depR l a.f0=depR l b.f0;rotate_left
  · exact .inl (by have: ¬depR l a.f0<depR l b.f0:=fun q=>h (.inl q);omega)
  refine .inr ⟨e.symm,lt_total ?_ hn⟩;rw [←Bool.not_eq_true];exact fun q=>h (.inr ⟨e,q⟩)
theorem insT_perm (l:List Want) (w:Want) (out:List Want):(insT l w out).Perm (w::out):=by
 unfold insT;have:=List.perm_middle (a:=w) (l₁:=out.takeWhile (fun a=>bef l a w)) (l₂:=out.dropWhile (fun a=>bef l a w))
 rwa [List.takeWhile_append_dropWhile] at this
theorem topGo_perm (l:List Want): ∀(ws out:List Want),(topGo l out ws).Perm (out++ws)
  |[],out=>by rw [List.append_nil];exact .refl _
  | w :: ws, out => by
    unfold topGo;refine (topGo_perm l ws _).trans ?_;refine ((insT_perm l w out).append_right ws).trans ?_;exact List.perm_middle.symm
theorem topR_perm (l:List Want):(topR l).Perm l:=topGo_perm l l []
theorem insT_sorted {l:List Want} {w:Want} {out:List Want} (h:out.Pairwise (fun a b=>bef l a b=true)) (hn: ∀a∈out,a.f0≠w.f0):(insT l w out).Pairwise (fun a b=>bef l a b=true):=by
  induction out with
  |nil=>simp [insT]
  | cons x out ih =>
    rw [List.pairwise_cons] at h;unfold insT;rw [List.takeWhile_cons,List.dropWhile_cons];by_cases c:bef l x w=true
    · rw [c]
      show (x::insT l w out).Pairwise _
      rw [List.pairwise_cons]
      refine ⟨fun a ha=> ?_,ih h.2 (fun a ha=>hn a (by simp [ha]))⟩
      rcases List.mem_cons.1 ((insT_perm l w out).mem_iff.1 ha) with rfl|ha
      · exact c
      exact h.1 a ha
    rw [Bool.eq_false_iff.2 c]
    show (w::x::out).Pairwise _
    have hw:=bef_total (Bool.eq_false_iff.2 c) (hn x (by simp));rw [List.pairwise_cons,List.pairwise_cons];refine ⟨fun a ha=> ?_,h⟩
    rcases List.mem_cons.1 ha with rfl|ha
    · exact hw
    exact bef_trans hw (h.1 a ha)
theorem topGo_sorted {l:List Want}: ∀{ws out:List Want},out.Pairwise (fun a b=>bef l a b=true)→((out++ws).map (·.f0)).Nodup→(topGo l out ws).Pairwise (fun a b=>bef l a b=true)
  |[],out,h,_=>h
  | w :: ws, out, h, hn => by
    unfold topGo;have hn2:=hn;rw [List.map_append,List.map_cons,List.nodup_append] at hn2;refine topGo_sorted (insT_sorted h (fun a ha q=>hn2.2.2 a.f0 (List.mem_map_of_mem ha) w.f0 (by simp) q)) ?_;refine (((insT_perm l w out).append_right ws).map _).nodup_iff.2 ?_;exact ((List.perm_middle (a:=w) (l₁:=out) (l₂:=ws)).map _).nodup_iff.1 hn
theorem topR_sorted {l:List Want} (hn:(l.map (·.f0)).Nodup):(topR l).Pairwise (fun a b=>bef l a b=true):=topGo_sorted (by simp) (by simpa using hn)
theorem look_map {f:Item→Item} (hf: ∀x,(f x).f0=x.f0) (l:List Item) (n:ByteArray):look (l.map f) n=(look l n).map f:=by
 unfold look
 rw [List.find?_map]
 congr 2
 funext x
 simp [hf]
theorem Chain.map {f:Item→Item} (hf: ∀x,(f x).f0=x.f0) (hp: ∀x,(f x).f1=x.f1) {l:List Item} {n:ByteArray} {us:List ByteArray} (h:Chain l n us):Chain (l.map f) n us:=by
 induction h with
 |nil h=>exact .nil (by rw [look_map hf,h];rfl)
 |@cons n x us h k ih=>exact .cons (x:=f x) (by rw [look_map hf,h];rfl) (by rw [hp];exact ih)
theorem up_self {l:List Item} {n:ByteArray} {x:Item} (h:look l n=some x):n∈up l n:=by
 unfold up;rw [upGo_some h]
 simp
theorem chain_kids {l:List Item} (hl:RightP l) {n:ByteArray} {us:List ByteArray} (h:Chain l n us) (v:Int) {x:Item} (hx:x∈l):
    sumBy (fun y=>if y.f1=x.f0∧y.f0∈us then v else 0) l=if x.f0∈us∧x.f0≠n then v else 0:=by
  induction h with
  |nil _=>rw [sumBy_zero (fun y _=>by simp)];simp
  | @cons n z us h k ih =>
    obtain ⟨hz,rfl⟩:=look_mem h
    have hnd:=(Chain.cons h k).nodup
    rw [List.nodup_cons] at hnd
    have e:sumBy (fun y=>if y.f1=x.f0∧y.f0∈z.f0::us then v else 0) l=sumBy (fun y=>(if y.f0=z.f0 then (if z.f1=x.f0 then v else 0) else 0)+(if y.f1=x.f0∧y.f0∈us then v else 0)) l:=by
      refine sumBy_congr fun y hy=> ?_
      by_cases e1:y.f0=z.f0
      rotate_left
      · simp [e1]
      have:=hl.eq_of hy hz e1
      subst this
      by_cases e2:y.f1=x.f0<;>simp [e2,hnd.1]
    rw [e,sumBy_add,ih,sumBy_one hl.nodup hz]
    by_cases e2:z.f1=x.f0
    rotate_left
    · by_cases e3 : x.f0 = z.f0
      · simp [e2, e3, hnd.1]
        exact fun q=>absurd (q.trans e3.symm) e2
      have e4:x.f0≠z.f1:=fun q=>e2 q.symm
      simp [e2,e3,e4]
    have hm:x.f0∈us:=by
      rw [e2] at k
      cases k with
      |nil k=>rw [hl.look hx] at k;cases k
      |cons _ _=>simp
    have hne:x.f0≠z.f0:=fun q=>hnd.1 (by rw [←q];exact hm)
    simp [e2,hm,hne]
def admF (us:List ByteArray) (n:ByteArray) (v:Vec) (x:Item):Item:=⟨x.f0,x.f1,x.f2,if x.f0=n then vadd x.f3 v else x.f3,if x.f0∈us then vadd x.f4 v else x.f4,x.f5⟩
def admL (l:List Item) (n:ByteArray) (v:Vec):List Item:=l.map (admF (up l n) n v)
theorem csum_adm {l:List Item} (hl:RightP l) (c:Comp) (n:ByteArray) (v:Vec) {x:Item} (hx:x∈l):
  csum c (admL l n v) x.f0=csum c l x.f0+if x.f0∈up l n∧x.f0≠n then c.of v else 0:=by
 unfold csum admL;rw [sumBy_map,←chain_kids hl (hl.chainAll n) (c.of v) hx,←sumBy_add];refine sumBy_congr fun y hy=> ?_
 simp only [admF];by_cases e1:y.f1=x.f0<;>by_cases e2:y.f0∈up l n<;>simp [e1,e2,of_vadd]
theorem adm_right {l:List Item} (hl:RightP l) {n:ByteArray} (v:Vec) (hin: ∃x,look l n=some x)
    (hown: ∀x∈l,x.f0=n→MayP (vadd x.f3 v)) (hsub: ∀x∈l,x.f0∈up l n→MayP (vadd x.f4 v)) (hfit: ∀x∈l,x.f0∈up l n→LeP (vadd x.f4 v) x.f2):RightP (admL l n v) where
  len:=by unfold admL;rw [List.length_map];exact hl.len
  ok:=by
    intro y hy
    obtain ⟨x,hx,rfl⟩:=List.mem_map.1 hy
    have k:=hl.ok x hx
    refine ⟨k.name,k.size,k.lim, ?_, ?_, ?_,k.ver⟩
    · show MayP (if x.f0 = n then vadd x.f3 v else x.f3)
      split
      · exact hown x hx (by assumption)
      exact k.own
    · show MayP (if x.f0 ∈ up l n then vadd x.f4 v else x.f4)
      split
      · exact hsub x hx (by assumption)
      exact k.sub
    show LeP (if x.f0∈up l n then vadd x.f4 v else x.f4) x.f2
    split
    · exact hfit x hx (by assumption)
    exact k.fit
  sorted:=by
    unfold admL
    rw [List.pairwise_map]
    exact hl.sorted
  par:=by
    intro y hy
    obtain ⟨x,hx,rfl⟩:=List.mem_map.1 hy
    rcases hl.par x hx with h|⟨z,h⟩
    · exact .inl h
    exact .inr ⟨_,by unfold admL;rw [look_map (f:=admF (up l n) n v) (fun _=>rfl)];show (look l x.f1).map _=_;rw [h];rfl⟩
  sum:=by
    intro c y hy
    obtain ⟨x,hx,rfl⟩:=List.mem_map.1 hy
    show c.of (if x.f0∈up l n then vadd x.f4 v else x.f4)=c.of (if x.f0=n then vadd x.f3 v else x.f3)+csum c (admL l n v) x.f0
    rw [csum_adm hl c n v hx]
    have hs:=hl.sum c x hx
    by_cases e:x.f0=n
    rotate_left
    · by_cases hm : x.f0 ∈ up l n
      · simp [e,hm,of_vadd];omega
      simp [e,hm];omega
    have hm:x.f0∈up l n:=by
      obtain ⟨z,hz⟩:=hin
      rw [e];exact up_self hz
    simp [e] at hm ⊢
    rw [if_pos hm,of_vadd,of_vadd,hs,e];omega
  chain:=by
    intro y hy
    obtain ⟨x,hx,rfl⟩:=List.mem_map.1 hy
    obtain ⟨us,h⟩:=hl.chain x hx
    exact ⟨us,h.map (f:=admF (up l n) n v) (fun _=>rfl) (fun _=>rfl)⟩
def insL (l:List Item) (it:Item):List Item:=l.takeWhile (fun x=>lt x.f0 it.f0)++it::l.dropWhile (fun x=>lt x.f0 it.f0)
theorem look_ins (a b:List Item) (it:Item) (n:ByteArray) (h:look (a++b) it.f0=none):look (a++it::b) n=if n=it.f0 then some it else look (a++b) n:=by
  unfold look at h ⊢;rw [List.find?_append] at h ⊢;rw [List.find?_append,List.find?_cons];by_cases e:it.f0=n;rotate_left
  · have e' : n ≠ it.f0 := fun q => e q.symm
    simp [e,e']
  subst e
  cases ha:a.find? (fun x=>decide (x.f0=it.f0)) with
  |some y=>rw [ha] at h;simp at h
  |none=>simp
theorem insL_eq (l:List Item) (it:Item): ∃a b,l=a++b∧insL l it=a++it::b∧(∀x∈a,lt x.f0 it.f0=true)∧(∀x t,b=x::t→lt x.f0 it.f0=false):=by
  refine ⟨l.takeWhile (fun x=>lt x.f0 it.f0),l.dropWhile (fun x=>lt x.f0 it.f0),(List.takeWhile_append_dropWhile).symm,rfl,fun x hx=> ?_,fun x t e=> ?_⟩
  · exact List.all_eq_true.1 (List.all_takeWhile (p:=fun x:Item=>lt x.f0 it.f0) (l:=l)) x hx
  have:=List.head?_dropWhile_not (fun x:Item=>lt x.f0 it.f0) l
  rw [e] at this
  simpa using this
theorem csum_ins (c:Comp) (a b:List Item) (it:Item) (n:ByteArray):csum c (a++it::b) n=csum c (a++b) n+if it.f1=n then c.of it.f4 else 0:=by
 unfold csum;rw [sumBy_append,sumBy_append,sumBy_cons];omega
theorem ins_right {l:List Item} (hl:RightP l) {it:Item} (hi:ItemOK it) (h0: ∀c:Comp,c.of it.f3=0∧c.of it.f4=0) (hn:look l it.f0=none)
    (hp:it.f1=⟨#[]⟩∨ ∃y,look l it.f1=some y) (hlen:l.length<120):RightP (insL l it):=by
  obtain ⟨a,b,e,e',ha,hb⟩:=insL_eq l it;rw [e'];subst e;have hlk:=fun n=>look_ins a b it n hn
  have hmem: ∀x,x∈a++it::b↔x=it∨x∈a++b:=fun x=>by simp;constructor<;>(intro h;rcases h with h|h|h<;>simp [h])
  have hnew: ∀m y,look (a++b) m=some y→m≠it.f0:=fun m y h q=>by rw [q,hn] at h;cases h
  have hne:it.f0≠⟨#[]⟩:=hi.name
  have hpar: ∀x∈a++b,x.f1≠it.f0:=fun x hx q=>by
    rcases hl.par x hx with h|⟨y,h⟩
    · exact hne (q.symm.trans h)
    exact hnew _ _ h q
  have hch: ∀{n us},Chain (a++b) n us→n≠it.f0→Chain (a++it::b) n us:=by
    intro n us h
    induction h with
    |nil h=>intro q;exact .nil (by rw [hlk,if_neg q];exact h)
    | @cons n x us h k ih =>
      intro q;exact .cons (x:=x) (by rw [hlk,if_neg q];exact h) (ih (hpar x (look_mem h).1))
  have hip:it.f1≠it.f0:=by
    rcases hp with h|⟨y,h⟩
    · rw [h];exact fun q=>hne q.symm
    exact hnew _ _ h
  refine ⟨?_, ?_, ?_, ?_, ?_, ?_⟩
  · simp at hlen ⊢;omega
  · intro x hx
    rcases (hmem x).1 hx with rfl|hx
    · exact hi
    exact hl.ok x hx
  · have hs := hl.sorted
    rw [List.pairwise_append] at hs ⊢
    obtain ⟨h1,h2,h3⟩:=hs
    have hbx: ∀y∈b,lt it.f0 y.f0=true:=by
      intro y hy
      cases b with
      |nil=>cases hy
      | cons x t =>
        have hx:lt it.f0 x.f0=true:=lt_total (hb x t rfl) (fun q=>look_none.1 hn x (by simp) q)
        rcases List.mem_cons.1 hy with rfl|hy
        · exact hx
        exact lt_trans hx ((List.pairwise_cons.1 h2).1 y hy)
    refine ⟨h1,List.pairwise_cons.2 ⟨hbx,h2⟩,fun x hx y hy=> ?_⟩
    rcases List.mem_cons.1 hy with rfl|hy
    · exact ha x hx
    exact h3 x hx y hy
  · intro x hx
    rcases (hmem x).1 hx with rfl|hx
    · rcases hp with h | ⟨y, h⟩
      · exact .inl h
      exact .inr ⟨y,by rw [hlk,if_neg hip];exact h⟩
    rcases hl.par x hx with h|⟨y,h⟩
    · exact .inl h
    exact .inr ⟨y,by rw [hlk,if_neg (hpar x hx)];exact h⟩
  · intro c x hx
    rw [csum_ins,(h0 c).2,ite_self,Int.add_zero]
    rcases (hmem x).1 hx with rfl|hx
    rotate_left
    · exact hl.sum c x hx
    rw [(h0 c).1,(h0 c).2]
    unfold csum
    rw [sumBy_zero (fun y hy=>if_neg (hpar y hy))];rfl
  intro x hx
  rcases (hmem x).1 hx with rfl|hx
  · have := hch (hl.chainAll x.f1) hip
    exact ⟨_, .cons (x:=x) (by rw [hlk,if_pos rfl]) this⟩
  obtain ⟨us,h⟩:=hl.chain x hx;exact ⟨us,hch h (fun q=>look_none.1 hn x hx q)⟩
theorem r10_copied_eq (l:List Item) (h:l.length<1000000):r10_copied.f l=some l:=by
 unfold r10_copied.f;simp only [Option.bind_some,List.length_nil,List.nil_append];rw [if_pos (by omega)]
theorem r10_Find_l0 (l:List Item) (n:ByteArray) (hl:l.length<1000000): ∀(d i:Nat),l.length - i=d→i≤l.length→
    Ev (fun k=>r10_Find.l0 k l n i) (fidx (fun x:Item=>x.f0.toList==n.toList) (l.drop i) i)
  | 0, i, hd, hi => by
    obtain rfl:i=l.length:=by omega
    refine Ev.step (f:=fun _=>some (-1)) (fun k=> ?_) (by rw [List.drop_length];exact Ev.now _);simp only [r10_Find.l0];rw [if_neg (by omega)]
  | d + 1, i, hd, hi => by
    have hlt:i<l.length:=by omega
    rw [fidx_drop _ zItem l i hlt];have hrd:rd_T79 l (i:Int)=l.getD i zItem:=by rw [rd_item,Int.toNat_natCast]
    by_cases e:(l.getD i zItem).f0.toList=n.toList
    · rw [if_pos (beq_iff_eq.2 e)]
      refine Ev.step (f:=fun _=>some (i:Int)) (fun k=> ?_) (Ev.now _)
      simp only [r10_Find.l0]
      rw [if_pos (by omega),if_pos (by omega),hrd,if_pos e]
    rw [if_neg (fun q=>e (beq_iff_eq.1 q))];refine Ev.step (f:=fun k=>r10_Find.l0 k l n ((i+1:Nat):Int)) (fun k=> ?_) (r10_Find_l0 l n hl d (i+1) (by omega) (by omega));simp only [r10_Find.l0];rw [if_pos (by omega),if_pos (by omega),hrd,if_neg e,w64 (by omega) (by omega)]
    rfl
theorem r10_Find_ev (l:List Item) (n:ByteArray) (hl:l.length<1000000):Ev (fun k=>r10_Find.f k l n) (fnd l n):=r10_Find_l0 l n hl _ 0 rfl (by omega)
theorem r10_Up_l0 (l:List Item) (hl:l.length<1000000): ∀(m:Nat) (n:ByteArray) (out:List ByteArray),out.length+m=l.length+1→
    Ev (fun k=>r10_Up.l0 k l out (fnd l n)) (out++upGo l m n)
  | 0, n, out, hm => by
    rw [upGo.eq_1,List.append_nil];refine Ev.step (f:=fun _=>some out) (fun k=> ?_) (Ev.now _);simp only [r10_Up.l0];by_cases h:0≤fnd l n
    · rw [if_pos h,if_neg (by omega)]
    rw [if_neg h]
  | m + 1, n, out, hm => by
    cases h:look l n with
    | none =>
      rw [upGo_none h,List.append_nil];refine Ev.step (f:=fun _=>some out) (fun k=> ?_) (Ev.now _);simp only [r10_Up.l0];rw [fnd_none h,if_neg (by omega)]
    | some x =>
      rw [upGo_some h];have h0:=fnd_ge.2 ⟨x,h⟩;have h1:=fnd_lt l n;obtain ⟨hx,hn⟩:=look_mem h;refine Ev.step (f:=fun k=>(r10_Find.f k l x.f1).bind fun t=>r10_Up.l0 k l (out++ [n]) t) (fun k=> ?_) (Ev.bind (r10_Find_ev l x.f1 hl) ?_)
      · simp only [r10_Up.l0]
        rw [if_pos h0,if_pos (by omega),if_pos h0,if_pos h1,if_pos (by omega),fnd_rd h,hn]
      have:=r10_Up_l0 l hl m x.f1 (out++ [n]) (by simp;omega)
      simpa using this
theorem r10_Up_ev (l:List Item) (n:ByteArray) (hl:l.length<1000000):Ev (fun k=>r10_Up.f k l n) (up l n):=
 Ev.bind (r10_Find_ev l n hl) (by have:=r10_Up_l0 l hl (l.length+1) n [] (by simp);rw [List.nil_append] at this;exact this)
theorem set_at {l:List Item} (hn:(l.map (·.f0)).Nodup) {n:ByteArray} {x:Item} (h:look l n=some x) (y:Item):
    l.set (fnd l n).toNat y=l.map (fun z=>if z.f0=n then y else z):=by
  obtain ⟨j,h1,h2,h3,h4,h5⟩:=fnd_some h
  rw [h2,Int.toNat_natCast]
  have hx:l[j]=x:=by rw [←h3];simp [h1]
  apply List.ext_getElem (by simp)
  intro m hm hm'
  simp only [List.length_set] at hm
  rw [List.getElem_set,List.getElem_map]
  by_cases e:j=m
  · subst e
    rw [if_pos rfl,if_pos (by rw [hx];exact h4)]
  rw [if_neg e,if_neg]
  intro q
  have h6:(l.map (·.f0))[j]'(by simpa using h1)=(l.map (·.f0))[m]'(by simpa using hm):=by simp [hx,h4,q]
  exact e ((List.getElem_inj hn).1 h6)
theorem fnd_map {f:Item→Item} (hf: ∀x,(f x).f0=x.f0) (l:List Item) (n:ByteArray):fnd (l.map f) n=fnd l n:=by
 have: ∀(l:List Item) (i:Int),fidx (fun x:Item=>x.f0.toList==n.toList) (l.map f) i=fidx (fun x:Item=>x.f0.toList==n.toList) l i:=by
  intro l
  induction l with
  |nil=>intro i;rfl
  |cons x l ih=>intro i;simp only [List.map_cons,fidx,hf,ih]
 exact this l 0
def admS (us:List ByteArray) (v:Vec) (x:Item):Item:=⟨x.f0,x.f1,x.f2,x.f3,if x.f0∈us then vadd x.f4 v else x.f4,x.f5⟩
def admR (l:List Item) (n:ByteArray) (v:Vec):List Item×Int:=
 if¬MayP v then ([],1) else if (look l n).isNone=true then ([],2) else if∀x∈l,x.f0∈up l n→LeP (vadd x.f4 v) x.f2 then (admL l n v,0) else ([],12)
theorem vadd_wrap {a b:Vec} (ha:MayP a) (hb:MayP b):(wrap64 (a.f0+b.f0),wrap64 (a.f1+b.f1),wrap64 (a.f2+b.f2))=((vadd a b).f0,(vadd a b).f1,(vadd a b).f2):=by
 have a0:=ha .cpu;have a1:=ha .mem;have a2:=ha .pods;have b0:=hb .cpu;have b1:=hb .mem;have b2:=hb .pods;simp only [Comp.of] at a0 a1 a2 b0 b1 b2;rw [w64 (by omega) (by omega),w64 (by omega) (by omega),w64 (by omega) (by omega)]
 rfl
theorem r10_Add_eq {a b:Vec} (ha:MayP a) (hb:MayP b):r10_Add.f a.f0 a.f1 a.f2 b.f0 b.f1 b.f2=some ((vadd a b).f0,(vadd a b).f1,(vadd a b).f2):=by
 unfold r10_Add.f;rw [vadd_wrap ha hb]
theorem look_admS (us:List ByteArray) (v:Vec) (l:List Item) (n:ByteArray):look (l.map (admS us v)) n=(look l n).map (admS us v):=look_map (f:=admS us v) (fun _=>rfl) l n
theorem drop_cons {us:List ByteArray} {i:Nat} (h:i<us.length):us.drop i=rdOf ByteArray.empty us i::us.drop (i+1):=by
 rw [List.drop_eq_getElem_cons h];simp [rdOf,h]
theorem take_snoc_ {us:List ByteArray} {i:Nat} (h:i<us.length):us.take (i+1)=us.take i++ [rdOf ByteArray.empty us i]:=by
 rw [List.take_succ_eq_append_getElem h];simp [rdOf,h]
theorem fnd_admS (us:List ByteArray) (v:Vec) (l:List Item) (n:ByteArray):fnd (l.map (admS us v)) n=fnd l n:=fnd_map (f:=admS us v) (fun _=>rfl) l n
theorem nodup_admS {us:List ByteArray} {v:Vec} {l:List Item} (h:(l.map (·.f0)).Nodup):((l.map (admS us v)).map (·.f0)).Nodup:=by
 rw [List.map_map];exact h
theorem r10_Admit_l0 {l:List Item} (hl:RightP l) (n:ByteArray) {v:Vec} (hv:MayP v) (hin: ∃x,look l n=some x): ∀(d i:Nat),(up l n).length - i=d→i≤(up l n).length→
    Ev (fun k=>r10_Admit.l0 k n (up l n) (l.map (admS ((up l n).take i) v)) i v.f0 v.f1 v.f2) (if∀x∈l,x.f0∈(up l n).drop i→LeP (vadd x.f4 v) x.f2 then (admL l n v,0) else ([],12))
  | 0, i, hd, hi => by
    obtain rfl:i=(up l n).length:=by omega
    rw [List.drop_length,List.take_length,if_pos (by simp)];obtain ⟨x,hx⟩:=hin;obtain ⟨hm,hxn⟩:=look_mem hx;have hlk:look (l.map (admS (up l n) v)) n=some (admS (up l n) v x):=by rw [look_admS,hx];rfl
    have h0:0≤fnd l n:=fnd_ge.2 ⟨x,hx⟩;have h1:fnd l n<l.length:=fnd_lt l n;obtain ⟨K,hK⟩:=r10_Find_ev (l.map (admS (up l n) v)) n (by rw [List.length_map];have:=hl.len;omega);dsimp only at hK;refine ⟨K+1,fun k hk=> ?_⟩;obtain ⟨k,rfl⟩: ∃m,k=m+1:=⟨k - 1,by omega⟩;have hrd:=fnd_rd hlk;rw [fnd_admS] at hrd;simp only [r10_Admit.l0];rw [if_neg (by omega),hK k (by omega),fnd_admS];simp only [Option.bind_some];rw [if_pos h0,if_pos (by rw [List.length_map];omega),hrd,r10_Add_eq (a:=(admS (up l n) v x).f3) (hl.ok x hm).own hv];simp only [Option.bind_some];have hset:=set_at (nodup_admS (us:=up l n) (v:=v) hl.nodup) hlk;rw [fnd_admS] at hset;rw [hset,List.map_map]
    congr 2
    unfold admL;refine List.map_congr_left fun z hz=> ?_
    simp only [Function.comp,admF];by_cases e:z.f0=n
    · obtain rfl : z = x := hl.eq_of hz hm (e.trans hxn.symm)
      rw [if_pos (by exact e),if_pos e]
      rfl
    rw [if_neg (by exact e),if_neg e]
    rfl
  | d + 1, i, hd, hi => by
    have hlt:i<(up l n).length:=by omega
    have hc:=hl.chainAll n;have hnd:=hc.nodup;rw [drop_cons hlt];have hu:rdOf ByteArray.empty (up l n) i∈up l n:=by simp [rdOf,hlt]
    obtain ⟨x,hx⟩:=hc.mem_look hu;obtain ⟨hm,hxn⟩:=look_mem hx
    have hnot:x.f0 ∉ (up l n).take i:=by
      rw [hxn];rw [←List.take_append_drop i (up l n),drop_cons hlt,List.nodup_append] at hnd;exact fun q=>hnd.2.2 _ q _ (by simp) rfl
    generalize hU:rdOf ByteArray.empty (up l n) i=u at*;have hlk:look (l.map (admS ((up l n).take i) v)) u=some (admS ((up l n).take i) v x):=by rw [look_admS,hx];rfl
    have hsame:admS ((up l n).take i) v x=x:=by unfold admS;rw [if_neg hnot]
    rw [hsame] at hlk;have h0:0≤fnd l u:=fnd_ge.2 ⟨x,hx⟩;have h1:fnd l u<l.length:=fnd_lt l u;have hrd:=fnd_rd hlk;have hset:=set_at (nodup_admS (us:=(up l n).take i) (v:=v) hl.nodup) hlk;rw [fnd_admS] at hrd;rw [fnd_admS] at hset;obtain ⟨K,hK⟩:=r10_Find_ev (l.map (admS ((up l n).take i) v)) u (by rw [List.length_map];have:=hl.len;omega);obtain ⟨K',hK'⟩:=r10_Admit_l0 hl n hv hin d (i+1) (by omega) (by omega);dsimp only at hK hK';refine ⟨K+K'+1,fun k hk=> ?_⟩;obtain ⟨k,rfl⟩: ∃m,k=m+1:=⟨k - 1,by omega⟩;have hup:(up l n).length≤l.length:=hc.len;have hlen:=hl.len;simp only [r10_Admit.l0];rw [if_pos (by omega),if_pos (by omega),hU,hK k (by omega),fnd_admS];simp only [Option.bind_some];rw [if_pos h0,if_pos (by rw [List.length_map];omega),hrd,r10_Add_eq (a:=x.f4) (hl.ok x hm).sub hv];simp only [Option.bind_some];rw [hset,List.map_map]
    have hnew:(l.map ((fun z:Item=>if z.f0=u then (⟨x.f0,x.f1,⟨x.f2.f0,x.f2.f1,x.f2.f2⟩,⟨x.f3.f0,x.f3.f1,x.f3.f2⟩,⟨(vadd x.f4 v).f0,(vadd x.f4 v).f1,(vadd x.f4 v).f2⟩,x.f5⟩:Item) else z) ∘ admS ((up l n).take i) v))=l.map (admS ((up l n).take (i+1)) v):=by
      refine List.map_congr_left fun z hz=> ?_
      simp only [Function.comp];rw [take_snoc_ hlt,hU];by_cases e:z.f0=u
      · obtain rfl : z = x := hl.eq_of hz hm (e.trans hxn.symm)
        rw [if_pos (by exact e)]
        unfold admS
        rw [if_pos (by simp [e])]
      rw [if_neg (by exact e)];unfold admS
      simp [e]
    rw [hnew];have hlk2:look (l.map (admS ((up l n).take (i+1)) v)) u=some (admS ((up l n).take (i+1)) v x):=by rw [look_admS,hx];rfl
    have hrd2:=fnd_rd hlk2;rw [fnd_admS] at hrd2;have hx2:admS ((up l n).take (i+1)) v x=⟨x.f0,x.f1,x.f2,x.f3,vadd x.f4 v,x.f5⟩:=by unfold admS;rw [if_pos (by rw [take_snoc_ hlt,hU,hxn];simp)]
    rw [hrd2,hx2,r10_Le_eq];simp only [Option.bind_some];by_cases hfit:LeP (vadd x.f4 v) x.f2;rotate_left
    · rw [if_neg (by simpa using hfit), if_neg (fun q => hfit (q x hm (by rw [hxn]; simp)))]
      rfl
    rw [if_pos (by exact decide_eq_true hfit),w64 (by omega) (by omega)];have h2:=hK' k (by omega);rw [show ((i:Int)+1)=((i+1:Nat):Int) from by omega,h2]
    congr 1
    refine ite_iff ⟨fun q z hz hzm=> ?_,fun q z hz hzm=>q z hz (by simp [hzm])⟩
    rcases List.mem_cons.1 hzm with e|hzm
    · obtain rfl : z = x := hl.eq_of hz hm (e.trans hxn.symm)
      exact hfit
    exact q z hz hzm
theorem r10_Admit_ev {l:List Item} (hl:RightP l) (n:ByteArray) (v:Vec):Ev (fun k=>r10_Admit.f k l n v.f0 v.f1 v.f2) (admR l n v):=by
  have hlen:=hl.len;refine Ev.bind (r10_Up_ev l n (by omega)) ?_;have hmv:r10_MayVec.f v.f0 v.f1 v.f2=some (decide (MayP v)):=r10_MayVec_eq _ _ _;unfold admR;by_cases hv:MayP v;rotate_left
  · rw [if_pos hv]
    refine Ev.congr (fun k=> ?_) (Ev.now _)
    rw [hmv]
    simp only [Option.bind_some]
    rw [if_neg (by simpa using hv)]
    rfl
  rw [if_neg (by simpa using hv)]
  cases hx:look l n with
  | none =>
    rw [if_pos (show (none:Option Item).isNone=true from rfl)];refine Ev.congr (fun k=> ?_) (Ev.now _);rw [hmv];simp only [Option.bind_some];rw [if_pos (by exact decide_eq_true hv),show up l n=[] from upGo_none hx _]
    rfl
  | some x =>
    rw [if_neg (by simp)];have h:=r10_Admit_l0 hl n hv ⟨x,hx⟩ _ 0 rfl (by omega);rw [List.take_zero,List.drop_zero,show l.map (admS [] v)=l from by rw [show admS [] v=id from by funext z;simp [admS]];simp] at h;refine Ev.congr (fun k=> ?_) h;rw [hmv];simp only [Option.bind_some];have:(up l n).length≠0:=by have:=up_self hx;intro q;rw [List.length_eq_zero_iff.1 q] at this;cases this
    rw [if_pos (by exact decide_eq_true hv),if_neg (by omega),r10_copied_eq l (by omega)]
    rfl
def zVec:Vec:=⟨0,0,0⟩
def newItem (n p:ByteArray) (v:Vec):Item:=⟨n,p,v,zVec,zVec,1⟩
def creR (l:List Item) (n p:ByteArray) (v:Vec):List Item×Int:=
 if¬((n≠⟨#[]⟩∧n.size≤24)∧MayP v) then ([],1) else if (look l n).isSome=true then ([],3) else if p≠⟨#[]⟩∧(look l p).isNone=true then ([],2) else if 120≤l.length then ([],4) else (insL l (newItem n p v),0)
theorem insL_cons (x:Item) (l:List Item) (it:Item):insL (x::l) it=if lt x.f0 it.f0=true then x::insL l it else it::x::l:=by
 unfold insL;rw [List.takeWhile_cons,List.dropWhile_cons]
 cases lt x.f0 it.f0<;>simp
theorem r10_Create_l0 (n p:ByteArray) (v:Vec) (b:List Item): ∀(a l:List Item),l=a++b→l.length<1000000→Ev (fun k=>r10_Create.l0 k l n p a.length v.f0 v.f1 v.f2) (a++insL b (newItem n p v),0):=by
  induction b with
  | nil =>
    rintro a l rfl hl;simp only [List.append_nil] at hl ⊢;refine Ev.step (f:=fun _=>some (a++ [newItem n p v],0)) (fun k=> ?_) (Ev.now _);simp only [r10_Create.l0];rw [if_neg (by omega),if_pos (by omega),if_pos (by omega),Int.toNat_natCast,List.take_length,r10_copied_eq a (by omega)];simp only [Option.bind_some,List.drop_length,List.length_append,List.length_cons,List.length_nil];rw [if_pos (by omega),if_pos (by omega),List.append_nil]
    rfl
  | cons x b ih =>
    rintro a l rfl hl;have hlen:(a++x::b).length=a.length+b.length+1:=by simp;omega
    have hrd:rd_T79 (a++x::b) (a.length:Int)=x:=by rw [rd_item,Int.toNat_natCast];simp
    rw [insL_cons];by_cases e:lt x.f0 n=true
    · rw [if_pos (by exact e)]
      have h:=ih (a++ [x]) (a++x::b) (by simp) hl
      refine Ev.step (f:=fun k=>r10_Create.l0 k (a++x::b) n p (a++ [x]).length v.f0 v.f1 v.f2) (fun k=> ?_) (by simpa using h)
      simp only [r10_Create.l0]
      rw [if_pos (by omega),if_pos (by omega),hrd,if_pos (by exact e),w64 (by omega) (by omega)]
      simp
    rw [if_neg (by exact e)];refine Ev.step (f:=fun _=>some (a++newItem n p v::x::b,0)) (fun k=> ?_) (Ev.now _);simp only [r10_Create.l0];rw [if_pos (by omega),if_pos (by omega),hrd,if_neg (by exact e),if_pos (by omega),Int.toNat_natCast,List.take_left,r10_copied_eq a (by omega)];simp only [Option.bind_some,List.drop_left,List.length_append,List.length_cons,List.length_nil];rw [if_pos (by omega),if_pos (by omega)]
    simp
    rfl
theorem r10_Create_ev {l:List Item} (hl:l.length<1000000) (n p:ByteArray) (v:Vec):Ev (fun k=>r10_Create.f k l n p v.f0 v.f1 v.f2) (creR l n p v):=by
  have hmv:r10_MayVec.f v.f0 v.f1 v.f2=some (decide (MayP v)):=r10_MayVec_eq _ _ _;have hno: ∀e:Int,((r10_no.f e).bind fun bt=>some (bt.1,bt.2))=some (([]:List Item),e):=fun _=>rfl
  have hj1: ∀b,Ev (fun k=>r10_Create.j1 k l n p b v.f0 v.f1 v.f2) (if b=true then ([],2) else if 120≤l.length then ([],4) else (insL l (newItem n p v),0)):=by
    intro b
    cases b with
    | true =>
      refine Ev.step (f:=fun _=>some ([],2)) (fun k=> ?_) (Ev.now _);simp only [r10_Create.j1,if_true];exact hno 2
    | false =>
      simp only [Bool.false_eq_true,if_false];by_cases h:120≤l.length
      · rw [if_pos h]
        refine Ev.step (f:=fun _=>some ([],4)) (fun k=> ?_) (Ev.now _)
        simp only [r10_Create.j1,Bool.false_eq_true,if_false]
        rw [if_pos (by omega)];exact hno 4
      rw [if_neg h];refine Ev.step (f:=fun k=>r10_Create.l0 k l n p 0 v.f0 v.f1 v.f2) (fun k=> ?_) (by have:=r10_Create_l0 n p v l [] l rfl hl;simpa using this);simp only [r10_Create.j1,Bool.false_eq_true,if_false];rw [if_neg (by omega)]
  have hj0: ∀b,Ev (fun k=>r10_Create.j0 k l n p b v.f0 v.f1 v.f2) (if b=true then ([],1) else if (look l n).isSome=true then ([],3) else if p≠⟨#[]⟩∧(look l p).isNone=true then ([],2) else if 120≤l.length then ([],4) else (insL l (newItem n p v),0)):=by
    intro b
    cases b with
    | true =>
      refine Ev.step (f:=fun _=>some ([],1)) (fun k=> ?_) (Ev.now _);simp only [r10_Create.j0,if_true];exact hno 1
    | false =>
      simp only [Bool.false_eq_true,if_false];refine Ev.step (f:=fun k=>(r10_Find.f k l n).bind fun t=>if t≥0 then some ([],3) else if p.toList=([]:List UInt8) then r10_Create.j1 k l n p false v.f0 v.f1 v.f2 else (r10_Find.f k l p).bind fun t=>r10_Create.j1 k l n p (decide (t<0)) v.f0 v.f1 v.f2) (fun k=> ?_) (Ev.bind (r10_Find_ev l n hl) ?_)
      · simp only [r10_Create.j0,Bool.false_eq_true,if_false];rfl
      cases hn:look l n with
      | some x =>
        refine Ev.congr (fun k=> ?_) (Ev.now _);rw [if_pos (fnd_ge.2 ⟨x,hn⟩)];rfl
      | none =>
        simp only [Option.isSome_none,Bool.false_eq_true,if_false];by_cases hp:p=⟨#[]⟩
        · have h := hj1 false
          simp only [Bool.false_eq_true,if_false] at h
          rw [if_neg (fun q=>q.1 hp)]
          refine Ev.congr (fun k=> ?_) h
          rw [fnd_none hn,if_neg (by omega),if_pos (nm_empty.2 hp)]
        have h:=hj1 (decide (fnd l p<0));refine Ev.congr (g:=fun k=>_) (f:=fun k=>(r10_Find.f k l p).bind fun t=>r10_Create.j1 k l n p (decide (t<0)) v.f0 v.f1 v.f2) (fun k=> ?_) (Ev.bind (r10_Find_ev l p hl) ?_)
        · rw [fnd_none hn,if_neg (by omega),if_neg (fun q=>hp (nm_empty.1 q))]
        have e:(p≠⟨#[]⟩∧(look l p).isNone=true)↔(decide (fnd l p<0)=true):=by
          rw [decide_eq_true_iff,fnd_neg];simp [hp]
        rw [ite_iff e];exact h
  unfold creR;by_cases hn:n≠⟨#[]⟩∧n.size≤24
  · have h := hj0 (!decide (MayP v))
    rw [ite_iff (q:=(!decide (MayP v))=true) (by simp [hn])]
    refine Ev.congr (fun k=> ?_) h
    unfold r10_Create.f
    rw [r10_MayName_eq,hmv]
    simp only [Option.bind_some]
    rw [if_pos (by exact decide_eq_true hn)]
  have h:=hj0 true;rw [if_pos (fun q=>hn q.1)];rw [if_pos rfl] at h;refine Ev.congr (fun k=> ?_) h;unfold r10_Create.f;rw [r10_MayName_eq];simp only [Option.bind_some];rw [if_neg (by simpa using hn)]
theorem creR_right {l:List Item} (hl:RightP l) {n p:ByteArray} {v:Vec} (h:(creR l n p v).2=0):
    (creR l n p v).1=insL l (newItem n p v)∧RightP (insL l (newItem n p v))∧look l n=none∧l.length<120∧n≠⟨#[]⟩∧n.size≤24∧MayP v∧(p=⟨#[]⟩∨ ∃y,look l p=some y):=by
  unfold creR at h ⊢
  split at h
  · simp at h
  rename_i h1
  split at h
  · simp at h
  rename_i h2
  split at h
  · simp at h
  rename_i h3
  split at h
  · simp at h
  rename_i h4
  rw [if_neg h1,if_neg h2,if_neg h3,if_neg h4];obtain ⟨⟨h5,h6⟩,h7⟩:=Classical.not_not.1 h1
  have hn:look l n=none:=by cases q:look l n with
    |none=>rfl
    |some x=>rw [q] at h2;simp at h2
  have hp:p=⟨#[]⟩∨ ∃y,look l p=some y:=by
    by_cases e:p=⟨#[]⟩
    · exact .inl e
    right
    cases q:look l p with
    |none=>rw [q] at h3;exact absurd ⟨e,rfl⟩ h3
    |some y=>exact ⟨y,rfl⟩
  have hz: ∀c:Comp,c.of zVec=0:=fun c=>by cases c<;>rfl
  refine ⟨rfl,ins_right hl ⟨h5,h6,h7,fun c=> ?_,fun c=> ?_,fun c=> ?_, ?_⟩ (fun c=>⟨hz c,hz c⟩) hn hp (by omega),hn,by omega,h5,h6,h7,hp⟩
  · show 0≤c.of zVec∧c.of zVec≤_;rw [hz];omega
  · show 0≤c.of zVec∧c.of zVec≤_;rw [hz];omega
  · show c.of zVec≤c.of v;rw [hz];exact (h7 c).1
  show (1:Int)≤1∧(1:Int)≤_;omega
theorem mem_insL {l:List Item} {it x:Item}:x∈insL l it↔x=it∨x∈l:=by
 obtain ⟨a,b,e,e',_,_⟩:=insL_eq l it;rw [e',e];simp;constructor<;>(intro h;rcases h with h|h|h<;>simp [h])
theorem len_insL (l:List Item) (it:Item):(insL l it).length=l.length+1:=by
 obtain ⟨a,b,e,e',_,_⟩:=insL_eq l it;rw [e',e];simp;omega
theorem admR_right {l:List Item} (hl:RightP l) {n:ByteArray} {v:Vec} (h:(admR l n v).2=0):(admR l n v).1=admL l n v∧RightP (admL l n v)∧MayP v∧(∃x,look l n=some x)∧ ∀x∈l,x.f0∈up l n→LeP (vadd x.f4 v) x.f2:=by
  unfold admR at h ⊢
  split at h
  · simp at h
  rename_i h1
  split at h
  · simp at h
  rename_i h2
  split at h
  rotate_left
  · simp at h
  rename_i h3
  rw [if_neg h1,if_neg h2,if_pos h3];have hv:MayP v:=Classical.not_not.1 h1
  have hin: ∃x,look l n=some x:=by
    cases q:look l n with
    |none=>rw [q] at h2;simp at h2
    |some x=>exact ⟨x,rfl⟩
  have hsub: ∀x∈l,x.f0∈up l n→MayP (vadd x.f4 v):=fun x hx hm c=>by
    have a:=(hl.ok x hx).sub c;have b:=hv c;have d:=h3 x hx hm c;have e:=(hl.ok x hx).lim c;rw [of_vadd] at d ⊢;omega
  refine ⟨rfl,adm_right hl v hin (fun x hx e c=> ?_) hsub h3,hv,hin,h3⟩;have hm:x.f0∈up l n:=by obtain ⟨y,hy⟩:=hin;rw [e];exact up_self hy
  have a:=(hl.ok x hx).own c;have b:=hv c;have d:=hsub x hx hm c;have f:=hl.sum c x hx
  have g:0≤csum c l x.f0:=sumBy_nonneg fun y hy=>by
    split
    · exact ((hl.ok y hy).sub c).1
    omega
  rw [of_vadd] at d ⊢;omega
abbrev PMark:=S84
abbrev zPMark:PMark:=z84
theorem rd_pmark (l:List PMark) (i:Int):rd_T84 l i=l.getD i.toNat zPMark:=rfl
theorem rd_pmarkN (l:List PMark) {i:Nat} (h:i<l.length):rd_T84 l (i:Int)=l[i]:=by
 rw [rd_pmark,Int.toNat_natCast,List.getD_eq_getElem?_getD,List.getElem?_eq_getElem h,Option.getD_some]
theorem rd_itemN (l:List Item) {i:Nat} (h:i<l.length):rd_T79 l (i:Int)=l[i]:=by
 rw [rd_item,Int.toNat_natCast,List.getD_eq_getElem?_getD,List.getElem?_eq_getElem h,Option.getD_some]
def mlook (ms:List PMark) (n:ByteArray):Option PMark:=ms.find? (fun x=>x.f0=n)
def mfnd (ms:List PMark) (n:ByteArray):Int:=fidx (fun x:PMark=>x.f0.toList==n.toList) ms 0
theorem mlook_none {ms:List PMark} {n:ByteArray}:mlook ms n=none↔ ∀x∈ms,x.f0≠n:=by
 unfold mlook
 simp
theorem mfnd_neg {ms:List PMark} {n:ByteArray}:mfnd ms n<0↔mlook ms n=none:=by
  have hp:(fun x:PMark=>x.f0.toList==n.toList)=(fun x:PMark=>decide (x.f0=n)):=by funext x;exact nm_beq _ _
  unfold mfnd
  cases h:mlook ms n with
  | none =>
    rw [fidx_none fun x hx=>by rw [nm_beq];simpa using mlook_none.1 h x hx]
    simp
  | some x =>
    have h':ms.find? (fun x:PMark=>x.f0.toList==n.toList)=some x:=by rw [hp];exact h
    obtain ⟨j,h1,h2,_⟩:=fidx_some zPMark (i:=0) h';rw [h2]
    simp
theorem r16_marked_l0 (l:List PMark) (n:ByteArray) (hl:l.length<1000000): ∀(d i:Nat),l.length - i=d→i≤l.length→
    Ev (fun k=>r16_marked.l0 k l n i) (fidx (fun x:PMark=>x.f0.toList==n.toList) (l.drop i) i)
  | 0, i, hd, hi => by
    obtain rfl:i=l.length:=by omega
    rw [List.drop_length];exact Ev.step (fun k=>r16_marked.l0.eq_2 (k:=k) ..) (Ev.congr (fun k=>if_neg (by omega)) (Ev.now _))
  | d + 1, i, hd, hi => by
    have hlt:i<l.length:=by omega
    rw [fidx_drop _ zPMark l i hlt];have hrd:rd_T84 l (i:Int)=l.getD i zPMark:=by rw [rd_pmark,Int.toNat_natCast]
    have e3:wrap64 ((i:Int)+1)=((i+1:Nat):Int):=by rw [w64 (by omega) (by omega)];rfl
    refine Ev.step (fun k=>r16_marked.l0.eq_2 (k:=k) ..) (Ev.congr (fun k=>by rw [if_pos (show (i:Int)<(l.length:Int) by omega),if_pos (show 0≤(i:Int) by omega),hrd,e3]) ?_);by_cases e:(l.getD i zPMark).f0.toList=n.toList
    · rw [if_pos (beq_iff_eq.2 e)]
      exact Ev.congr (fun k=>if_pos e) (Ev.now _)
    rw [if_neg (fun q=>e (beq_iff_eq.1 q))];exact Ev.congr (fun k=>if_neg e) (r16_marked_l0 l n hl d (i+1) (by omega) (by omega))
theorem r16_marked_ev (l:List PMark) (n:ByteArray) (hl:l.length<1000000):Ev (fun k=>r16_marked.f k l n) (mfnd l n):=r16_marked_l0 l n hl _ 0 rfl (by omega)
def upV (l:List Item) (wide:Bool) (w:Want):Vec:=if wide=true then ⟨1099511627776,1099511627776,1099511627776⟩ else match look l w.f0 with
 |some x=>⟨mx x.f2.f0 w.f2.f0,mx x.f2.f1 w.f2.f1,mx x.f2.f2 w.f2.f2⟩
 |none=>w.f2
theorem r16_up_ev {l:List Item} (hl:l.length<1000000) (wide:Bool) (w:Want):Ev (fun k=>r16_up.f k w.f0 w.f1 w.f2.f0 w.f2.f1 w.f2.f2 l wide) ((upV l wide w).f0,(upV l wide w).f1,(upV l wide w).f2):=by
  unfold r16_up.f;refine Ev.bind (r10_Find_ev l w.f0 hl) ?_
  cases wide with
  | true =>
    rw [show upV l true w=⟨1099511627776,1099511627776,1099511627776⟩ from if_pos rfl];exact Ev.congr (fun k=>if_pos rfl) (Ev.const rfl)
  | false =>
    cases h:look l w.f0 with
    | none =>
      have e:upV l false w=w.f2:=by
        unfold upV;rw [if_neg (by simp),h]
      have:=fnd_neg.2 h
      rw [e];exact Ev.congr (fun k=>(if_neg (by simp)).trans (if_neg (by omega))) (Ev.now _)
    | some x =>
      have e:upV l false w=⟨mx x.f2.f0 w.f2.f0,mx x.f2.f1 w.f2.f1,mx x.f2.f2 w.f2.f2⟩:=by
        unfold upV;rw [if_neg (by simp),h]
      have a:=fnd_ge.2 ⟨x,h⟩;have b:=fnd_lt l w.f0;rw [e];refine Ev.congr (fun k=>by rw [if_neg (by simp),if_pos (show fnd l w.f0≥0 from a),if_pos a,if_pos b,fnd_rd h]) ?_;exact Ev.const rfl
def depU (l:List Item) (n:ByteArray):Int:=((up l n).length:Int)
def befG (l:List Item) (n a:ByteArray):Bool:=decide (depU l a>depU l n)||(decide (depU l a=depU l n) && lt a n)
def insG (l:List Item) (n:ByteArray) (out:List ByteArray):List ByteArray:=out.takeWhile (befG l n)++n::out.dropWhile (befG l n)
def isWant (ws:List Want) (n:ByteArray):Bool:=ws.any (fun w=>decide (w.f0=n))
def goesGo (ws:List Want) (l:List Item):List ByteArray→List PMark→List ByteArray
 |out,[]=>out
 |out,m::ms=>if isWant ws m.f0=true then goesGo ws l out ms else goesGo ws l (insG l m.f0 out) ms
def goesR (ws:List Want) (ms:List PMark) (l:List Item):List ByteArray:=goesGo ws l [] ms
theorem len_insG (l:List Item) (n:ByteArray) (out:List ByteArray):(insG l n out).length=out.length+1:=by
 unfold insG;have:=congrArg List.length (List.takeWhile_append_dropWhile (p:=befG l n) (l:=out))
 rw [List.length_append] at this;rw [List.length_append,List.length_cons]
 omega
theorem rdOf_N {α:Type} (z:α) (l:List α) {i:Nat} (h:i<l.length):rdOf z l (i:Int)=l[i]:=by
 unfold rdOf;rw [Int.toNat_natCast,List.getD_eq_getElem?_getD,List.getElem?_eq_getElem h,Option.getD_some]
theorem goes_put {ws:List Want} {ms:List PMark} {l:List Item} {out:List ByteArray} {n:ByteArray} {i:Nat} {j:Nat} (hj:j≤out.length) {r:List ByteArray} (hr:Ev (fun k=>r16_goes.l0 k ws ms l (insG l n out) ((i+1:Nat):Int)) r)
  (h1: ∀m (h:m<out.length),m<j→befG l n out[m]=true) (h2: ∀h:j<out.length,befG l n out[j]=false):Ev (fun k=>r16_goes.l0 k ws ms l ((([]++out.take j)++ [n])++out.drop j) ((i+1:Nat):Int)) r:=by
 obtain ⟨a,b⟩:=while_at (p:=befG l n) hj h1 h2;unfold insG at hr;rw [a,b] at hr;rw [List.nil_append,List.append_assoc,List.singleton_append];exact hr
theorem goes_l2 {ws:List Want} {ms:List PMark} {l:List Item} (hl:l.length<1000000) (hm:ms.length≤100000) {out:List ByteArray} (ho:out.length≤100000) {i:Nat} (hi:i<ms.length) {r:List ByteArray} (hr:Ev (fun k=>r16_goes.l0 k ws ms l (insG l ms[i].f0 out) ((i+1:Nat):Int)) r):
    ∀(d j:Nat),out.length - j=d→j≤out.length→(∀m (h:m<out.length),m<j→befG l ms[i].f0 out[m]=true)→Ev (fun k=>r16_goes.l2 k ws ms l out (i:Int) (depU l ms[i].f0) (j:Int)) r
  | 0, j, hd, hj, h1 => by
    have lt1:([]++out.take j).length≤100000:=by rw [List.nil_append,List.length_take];omega
    have lt2:(out.drop j).length≤100000:=by rw [List.length_drop];omega
    refine Ev.step (fun k=>r16_goes.l2.eq_2 (k:=k) ..) ?_;rw [rd_pmarkN ms hi,nx64 hi (by omega),Int.toNat_natCast];refine Ev.congr (fun k=>by rw [if_neg (by omega),Option.bind_some,if_pos (show (0:Int)≤(j:Int) by omega),if_pos (show (j:Int)≤(out.length:Int) by omega),Option.bind_some,if_pos (by rw [List.length_nil,List.length_take];omega),Option.bind_some,if_pos (show (0:Int)≤(i:Int) by omega),if_pos (show (i:Int)<(ms.length:Int) by omega),if_pos (by omega),Option.bind_some,Option.bind_some,if_pos (by rw [List.length_append,List.length_singleton];omega)]) ?_;exact goes_put hj hr h1 (fun h=>by omega)
  | d + 1, j, hd, hj, h1 => by
    have hlt:j<out.length:=by omega
    have lt1:([]++out.take j).length≤100000:=by rw [List.nil_append,List.length_take];omega
    have lt2:(out.drop j).length≤100000:=by rw [List.length_drop];omega
    have next:befG l ms[i].f0 out[j]=true→Ev (fun k=>r16_goes.l2 k ws ms l out (i:Int) (depU l ms[i].f0) ((j+1:Nat):Int)) r:=fun hb=>goes_l2 hl hm ho hi hr d (j+1) (by omega) (by omega) (fun m h hm=>by
      by_cases e:m=j
      · subst e;exact hb
      exact h1 m h (by omega))
    refine Ev.step (fun k=>r16_goes.l2.eq_2 (k:=k) ..) ?_;rw [rd_pmarkN ms hi,rdOf_N ByteArray.empty out hlt,nx64 hi (by omega),nx64 hlt (by omega),Int.toNat_natCast];refine Ev.congr (fun k=>by rw [if_pos (show (j:Int)<(out.length:Int) by omega),if_pos (show (0:Int)≤(j:Int) by omega)]) (Ev.bind (r10_Up_ev l out[j] hl) ?_);by_cases c1:depU l out[j]>depU l ms[i].f0
    · exact Ev.congr (fun k=>if_pos c1) (next (by unfold befG;rw [decide_eq_true c1];rfl))
    refine Ev.congr (fun k=>if_neg c1) (Ev.bind (r10_Up_ev l out[j] hl) ?_);by_cases c2:depU l out[j]=depU l ms[i].f0;rotate_left
    · refine Ev.congr (fun k => (if_neg c2).trans (by rw [Option.bind_some, if_pos (show (j : Int) ≤ (out.length : Int) by omega), Option.bind_some, if_pos (by rw [List.length_nil, List.length_take]; omega), Option.bind_some, if_pos (show (0 : Int) ≤ (i : Int) by omega), if_pos (show (i : Int) < (ms.length : Int) by omega), if_pos (by omega), Option.bind_some, Option.bind_some, if_pos (by rw [List.length_append, List.length_singleton]; omega)])) ?_
      exact goes_put hj hr h1 (fun h=>by unfold befG;rw [decide_eq_false c1,decide_eq_false c2];simp)
    refine Ev.congr (fun k=>(if_pos c2).trans (by rw [if_pos (show (0:Int)≤(i:Int) by omega),if_pos (show (i:Int)<(ms.length:Int) by omega)])) ?_;by_cases c3:lt out[j] ms[i].f0=true
    · exact Ev.congr (fun k=>if_pos (show Op.bytesLess out[j].toList ms[i].f0.toList=true from c3)) (next (by unfold befG;rw [decide_eq_true c2,c3];simp))
    refine Ev.congr (fun k=>by rw [if_neg (show¬Op.bytesLess out[j].toList ms[i].f0.toList=true from c3),Option.bind_some,if_pos (show (j:Int)≤(out.length:Int) by omega),Option.bind_some,if_pos (by rw [List.length_nil,List.length_take];omega),Option.bind_some,if_pos (by omega),Option.bind_some,Option.bind_some,if_pos (by rw [List.length_append,List.length_singleton];omega)]) ?_;exact goes_put hj hr h1 (fun h=>by unfold befG;rw [decide_eq_false c1,Bool.eq_false_iff.2 c3];simp)
theorem goes_l1 {ws:List Want} (hw:ws.length≤100000) {ms:List PMark} {l:List Item} (hl:l.length<1000000) (hm:ms.length≤100000) {out:List ByteArray} (ho:out.length≤100000) {i:Nat} (hi:i<ms.length) {r:List ByteArray}
    (hs:isWant ws ms[i].f0=true→Ev (fun k=>r16_goes.l0 k ws ms l out ((i+1:Nat):Int)) r) (hr:isWant ws ms[i].f0=false→Ev (fun k=>r16_goes.l0 k ws ms l (insG l ms[i].f0 out) ((i+1:Nat):Int)) r):
    ∀(d j:Nat) (b:Bool),ws.length - j=d→j≤ws.length→isWant ws ms[i].f0=(b||(ws.drop j).any (fun w=>decide (w.f0=ms[i].f0)))→Ev (fun k=>r16_goes.l1 k ws ms l out (i:Int) b (j:Int)) r
  | 0, j, b, hd, hj, hb => by
    rw [List.drop_of_length_le (by omega),List.any_nil,Bool.or_false] at hb;refine Ev.step (fun k=>r16_goes.l1.eq_2 (k:=k) ..) ?_;rw [rd_pmarkN ms hi,nx64 hi (by omega)];refine Ev.congr (fun k=>if_neg (by omega)) ?_
    cases b with
    |true=>exact Ev.congr (fun k=>if_pos rfl) (hs hb)
    | false =>
      refine Ev.congr (fun k=>(if_neg (by simp)).trans (by rw [if_pos (show (0:Int)≤(i:Int) by omega),if_pos (show (i:Int)<(ms.length:Int) by omega)])) ?_;exact Ev.bind (r10_Up_ev l ms[i].f0 hl) (goes_l2 hl hm ho hi (hr hb) out.length 0 (by omega) (by omega) (fun m h hm=>by omega))
  | d + 1, j, b, hd, hj, hb => by
    have hlt:j<ws.length:=by omega
    rw [List.drop_eq_getElem_cons hlt,List.any_cons] at hb;refine Ev.step (fun k=>r16_goes.l1.eq_2 (k:=k) ..) ?_;rw [rd_pmarkN ms hi,rd_wantN ws hlt,nx64 hi (by omega),nx64 hlt (by omega)];refine Ev.congr (fun k=>if_pos (by omega)) ?_
    cases b with
    |true=>exact Ev.congr (fun k=>if_pos rfl) (goes_l1 hw hl hm ho hi hs hr d (j+1) true (by omega) (by omega) (by rw [hb,Bool.true_or,Bool.true_or]))
    | false =>
      refine Ev.congr (fun k=>(if_neg (by simp)).trans (by rw [if_pos (show (0:Int)≤(j:Int) by omega),if_pos (show (0:Int)≤(i:Int) by omega),if_pos (show (i:Int)<(ms.length:Int) by omega)])) ?_;exact goes_l1 hw hl hm ho hi hs hr d (j+1) _ (by omega) (by omega) (by rw [hb,Bool.false_or,nm_beq])
theorem goes_l0 {ws:List Want} (hw:ws.length≤100000) {ms:List PMark} {l:List Item} (hl:l.length<1000000) (hm:ms.length≤100000): ∀(d i:Nat) (out:List ByteArray),ms.length - i=d→i≤ms.length→out.length≤i→Ev (fun k=>r16_goes.l0 k ws ms l out (i:Int)) (goesGo ws l out (ms.drop i))
  | 0, i, out, hd, hi, ho => by
    rw [List.drop_of_length_le (by omega)];exact Ev.step (fun k=>r16_goes.l0.eq_2 (k:=k) ..) (Ev.congr (fun k=>if_neg (by omega)) (Ev.now _))
  | d + 1, i, out, hd, hi, ho => by
    have hlt:i<ms.length:=by omega
    rw [List.drop_eq_getElem_cons hlt];refine Ev.step (fun k=>r16_goes.l0.eq_2 (k:=k) ..) (Ev.congr (fun k=>if_pos (by omega)) ?_);refine goes_l1 hw hl hm (by omega) hlt (fun h=> ?_) (fun h=> ?_) ws.length 0 false (by omega) (by omega) (by rw [List.drop_zero];rfl)
    · have e:goesGo ws l out (ms[i]::ms.drop (i+1))=goesGo ws l out (ms.drop (i+1)):=by
        rw [goesGo,if_pos h]
      rw [e];exact goes_l0 hw hl hm d (i+1) out (by omega) (by omega) (by omega)
    have e:goesGo ws l out (ms[i]::ms.drop (i+1))=goesGo ws l (insG l ms[i].f0 out) (ms.drop (i+1)):=by
      rw [goesGo,if_neg (by rw [h];simp)]
    rw [e];exact goes_l0 hw hl hm d (i+1) _ (by omega) (by omega) (by rw [len_insG];omega)
theorem r16_goes_ev {ws:List Want} (hw:ws.length≤100000) {ms:List PMark} {l:List Item} (hl:l.length<1000000) (hm:ms.length≤100000):Ev (fun k=>r16_goes.f k ws ms l) (goesR ws ms l):=by
 have h:=goes_l0 hw hl hm ms.length 0 [] (by omega) (by omega) (by simp);rw [List.drop_zero] at h;exact h
abbrev PStep:=S76
def neV (a b:Vec):Bool:=(!(a.f0==b.f0)||(!(a.f1==b.f1)||(!(a.f2==b.f2))))
theorem neV_iff {a b:Vec}:neV a b=true↔a≠b:=by
 obtain ⟨a0,a1,a2⟩:=a;obtain ⟨b0,b1,b2⟩:=b;unfold neV;by_cases h0:a0=b0<;>by_cases h1:a1=b1<;>by_cases h2:a2=b2<;>simp [h0,h1,h2]
def raiseS (l:List Item) (wide:Bool) (w:Want):List PStep:=match look l w.f0 with
 |none=> [⟨1,w.f0,w.f1,upV l wide w⟩]
 |some x=>if neV x.f2 (upV l wide w)=true then [⟨2,w.f0,⟨#[]⟩,upV l wide w⟩] else []
def moveS (l:List Item) (w:Want):List PStep:=match look l w.f0 with
 |none=> []
 |some x=>if x.f1=w.f1 then [] else [⟨3,w.f0,w.f1,⟨0,0,0⟩⟩]
def lowerS (l:List Item) (wide:Bool) (w:Want):List PStep:=if neV (upV l wide w) w.f2=true then [⟨2,w.f0,⟨#[]⟩,w.f2⟩] else []
def delS (n:ByteArray):PStep:=⟨4,n,⟨#[]⟩,⟨0,0,0⟩⟩
def wideGo (l:List Item) (ms:List PMark):Bool→List Want→Option Bool
  |b,[]=>some b
  | b, w :: ws => match look l w.f0 with
    |none=>wideGo l ms b ws
    |some x=>if mlook ms w.f0=none then none else wideGo l ms (b|| !decide (x.f1=w.f1)) ws
def planR (ws:List Want) (ms:List PMark) (l:List Item):List PStep×Int:=
 if checkR ws=0 then (match wideGo l ms false (topR ws) with
  |none=>([],3)
  |some wide=>((((topR ws).flatMap (raiseS l wide)++(topR ws).flatMap (moveS l))++(topR ws).reverse.flatMap (lowerS l wide))++(goesR ws ms l).map delS,0)) else ([],checkR ws)
theorem len_goesGo (ws:List Want) (l:List Item): ∀(ms:List PMark) (out:List ByteArray),(goesGo ws l out ms).length≤out.length+ms.length
  |[],out=>by rw [goesGo];simp
  | m :: ms, out => by
    rw [goesGo]
    split
    · have := len_goesGo ws l ms out
      rw [List.length_cons];omega
    have:=len_goesGo ws l ms (insG l m.f0 out)
    rw [len_insG] at this;rw [List.length_cons];omega
section
variable {ws:List Want} {ms:List PMark} {l:List Item} {top:List Want} {wide:Bool} {r:List PStep×Int}
theorem steps_l4 {gone:List ByteArray} (hg:gone.length≤100000): ∀(d i:Nat) (acc:List PStep),gone.length - i=d→i≤gone.length→acc.length≤10000+i→Ev (fun k=>r16_Steps.l4 k acc gone (i:Int)) (acc++(gone.drop i).map delS,0)
  | 0, i, acc, hd, hi, ha => by
    rw [List.drop_of_length_le (by omega),List.map_nil,List.append_nil];exact Ev.step (fun k=>r16_Steps.l4.eq_2 (k:=k) ..) (Ev.congr (fun k=>if_neg (by omega)) (Ev.now _))
  | d + 1, i, acc, hd, hi, ha => by
    have hlt:i<gone.length:=by omega
    have next:=steps_l4 hg d (i+1) (acc++ [delS gone[i]]) (by omega) (by omega) (by rw [List.length_append,List.length_singleton];omega);rw [List.drop_eq_getElem_cons hlt,List.map_cons];rw [List.append_assoc,List.singleton_append] at next;refine Ev.step (fun k=>r16_Steps.l4.eq_2 (k:=k) ..) ?_;rw [rdOf_N ByteArray.empty gone hlt,nx64 hlt (by omega)];exact Ev.congr (fun k=>by rw [if_pos (show (i:Int)<(gone.length:Int) by omega),if_pos (show (0:Int)≤(i:Int) by omega),if_pos (by omega)];rfl) next
theorem steps_l3 (hl:l.length<1000000) (ht:top.length≤1000): ∀(j:Nat) (acc:List PStep),j≤top.length→acc.length≤3*top.length - j→Ev (fun k=>(r16_goes.f k ws ms l).bind fun t45=>r16_Steps.l4 k (acc++(top.take j).reverse.flatMap (lowerS l wide)) t45 0) r→Ev (fun k=>r16_Steps.l3 k ws ms l top wide acc ((j:Int) - 1)) r
  | 0, acc, hj, ha, hr => by
    rw [List.take_zero,List.reverse_nil,List.flatMap_nil,List.append_nil] at hr;exact Ev.step (fun k=>r16_Steps.l3.eq_2 (k:=k) ..) (Ev.congr (fun k=>if_neg (by omega)) hr)
  | j + 1, acc, hj, ha, hr => by
    have hlt:j<top.length:=by omega
    rw [take_next hlt,List.reverse_append,List.reverse_singleton,List.singleton_append,List.flatMap_cons] at hr;have e0:(((j+1:Nat):Int) - 1)=(j:Int):=by omega
    have e1:wrap64 ((j:Int) - 1)=(j:Int) - 1:=w64 (by omega) (by omega);rw [e0];refine Ev.step (fun k=>r16_Steps.l3.eq_2 (k:=k) ..) ?_;rw [rd_wantN top hlt,e1];refine Ev.congr (fun k=>by rw [if_pos (show (j:Int)≥0 by omega),if_pos (show (0:Int)≤(j:Int) by omega),if_pos (show (j:Int)<(top.length:Int) by omega)]) ?_;refine Ev.bind (r16_up_ev hl wide top[j]) ?_;by_cases c:neV (upV l wide top[j]) top[j].f2=true
    · rw [show lowerS l wide top[j] = [⟨2, top[j].f0, ⟨#[]⟩, top[j].f2⟩] from if_pos c, ← List.append_assoc] at hr
      refine Ev.congr (fun k=>(if_pos c).trans (if_pos (by omega))) ?_
      exact steps_l3 hl ht j _ (by omega) (by rw [List.length_append,List.length_singleton];omega) hr
    rw [show lowerS l wide top[j]=[] from if_neg c,List.nil_append] at hr;exact Ev.congr (fun k=>if_neg c) (steps_l3 hl ht j acc (by omega) (by omega) hr)
theorem steps_l2 (hl:l.length<1000000) (ht:top.length≤1000): ∀(d i:Nat) (acc:List PStep),top.length - i=d→i≤top.length→acc.length≤top.length+i→Ev (fun k=>r16_Steps.l3 k ws ms l top wide (acc++(top.drop i).flatMap (moveS l)) ((top.length:Int) - 1)) r→Ev (fun k=>r16_Steps.l2 k ws ms l top wide acc (i:Int)) r
  | 0, i, acc, hd, hi, ha, hr => by
    rw [List.drop_of_length_le (by omega),List.flatMap_nil,List.append_nil] at hr;refine Ev.step (fun k=>r16_Steps.l2.eq_2 (k:=k) ..) (Ev.congr (fun k=> ?_) hr);rw [if_neg (by omega),w64 (n:=(top.length:Int) - 1) (by omega) (by omega)]
  | d + 1, i, acc, hd, hi, ha, hr => by
    have hlt:i<top.length:=by omega
    rw [List.drop_eq_getElem_cons hlt,List.flatMap_cons] at hr;refine Ev.step (fun k=>r16_Steps.l2.eq_2 (k:=k) ..) ?_;rw [rd_wantN top hlt,nx64 hlt (by omega)];refine Ev.congr (fun k=>by rw [if_pos (show (i:Int)<(top.length:Int) by omega),if_pos (show (0:Int)≤(i:Int) by omega)]) ?_;refine Ev.bind (r10_Find_ev l top[i].f0 hl) ?_
    cases h:look l top[i].f0 with
    | none =>
      have a:=fnd_neg.2 h;rw [show moveS l top[i]=[] by unfold moveS;rw [h],List.nil_append] at hr;exact Ev.congr (fun k=>if_neg (by omega)) (steps_l2 hl ht d (i+1) acc (by omega) (by omega) (by omega) hr)
    | some x =>
      have a:=fnd_ge.2 ⟨x,h⟩;have b:=fnd_lt l top[i].f0;refine Ev.congr (fun k=>by rw [if_pos (show fnd l top[i].f0≥0 from a),if_pos a,if_pos b,fnd_rd h]) ?_;by_cases c:x.f1=top[i].f1
      · rw [show moveS l top[i] = [] by unfold moveS; rw [h]; exact if_pos c, List.nil_append] at hr
        exact Ev.congr (fun k=>if_pos (nm_inj.2 c)) (steps_l2 hl ht d (i+1) acc (by omega) (by omega) (by omega) hr)
      rw [show moveS l top[i]=[⟨3,top[i].f0,top[i].f1,⟨0,0,0⟩⟩] by unfold moveS;rw [h];exact if_neg c,←List.append_assoc] at hr;refine Ev.congr (fun k=>(if_neg (fun q=>c (nm_inj.1 q))).trans (if_pos (by omega))) ?_;exact steps_l2 hl ht d (i+1) _ (by omega) (by omega) (by rw [List.length_append,List.length_singleton];omega) hr
theorem steps_l1 (hl:l.length<1000000) (ht:top.length≤1000): ∀(d i:Nat) (acc:List PStep),top.length - i=d→i≤top.length→acc.length≤i→Ev (fun k=>r16_Steps.l2 k ws ms l top wide (acc++(top.drop i).flatMap (raiseS l wide)) 0) r→Ev (fun k=>r16_Steps.l1 k ws ms l top wide acc (i:Int)) r
  | 0, i, acc, hd, hi, ha, hr => by
    rw [List.drop_of_length_le (by omega),List.flatMap_nil,List.append_nil] at hr;exact Ev.step (fun k=>r16_Steps.l1.eq_2 (k:=k) ..) (Ev.congr (fun k=>if_neg (by omega)) hr)
  | d + 1, i, acc, hd, hi, ha, hr => by
    have hlt:i<top.length:=by omega
    rw [List.drop_eq_getElem_cons hlt,List.flatMap_cons] at hr;refine Ev.step (fun k=>r16_Steps.l1.eq_2 (k:=k) ..) ?_;rw [rd_wantN top hlt,nx64 hlt (by omega)];refine Ev.congr (fun k=>by rw [if_pos (show (i:Int)<(top.length:Int) by omega),if_pos (show (0:Int)≤(i:Int) by omega)]) ?_;refine Ev.bind (r10_Find_ev l top[i].f0 hl) (Ev.bind (r16_up_ev hl wide top[i]) ?_)
    cases h:look l top[i].f0 with
    | none =>
      have a:=fnd_neg.2 h;rw [show raiseS l wide top[i]=[⟨1,top[i].f0,top[i].f1,upV l wide top[i]⟩] by unfold raiseS;rw [h],←List.append_assoc] at hr;refine Ev.congr (fun k=>(if_pos a).trans (if_pos (by omega))) ?_;exact steps_l1 hl ht d (i+1) _ (by omega) (by omega) (by rw [List.length_append,List.length_singleton];omega) hr
    | some x =>
      have a:=fnd_ge.2 ⟨x,h⟩;have b:=fnd_lt l top[i].f0;refine Ev.congr (fun k=>by rw [if_neg (by omega),if_pos a,if_pos b,fnd_rd h]) ?_;by_cases c:neV x.f2 (upV l wide top[i])=true
      · rw [show raiseS l wide top[i] = [⟨2, top[i].f0, ⟨#[]⟩, upV l wide top[i]⟩] by unfold raiseS; rw [h]; exact if_pos c, ← List.append_assoc] at hr
        refine Ev.congr (fun k=>(if_pos c).trans (if_pos (by omega))) ?_
        exact steps_l1 hl ht d (i+1) _ (by omega) (by omega) (by rw [List.length_append,List.length_singleton];omega) hr
      rw [show raiseS l wide top[i]=[] by unfold raiseS;rw [h];exact if_neg c,List.nil_append] at hr;exact Ev.congr (fun k=>if_neg c) (steps_l1 hl ht d (i+1) acc (by omega) (by omega) (by omega) hr)
end
theorem steps_l0 {ws:List Want} {ms:List PMark} {l:List Item} {top:List Want} {r:List PStep×Int} (hl:l.length<1000000) (hm:ms.length<1000000) (ht:top.length≤1000): ∀(d i:Nat) (b:Bool),top.length - i=d→i≤top.length→(∀wide,wideGo l ms b (top.drop i)=some wide→Ev (fun k=>r16_Steps.l1 k ws ms l top wide [] 0) r)→(wideGo l ms b (top.drop i)=none→r=([],3))→Ev (fun k=>r16_Steps.l0 k ws ms l top b (i:Int)) r
  | 0, i, b, hd, hi, h1, h2 => by
    rw [List.drop_of_length_le (by omega)] at h1;exact Ev.step (fun k=>r16_Steps.l0.eq_2 (k:=k) ..) (Ev.congr (fun k=>if_neg (by omega)) (h1 b rfl))
  | d + 1, i, b, hd, hi, h1, h2 => by
    have hlt:i<top.length:=by omega
    rw [List.drop_eq_getElem_cons hlt] at h1 h2;have next:=fun (b':Bool) (e:wideGo l ms b (top[i]::top.drop (i+1))=wideGo l ms b' (top.drop (i+1)))=>steps_l0 (ws:=ws) (r:=r) hl hm ht d (i+1) b' (by omega) (by omega) (fun wd q=>h1 wd (e.trans q)) (fun q=>h2 (e.trans q))
    refine Ev.step (fun k=>r16_Steps.l0.eq_2 (k:=k) ..) ?_;rw [rd_wantN top hlt,nx64 hlt (by omega)];refine Ev.congr (fun k=>by rw [if_pos (show (i:Int)<(top.length:Int) by omega),if_pos (show (0:Int)≤(i:Int) by omega)]) ?_;refine Ev.bind (r10_Find_ev l top[i].f0 hl) ?_
    cases h:look l top[i].f0 with
    | none =>
      have a:=fnd_neg.2 h;have nx:=next b (by rw [wideGo,h]);refine Ev.congr (fun k=>if_neg (by omega)) ?_
      cases b with
      |true=>exact Ev.congr (fun k=>if_pos rfl) nx
      |false=>exact Ev.congr (fun k=>if_neg (by simp)) nx
    | some x =>
      have a:=fnd_ge.2 ⟨x,h⟩;have b':=fnd_lt l top[i].f0;refine Ev.congr (fun k=>if_pos (show fnd l top[i].f0≥0 from a)) (Ev.bind (r16_marked_ev ms top[i].f0 hm) ?_);by_cases c:mlook ms top[i].f0=none
      · rw [h2 (by rw [wideGo, h]; exact if_pos c)]
        exact Ev.congr (fun k=>if_pos (mfnd_neg.2 c)) (Ev.now _)
      refine Ev.congr (fun k=>if_neg (fun q=>c (mfnd_neg.1 q))) ?_;have nx:=next (b|| !decide (x.f1=top[i].f1)) (by rw [wideGo,h];exact if_neg c)
      cases b with
      |true=>exact Ev.congr (fun k=>if_pos rfl) nx
      | false =>
        refine Ev.congr (fun k=>(if_neg (by simp)).trans (by rw [if_pos a,if_pos b',fnd_rd h])) ?_;rw [Bool.false_or] at nx;rw [show (x.f1.toList !=top[i].f1.toList)= !decide (x.f1=top[i].f1) by show (!(x.f1.toList==top[i].f1.toList))=_;rw [nm_beq]];exact nx
theorem r16_Steps_ev (ws:List Want) {ms:List PMark} {l:List Item} (hl:l.length<1000000) (hm:ms.length≤50000):Ev (fun k=>r16_Steps.f k ws ms l) (planR ws ms l):=by
  unfold r16_Steps.f planR;refine Ev.bind (r10_Check_ev ws) ?_;by_cases c:checkR ws=0;rotate_left
  · rw [if_neg c]
    exact Ev.congr (fun k=>if_neg c) (Ev.now _)
  rw [if_pos c];have hw:=(checkR_tree (.inl c)).len;have ht:(topR ws).length≤120:=by rw [(topR_perm ws).length_eq];exact hw
  refine Ev.congr (fun k=>if_pos c) (Ev.bind (r10_Top_ev (by omega)) ?_);refine steps_l0 hl (by omega) (by omega) (topR ws).length 0 false (by omega) (by omega) (fun wide q=> ?_) (fun q=> ?_);rotate_left
  · rw [List.drop_zero] at q
    rw [q]
  rw [List.drop_zero] at q;rw [q]
  have hlen: ∀(f:Want→List PStep) (xs:List Want),(∀w,(f w).length≤1)→(xs.flatMap f).length≤xs.length:=fun f xs hf=>by
    induction xs with
    |nil=>simp
    |cons x xs ih=>rw [List.flatMap_cons,List.length_append,List.length_cons];have:=hf x;omega
  have h1: ∀w,(raiseS l wide w).length≤1:=fun w=>by unfold raiseS;split<;>(try split)<;>simp
  have h2: ∀w,(moveS l w).length≤1:=fun w=>by unfold moveS;split<;>(try split)<;>simp
  have h3: ∀w,(lowerS l wide w).length≤1:=fun w=>by unfold lowerS;split<;>simp
  have g1:=hlen _ (topR ws) h1;have g2:=hlen _ (topR ws) h2;have g3:=hlen _ (topR ws).reverse h3;rw [List.length_reverse] at g3;have g4:(goesR ws ms l).length≤ms.length:=by have:=len_goesGo ws l ms [];rw [List.length_nil,Nat.zero_add] at this;exact this
  refine steps_l1 hl (by omega) (topR ws).length 0 [] (by omega) (by omega) (by simp) ?_;rw [List.drop_zero,List.nil_append];refine steps_l2 hl (by omega) (topR ws).length 0 _ (by omega) (by omega) (by omega) ?_;rw [List.drop_zero];refine steps_l3 hl (by omega) (topR ws).length _ (by omega) (by rw [List.length_append];omega) ?_;rw [List.take_length];refine Ev.bind (r16_goes_ev (by omega) hl (by omega)) ?_;have:=steps_l4 (gone:=goesR ws ms l) (by omega) (goesR ws ms l).length 0 (((topR ws).flatMap (raiseS l wide)++(topR ws).flatMap (moveS l))++(topR ws).reverse.flatMap (lowerS l wide)) (by omega) (by omega) (by rw [List.length_append,List.length_append];omega)
  rw [List.drop_zero] at this;exact this
end Go.Proofs.Ytahidkjncljkaaa.Print

namespace Go.Proofs.Ytahidkjncljkaaa.Print
open Go.RowKit Go.Proofs.YtahidkjncljkaaaW.PrintWords Go.Proofs.YtahidkjncljkaaaW.PrintLast Go.Proofs.YtahidkjncljkaaaW.PrintMore
attribute [local go_sem] max2_int min2_int max_two min_two max_three min_three max_four min_four

def Kept (b:Nat) (W w:World):Prop:=(∀g ob,g≠b→W.heap[g]?=some ob→w.heap[g]?=some ob)∧W.heap.size≤w.heap.size
def trial_try.l0:Nat→List (S76)→Int→List (S79)→Int→Option ((List (S79))×Int×Int)
 |0,_,_,_,_=>none
 |k+1,ss,x,lc,dc=>if x<(ss.length:Int) then (if 0≤x then ((shape_Do.f k lc (rd_T76 ss x).f0 (rd_T76 ss x).f1 (rd_T76 ss x).f2 (rd_T76 ss x).f3.f0 (rd_T76 ss x).f3.f1 (rd_T76 ss x).f3.f2 (-1)).bind fun bt7=>if bt7.2=0 then trial_try.l0 k ss (wrap64 (x+1)) bt7.1 (wrap64 (dc+1)) else some (lc,dc,bt7.2)) else none) else some (lc,dc,0)
theorem trial_try.mono_l: ∀k y0 y1 y2 y3,LeO (trial_try.l0 k y0 y1 y2 y3) (trial_try.l0 (k+1) y0 y1 y2 y3)
  |0=>fun _ _ _ _ r h=>by simp [trial_try.l0] at h
  | k + 1 => by
    have ih0:=trial_try.mono_l k;intro y0 y1 y2 y3;unfold trial_try.l0
    repeat' first
      |(with_reducible exact ih0 _ _ _ _)
      |(with_reducible exact shape_Do.mono _ _ _ _ _ _ _ _ _)
      |(with_reducible exact LeO.refl _)
      |(with_reducible exact LeO.none _)
      |(with_reducible refine LeO.ite ?_ ?_)
      |(with_reducible refine LeO.bind ?_ (fun _=> ?_))
theorem eqA79 (d:Nat) (w:World) (x0 y0:ByteArray) (x1 y1:ByteArray) (x2 y2:Int) (x3 y3:Int) (x4 y4:Int) (x5 y5:Int) (x6 y6:Int) (x7 y7:Int) (x8 y8:Int) (x9 y9:Int) (x10 y10:Int) (x11 y11:Int):
  (Op.equalIn (d+3) 79 (.agg #[.string x0, .string x1, .int .i64 x2, .int .i64 x3, .int .i64 x4, .int .i64 x5, .int .i64 x6, .int .i64 x7, .int .i64 x8, .int .i64 x9, .int .i64 x10, .int .i64 x11]) (.agg #[.string y0, .string y1, .int .i64 y2, .int .i64 y3, .int .i64 y4, .int .i64 y5, .int .i64 y6, .int .i64 y7, .int .i64 y8, .int .i64 y9, .int .i64 y10, .int .i64 y11])).run Try.prog w= .ok (x0.toList==y0.toList && (x1.toList==y1.toList && ((x2==y2 && (x3==y3 && (x4==y4))) && ((x5==y5 && (x6==y6 && (x7==y7))) && ((x8==y8 && (x9==y9 && (x10==y10))) && (x11==y11)))))) w:=by
 refine eqA_of Try.underlying79 (by kernel_rfl) ?_;refine eqf_cons (by rfl) (by go_simp;rfl) (by go_simp;rfl) (by go_simp) ?_;refine eqf_cons (by rfl) (by go_simp;rfl) (by go_simp;rfl) (by go_simp) ?_;refine eqf_cons (by rfl) (by go_simp) (by go_simp) (eqA37 (d+0) w _ _ _ _ _ _) ?_;refine eqf_cons (by rfl) (by go_simp) (by go_simp) (eqA37 (d+0) w _ _ _ _ _ _) ?_;refine eqf_cons (by rfl) (by go_simp) (by go_simp) (eqA37 (d+0) w _ _ _ _ _ _) ?_;exact eqf_last (by rfl) (by go_simp;rfl) (by go_simp;rfl) (by go_simp)
attribute [local go_sem high] eqA79
end Go.Proofs.Ytahidkjncljkaaa.Print

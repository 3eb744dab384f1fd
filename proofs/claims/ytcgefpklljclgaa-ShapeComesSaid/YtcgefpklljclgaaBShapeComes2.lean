/- A part of the proof of ShapeComes: the machine's side by the kit's print, contracts and lemmas by this session. -/
import Derived.Deep.RegionLaw
import Derived.Shelf.RegionOpenPlain
import Derived.Laws.Cover1
import Derived.Test.YtcgefpklljclgaaBShapeComes0
import Derived.Test.YtcgefpklljclgaaBShapeComes1
namespace Go.Proofs.Ytcgefpklljclgaa.Print
open Go.RowKit Go.Proofs.YtcgefpklljclgaaW.PrintWords Go.Proofs.YtcgefpklljclgaaW.PrintLast Go.Proofs.YtcgefpklljclgaaW.PrintMore
attribute [local go_sem] max2_int min2_int max_two min_two max_three min_three max_four min_four
set_option linter.unusedVariables false
set_option linter.unusedSimpArgs false

def tree_Below.l0:Nat→ByteArray→List ByteArray→List (S31)→Int→Int→Option (List ByteArray)
 |0,_,_,_,_,_=>none
 |k+1,x1,x5,x8,x9,x10=>if x10<x9 then (if 0≤x10 then (if x10<(x8.length:Int) then (if ((rd_T31 x8 x10).f1).toList=x1.toList then (if x5.length<8796093022208 then (tree_Below.l0 k x1 (x5++ [(rd_T31 x8 x10).f0]) x8 x9 (wrap64 (x10+1))) else (none)) else (tree_Below.l0 k x1 x5 x8 x9 (wrap64 (x10+1)))) else (none)) else (none)) else (some x5)
def tree_Below.f (k:Nat) (l0:List (S31)) (a1:ByteArray):Option (List ByteArray):=tree_Below.l0 k a1 ([]:List ByteArray) l0 (l0.length:Int) 0
theorem tree_Below.mono_l: ∀k,(∀y0 y1 y2 y3 y4,LeO (tree_Below.l0 k y0 y1 y2 y3 y4) (tree_Below.l0 (k+1) y0 y1 y2 y3 y4))
 |0=>fun _ _ _ _ _ r h=>by simp [tree_Below.l0] at h
 |k+1=>by
  have ih0:=tree_Below.mono_l k
  ·intro y0 y1 y2 y3 y4
   unfold tree_Below.l0
   repeat' first
   |(with_reducible exact ih0 _ _ _ _ _)
   |(with_reducible exact LeO.refl _)
   |(with_reducible exact LeO.none _)
   |(with_reducible refine LeO.ite ?_ ?_)
   |(with_reducible refine LeO.bind ?_ (fun _=> ?_))
   |exact ih0 _ _ _ _ _
   |exact LeO.none _
   |refine LeO.ite ?_ ?_
   |refine LeO.bind ?_ (fun _=> ?_)
theorem tree_Below.mono: ∀a0 a1 k,LeO (tree_Below.f k a0 a1) (tree_Below.f (k+1) a0 a1):=by
 intro a0 a1 k
 have ih0:=tree_Below.mono_l k
 unfold tree_Below.f
 repeat' first
  |(with_reducible exact ih0 _ _ _ _ _)
  |(with_reducible exact LeO.refl _)
  |(with_reducible exact LeO.none _)
  |(with_reducible refine LeO.ite ?_ ?_)
  |(with_reducible refine LeO.bind ?_ (fun _=> ?_))
  |exact ih0 _ _ _ _ _
  |exact LeO.none _
  |refine LeO.ite ?_ ?_
  |refine LeO.bind ?_ (fun _=> ?_)
set_option maxHeartbeats 8000000 in
set_option maxRecDepth 100000 in
theorem tree_Below.calls (k:Nat) (A0:Option Addr) (c0:Nat) (l0:List (S31)) (a1:ByteArray) (r:List ByteArray) (w:World) (hr0:Kd.C k31 w A0 l0.length l0) (hc0:l0.length≤c0) (h:tree_Below.f k l0 a1=some r):
  Calls Try.prog 73 #[.slice A0 l0.length c0, .string a1] w fun e w'=> ∃v0_:Value,e= .returned (v0_)∧Kd.R Kd.string 9 w' w.heap.size (fun _=>True) v0_ r∧Below w.heap.size w w':=by
 have hu31:=Try.underlying31
 have HR0:=Aside0.mk hr0
 have HC0:=Aside0.mk hc0
 clear hr0 hc0
 have HB:=am_ (Below.refl w.heap.size w)
 have H:(tree_Below.l0 k a1 ([]:List ByteArray) l0 (l0.length:Int) 0)=some r:=h
 clear h
 have H':=Aside0.mk H
 clear H
 go_enter Try.func73,Try.ntmps73
 go_wp2
 go_loopg [5,10] k (fun kq v5 v10 w'=> ∃(x5_1:List ByteArray) (x10_1:Int),v10= .int .i64 x10_1∧Aside0 (tree_Below.l0 kq a1 x5_1 l0 (l0.length:Int) x10_1=some r)∧Aside0 (kq≤k)∧Aside0 (Kd.R Kd.string 9 w' w.heap.size (fun _=>True) v5 x5_1)∧Aside0 (Below w.heap.size w w'))
 case atStart=>exact ⟨(([]:List ByteArray)),(0),(by first|rfl|(simp;done)|(simp [*];done)),H',⟨Nat.le_refl _⟩,⟨by first|exact Kd.R_nil _ _ _ _ _|exact Kd.N_nil _ _ _ _ _|exact Kd.V_nil _ _ _ _ _|exact Kd.Q_nil _ _ _ _ _|exact Kd.S_nil _ _ _ _ _⟩,⟨zl0_ HB⟩⟩
 case round=>
  clear H'
  try clear p2
  obtain ⟨x5_1,x10_1,rfl,HA,HK1,HO_5,HB⟩:=hrel
  cases gk with
  |zero=>exact absurd HA.out (by simp [tree_Below.l0])
  |succ k1=>
   have H:=HA.out
   clear HA
   simp only [tree_Below.l0] at H
   by_cases c3:x10_1<(l0.length:Int)
   ·rw [if_pos c3] at H
    have c3b0:decide (x10_1<(l0.length:Int))=true:=decide_eq_true c3
    clear c3
    by_cases c4:0≤x10_1
    ·rw [if_pos c4] at H
     have c4b0:decide (0≤x10_1)=true:=decide_eq_true c4
     clear c4
     by_cases c5:x10_1<(l0.length:Int)
     ·rw [if_pos c5] at H
      have c5b0:decide (x10_1<(l0.length:Int))=true:=decide_eq_true c5
      clear c5
      by_cases c6:((rd_T31 l0 x10_1).f1).toList=a1.toList
      ·rw [if_pos c6] at H
       have c6b0:(((rd_T31 l0 x10_1).f1).toList==a1.toList)=true:=beq_iff_eq.mpr c6
       have c6b1:(((rd_T31 l0 x10_1).f1).toList !=a1.toList)=false:=bne_eq_false_iff_eq.mpr c6
       clear c6
       by_cases c7:x5_1.length<8796093022208
       ·rw [if_pos c7] at H
        have LMc7:=Aside0.mk c7
        clear c7
        obtain ⟨y3,hy3⟩: ∃y_:List ByteArray,y_=(x5_1++ [(rd_T31 l0 x10_1).f0]):=⟨_,rfl⟩
        replace H:(tree_Below.l0 k1 a1 y3 l0 (l0.length:Int) (wrap64 (x10_1+1)))=some r:=by first|(rw [hy3];with_reducible exact H)|(have H2_:=(Option.bind_some _ _).symm.trans H;rw [hy3];with_reducible exact H2_)|(have H2_:=(Option.bind_some _ _).symm.trans H;with_reducible exact H2_)|with_reducible exact H|(rw [hy3];exact H)|exact H
        have Ny3:=Aside0.mk hy3
        clear hy3
        have H':=Aside0.mk H
        clear H
        have p1:0≤(x10_1:Int):=of_decide_eq_true zq_
        have q1:x10_1<(l0.length:Int):=of_decide_eq_true zq_
        obtain ⟨ad1,e1,hx1_0,hx1_1,hx1_2,hx1_3,hx1_4,hx1_5,hx1_6,hx1_7,hx1_8,hx1_9,hx1_10,hx1_11⟩:=at_T31 HR0.out x10_1 p1 q1
        cases e1
        replace hx1_0:=zx_ HB hx1_0
        replace hx1_1:=zx_ HB hx1_1
        replace hx1_2:=zx_ HB hx1_2
        replace hx1_3:=zx_ HB hx1_3
        replace hx1_4:=zx_ HB hx1_4
        replace hx1_5:=zx_ HB hx1_5
        replace hx1_6:=zx_ HB hx1_6
        replace hx1_7:=zx_ HB hx1_7
        replace hx1_8:=zx_ HB hx1_8
        replace hx1_9:=zx_ HB hx1_9
        replace hx1_10:=zx_ HB hx1_10
        replace hx1_11:=zx_ HB hx1_11
        replace p1:=eq_true p1
        replace q1:=eq_true q1
        go_wp2_with (first|((with_reducible refine gate_dst (N:=7) rfl ?_);refine box_event ?hg (N:=7) ?hd (cs:=#[.string (⟨#[]⟩:ByteArray), .string (⟨#[]⟩:ByteArray), .int .i64 0, .int .i64 0, .int .i64 0, .int .i64 0, .int .i64 0, .int .i64 0, .int .i64 0, .int .i64 0, .int .i64 0, .int .i64 0]) (t:=31) ?hr ?_;(case hd=>rfl);(case hg=>rfl);(case hr=>first|(go_simp;done)|(go_simp;rfl));intro gb2 hg w8 hbox hb;have n0_:=am_ (Kd.R_below (zr_ HO_5) hb);have n1_:=am_ (below_step (zl0_ HB) hb);have n2_:=am_ (hbox);have n3_:=am_ ((zg0_ HB hg:w.heap.size≤gb2));have n4_:=am_ ((zg0_ HB hg:w.heap.size≤gb2));clear HO_5;clear HB;have HO_5:=n0_;have HB:=n1_;have BK2:=n2_;have GW2:=n3_;have GE2:=n4_;clear n0_ n1_ n2_ n3_ n4_;clear hb hbox hg;have hcz9_0:w8.cell? ⟨gb2,0,none⟩=some (.string (⟨#[]⟩:ByteArray)):=(blk_cell BK2.out 0).trans rfl;have hcz9_1:w8.cell? ⟨gb2,1,none⟩=some (.string (⟨#[]⟩:ByteArray)):=(blk_cell BK2.out 1).trans rfl;have hcz9_2:w8.cell? ⟨gb2,2,none⟩=some (.int .i64 0):=(blk_cell BK2.out 2).trans rfl;have hcz9_3:w8.cell? ⟨gb2,3,none⟩=some (.int .i64 0):=(blk_cell BK2.out 3).trans rfl;have hcz9_4:w8.cell? ⟨gb2,4,none⟩=some (.int .i64 0):=(blk_cell BK2.out 4).trans rfl;have hcz9_5:w8.cell? ⟨gb2,5,none⟩=some (.int .i64 0):=(blk_cell BK2.out 5).trans rfl;have hcz9_6:w8.cell? ⟨gb2,6,none⟩=some (.int .i64 0):=(blk_cell BK2.out 6).trans rfl;have hcz9_7:w8.cell? ⟨gb2,7,none⟩=some (.int .i64 0):=(blk_cell BK2.out 7).trans rfl;have hcz9_8:w8.cell? ⟨gb2,8,none⟩=some (.int .i64 0):=(blk_cell BK2.out 8).trans rfl;have hcz9_9:w8.cell? ⟨gb2,9,none⟩=some (.int .i64 0):=(blk_cell BK2.out 9).trans rfl;have hcz9_10:w8.cell? ⟨gb2,10,none⟩=some (.int .i64 0):=(blk_cell BK2.out 10).trans rfl;have hcz9_11:w8.cell? ⟨gb2,11,none⟩=some (.int .i64 0):=(blk_cell BK2.out 11).trans rfl;have hfz9_0:=blk_frozen BK2.out 0;have hfz9_1:=blk_frozen BK2.out 1;have hfz9_2:=blk_frozen BK2.out 2;have hfz9_3:=blk_frozen BK2.out 3;have hfz9_4:=blk_frozen BK2.out 4;have hfz9_5:=blk_frozen BK2.out 5;have hfz9_6:=blk_frozen BK2.out 6;have hfz9_7:=blk_frozen BK2.out 7;have hfz9_8:=blk_frozen BK2.out 8;have hfz9_9:=blk_frozen BK2.out 9;have hfz9_10:=blk_frozen BK2.out 10;have hfz9_11:=blk_frozen BK2.out 11)|((with_reducible refine gate_builtin (b:= .append) (xs:=#[.tmp 18, .tmp 21]) rfl ?_);at_builtin;refine Kd.R_append Kd.string (w0:=w) w.heap.size rfl (.tmp 18) (.tmp 21) 74 9 (.string ⟨#[]⟩) 16 rfl Try.underlying74 info9 rfl (by decide) (by omega) u5 x5_1 ((rd_T31 l0 x10_1).f0) [.string ((rd_T31 l0 x10_1).f0)] (fun _=>True) (fun _=>False) rfl (by first|(go_simp;done)|(go_simp;rfl)) ?aP (fun _ hk=>hk.elim) ?aF ?aO ?aB ?aS ?aL ?_;(case aP=>exact rfl);(case aB=>exact (zl1_ HB GE2));(case aF=>exact (fun _ _=>trivial));(case aO=>exact (by refine zt_ ?_;exact Kd.R_mono (Kd.R_far (p:=⟨gb2,11,none⟩) (Kd.R_far (p:=⟨gb2,10,none⟩) (Kd.R_far (p:=⟨gb2,9,none⟩) (Kd.R_far (p:=⟨gb2,8,none⟩) (Kd.R_far (p:=⟨gb2,7,none⟩) (Kd.R_far (p:=⟨gb2,6,none⟩) (Kd.R_far (p:=⟨gb2,5,none⟩) (Kd.R_far (p:=⟨gb2,4,none⟩) (Kd.R_far (p:=⟨gb2,3,none⟩) (Kd.R_far (p:=⟨gb2,2,none⟩) (Kd.R_far (p:=⟨gb2,1,none⟩) (Kd.R_far (p:=⟨gb2,0,none⟩) (Kd.R_types HO_5.out BK2.out (by decide)) (fun _ hk=>hk.2) (.string ((rd_T31 l0 x10_1).f0))) (fun _ hk=>hk.2) (.string ((rd_T31 l0 x10_1).f1))) (fun _ hk=>hk.2) (.int .i64 ((rd_T31 l0 x10_1).f2.f0))) (fun _ hk=>hk.2) (.int .i64 ((rd_T31 l0 x10_1).f2.f1))) (fun _ hk=>hk.2) (.int .i64 ((rd_T31 l0 x10_1).f2.f2))) (fun _ hk=>hk.2) (.int .i64 ((rd_T31 l0 x10_1).f3.f0))) (fun _ hk=>hk.2) (.int .i64 ((rd_T31 l0 x10_1).f3.f1))) (fun _ hk=>hk.2) (.int .i64 ((rd_T31 l0 x10_1).f3.f2))) (fun _ hk=>hk.2) (.int .i64 ((rd_T31 l0 x10_1).f4.f0))) (fun _ hk=>hk.2) (.int .i64 ((rd_T31 l0 x10_1).f4.f1))) (fun _ hk=>hk.2) (.int .i64 ((rd_T31 l0 x10_1).f4.f2))) (fun _ hk=>hk.2) (.int .i64 ((rd_T31 l0 x10_1).f5))) (fun _ hk=>trivial)));(case aS=>exact (below_size (zl1_ HB GE2)));(case aL=>have:=LMc7.out;omega);intro v4 w10 ho hb hg hat;rw [←Ny3.out] at ho;have n0_:=am_ (blk_grown (g:=gb2) (o:= .cells #[.string ((rd_T31 l0 x10_1).f0), .string ((rd_T31 l0 x10_1).f1), .int .i64 ((rd_T31 l0 x10_1).f2.f0), .int .i64 ((rd_T31 l0 x10_1).f2.f1), .int .i64 ((rd_T31 l0 x10_1).f2.f2), .int .i64 ((rd_T31 l0 x10_1).f3.f0), .int .i64 ((rd_T31 l0 x10_1).f3.f1), .int .i64 ((rd_T31 l0 x10_1).f3.f2), .int .i64 ((rd_T31 l0 x10_1).f4.f0), .int .i64 ((rd_T31 l0 x10_1).f4.f1), .int .i64 ((rd_T31 l0 x10_1).f4.f2), .int .i64 ((rd_T31 l0 x10_1).f5)] 31 (0,0)) (by refine zk_ ?_;refine blk_put (cs:=#[.string ((rd_T31 l0 x10_1).f0), .string ((rd_T31 l0 x10_1).f1), .int .i64 ((rd_T31 l0 x10_1).f2.f0), .int .i64 ((rd_T31 l0 x10_1).f2.f1), .int .i64 ((rd_T31 l0 x10_1).f2.f2), .int .i64 ((rd_T31 l0 x10_1).f3.f0), .int .i64 ((rd_T31 l0 x10_1).f3.f1), .int .i64 ((rd_T31 l0 x10_1).f3.f2), .int .i64 ((rd_T31 l0 x10_1).f4.f0), .int .i64 ((rd_T31 l0 x10_1).f4.f1), .int .i64 ((rd_T31 l0 x10_1).f4.f2), .int .i64 0]) ?_ 11 _ rfl;refine zk_ ?_;refine blk_put (cs:=#[.string ((rd_T31 l0 x10_1).f0), .string ((rd_T31 l0 x10_1).f1), .int .i64 ((rd_T31 l0 x10_1).f2.f0), .int .i64 ((rd_T31 l0 x10_1).f2.f1), .int .i64 ((rd_T31 l0 x10_1).f2.f2), .int .i64 ((rd_T31 l0 x10_1).f3.f0), .int .i64 ((rd_T31 l0 x10_1).f3.f1), .int .i64 ((rd_T31 l0 x10_1).f3.f2), .int .i64 ((rd_T31 l0 x10_1).f4.f0), .int .i64 ((rd_T31 l0 x10_1).f4.f1), .int .i64 0, .int .i64 0]) ?_ 10 _ rfl;refine zk_ ?_;refine blk_put (cs:=#[.string ((rd_T31 l0 x10_1).f0), .string ((rd_T31 l0 x10_1).f1), .int .i64 ((rd_T31 l0 x10_1).f2.f0), .int .i64 ((rd_T31 l0 x10_1).f2.f1), .int .i64 ((rd_T31 l0 x10_1).f2.f2), .int .i64 ((rd_T31 l0 x10_1).f3.f0), .int .i64 ((rd_T31 l0 x10_1).f3.f1), .int .i64 ((rd_T31 l0 x10_1).f3.f2), .int .i64 ((rd_T31 l0 x10_1).f4.f0), .int .i64 0, .int .i64 0, .int .i64 0]) ?_ 9 _ rfl;refine zk_ ?_;refine blk_put (cs:=#[.string ((rd_T31 l0 x10_1).f0), .string ((rd_T31 l0 x10_1).f1), .int .i64 ((rd_T31 l0 x10_1).f2.f0), .int .i64 ((rd_T31 l0 x10_1).f2.f1), .int .i64 ((rd_T31 l0 x10_1).f2.f2), .int .i64 ((rd_T31 l0 x10_1).f3.f0), .int .i64 ((rd_T31 l0 x10_1).f3.f1), .int .i64 ((rd_T31 l0 x10_1).f3.f2), .int .i64 0, .int .i64 0, .int .i64 0, .int .i64 0]) ?_ 8 _ rfl;refine zk_ ?_;refine blk_put (cs:=#[.string ((rd_T31 l0 x10_1).f0), .string ((rd_T31 l0 x10_1).f1), .int .i64 ((rd_T31 l0 x10_1).f2.f0), .int .i64 ((rd_T31 l0 x10_1).f2.f1), .int .i64 ((rd_T31 l0 x10_1).f2.f2), .int .i64 ((rd_T31 l0 x10_1).f3.f0), .int .i64 ((rd_T31 l0 x10_1).f3.f1), .int .i64 0, .int .i64 0, .int .i64 0, .int .i64 0, .int .i64 0]) ?_ 7 _ rfl;refine zk_ ?_;refine blk_put (cs:=#[.string ((rd_T31 l0 x10_1).f0), .string ((rd_T31 l0 x10_1).f1), .int .i64 ((rd_T31 l0 x10_1).f2.f0), .int .i64 ((rd_T31 l0 x10_1).f2.f1), .int .i64 ((rd_T31 l0 x10_1).f2.f2), .int .i64 ((rd_T31 l0 x10_1).f3.f0), .int .i64 0, .int .i64 0, .int .i64 0, .int .i64 0, .int .i64 0, .int .i64 0]) ?_ 6 _ rfl;refine zk_ ?_;refine blk_put (cs:=#[.string ((rd_T31 l0 x10_1).f0), .string ((rd_T31 l0 x10_1).f1), .int .i64 ((rd_T31 l0 x10_1).f2.f0), .int .i64 ((rd_T31 l0 x10_1).f2.f1), .int .i64 ((rd_T31 l0 x10_1).f2.f2), .int .i64 0, .int .i64 0, .int .i64 0, .int .i64 0, .int .i64 0, .int .i64 0, .int .i64 0]) ?_ 5 _ rfl;refine zk_ ?_;refine blk_put (cs:=#[.string ((rd_T31 l0 x10_1).f0), .string ((rd_T31 l0 x10_1).f1), .int .i64 ((rd_T31 l0 x10_1).f2.f0), .int .i64 ((rd_T31 l0 x10_1).f2.f1), .int .i64 0, .int .i64 0, .int .i64 0, .int .i64 0, .int .i64 0, .int .i64 0, .int .i64 0, .int .i64 0]) ?_ 4 _ rfl;refine zk_ ?_;refine blk_put (cs:=#[.string ((rd_T31 l0 x10_1).f0), .string ((rd_T31 l0 x10_1).f1), .int .i64 ((rd_T31 l0 x10_1).f2.f0), .int .i64 0, .int .i64 0, .int .i64 0, .int .i64 0, .int .i64 0, .int .i64 0, .int .i64 0, .int .i64 0, .int .i64 0]) ?_ 3 _ rfl;refine zk_ ?_;refine blk_put (cs:=#[.string ((rd_T31 l0 x10_1).f0), .string ((rd_T31 l0 x10_1).f1), .int .i64 0, .int .i64 0, .int .i64 0, .int .i64 0, .int .i64 0, .int .i64 0, .int .i64 0, .int .i64 0, .int .i64 0, .int .i64 0]) ?_ 2 _ rfl;refine zk_ ?_;refine blk_put (cs:=#[.string ((rd_T31 l0 x10_1).f0), .string (⟨#[]⟩:ByteArray), .int .i64 0, .int .i64 0, .int .i64 0, .int .i64 0, .int .i64 0, .int .i64 0, .int .i64 0, .int .i64 0, .int .i64 0, .int .i64 0]) ?_ 1 _ rfl;refine zk_ ?_;refine blk_put (cs:=#[.string (⟨#[]⟩:ByteArray), .string (⟨#[]⟩:ByteArray), .int .i64 0, .int .i64 0, .int .i64 0, .int .i64 0, .int .i64 0, .int .i64 0, .int .i64 0, .int .i64 0, .int .i64 0, .int .i64 0]) ?_ 0 _ rfl;refine zk_ ?_;exact BK2.out) hg (Kd.R_ne HO_5.out BK2.out (by decide)));have n1_:=am_ (hb);have n2_:=am_ (ho);clear BK2;clear HB;clear HO_5;have BK2:=n0_;have HB:=n1_;have HO5:=n2_;clear n0_ n1_ n2_;clear ho hb hg hat))
        go_roundg k1
        case measure=>have:=HK1.out;omega
        case rel=>exact ⟨(y3),(wrap64 (x10_1+1)),(by first|rfl|(simp;done)|(simp [*];done)),H',⟨by have:=HK1.out;omega⟩,⟨by (with_reducible repeat (first|apply Kd.R_alloc|apply Kd.R_drewN|apply Kd.R_drew));exact HO5.out⟩,⟨zl1_ HB GE2⟩⟩
       ·rw [if_neg c7] at H
        exact absurd H (by simp)
      ·rw [if_neg c6] at H
       have c6b0:(((rd_T31 l0 x10_1).f1).toList==a1.toList)=false:=beq_eq_false_iff_ne.mpr c6
       have c6b1:(((rd_T31 l0 x10_1).f1).toList !=a1.toList)=true:=bne_iff_ne.mpr c6
       have H':=Aside0.mk H
       clear H
       have p1:0≤(x10_1:Int):=of_decide_eq_true zq_
       have q1:x10_1<(l0.length:Int):=of_decide_eq_true zq_
       obtain ⟨ad1,e1,hx1_0,hx1_1,hx1_2,hx1_3,hx1_4,hx1_5,hx1_6,hx1_7,hx1_8,hx1_9,hx1_10,hx1_11⟩:=at_T31 HR0.out x10_1 p1 q1
       cases e1
       replace hx1_0:=zx_ HB hx1_0
       replace hx1_1:=zx_ HB hx1_1
       replace hx1_2:=zx_ HB hx1_2
       replace hx1_3:=zx_ HB hx1_3
       replace hx1_4:=zx_ HB hx1_4
       replace hx1_5:=zx_ HB hx1_5
       replace hx1_6:=zx_ HB hx1_6
       replace hx1_7:=zx_ HB hx1_7
       replace hx1_8:=zx_ HB hx1_8
       replace hx1_9:=zx_ HB hx1_9
       replace hx1_10:=zx_ HB hx1_10
       replace hx1_11:=zx_ HB hx1_11
       replace p1:=eq_true p1
       replace q1:=eq_true q1
       go_wp2_with ((with_reducible refine gate_dst (N:=7) rfl ?_);refine box_event ?hg (N:=7) ?hd (cs:=#[.string (⟨#[]⟩:ByteArray), .string (⟨#[]⟩:ByteArray), .int .i64 0, .int .i64 0, .int .i64 0, .int .i64 0, .int .i64 0, .int .i64 0, .int .i64 0, .int .i64 0, .int .i64 0, .int .i64 0]) (t:=31) ?hr ?_;(case hd=>rfl);(case hg=>rfl);(case hr=>first|(go_simp;done)|(go_simp;rfl));intro gb2 hg w11 hbox hb;have n0_:=am_ (Kd.R_below (zr_ HO_5) hb);have n1_:=am_ (below_step (zl0_ HB) hb);have n2_:=am_ (hbox);have n3_:=am_ ((zg0_ HB hg:w.heap.size≤gb2));have n4_:=am_ ((zg0_ HB hg:w.heap.size≤gb2));clear HO_5;clear HB;have HO_5:=n0_;have HB:=n1_;have BK2:=n2_;have GW2:=n3_;have GE2:=n4_;clear n0_ n1_ n2_ n3_ n4_;clear hb hbox hg;have hcz12_0:w11.cell? ⟨gb2,0,none⟩=some (.string (⟨#[]⟩:ByteArray)):=(blk_cell BK2.out 0).trans rfl;have hcz12_1:w11.cell? ⟨gb2,1,none⟩=some (.string (⟨#[]⟩:ByteArray)):=(blk_cell BK2.out 1).trans rfl;have hcz12_2:w11.cell? ⟨gb2,2,none⟩=some (.int .i64 0):=(blk_cell BK2.out 2).trans rfl;have hcz12_3:w11.cell? ⟨gb2,3,none⟩=some (.int .i64 0):=(blk_cell BK2.out 3).trans rfl;have hcz12_4:w11.cell? ⟨gb2,4,none⟩=some (.int .i64 0):=(blk_cell BK2.out 4).trans rfl;have hcz12_5:w11.cell? ⟨gb2,5,none⟩=some (.int .i64 0):=(blk_cell BK2.out 5).trans rfl;have hcz12_6:w11.cell? ⟨gb2,6,none⟩=some (.int .i64 0):=(blk_cell BK2.out 6).trans rfl;have hcz12_7:w11.cell? ⟨gb2,7,none⟩=some (.int .i64 0):=(blk_cell BK2.out 7).trans rfl;have hcz12_8:w11.cell? ⟨gb2,8,none⟩=some (.int .i64 0):=(blk_cell BK2.out 8).trans rfl;have hcz12_9:w11.cell? ⟨gb2,9,none⟩=some (.int .i64 0):=(blk_cell BK2.out 9).trans rfl;have hcz12_10:w11.cell? ⟨gb2,10,none⟩=some (.int .i64 0):=(blk_cell BK2.out 10).trans rfl;have hcz12_11:w11.cell? ⟨gb2,11,none⟩=some (.int .i64 0):=(blk_cell BK2.out 11).trans rfl;have hfz12_0:=blk_frozen BK2.out 0;have hfz12_1:=blk_frozen BK2.out 1;have hfz12_2:=blk_frozen BK2.out 2;have hfz12_3:=blk_frozen BK2.out 3;have hfz12_4:=blk_frozen BK2.out 4;have hfz12_5:=blk_frozen BK2.out 5;have hfz12_6:=blk_frozen BK2.out 6;have hfz12_7:=blk_frozen BK2.out 7;have hfz12_8:=blk_frozen BK2.out 8;have hfz12_9:=blk_frozen BK2.out 9;have hfz12_10:=blk_frozen BK2.out 10;have hfz12_11:=blk_frozen BK2.out 11)
       go_roundg k1
       case measure=>have:=HK1.out;omega
       case rel=>exact ⟨(x5_1),(wrap64 (x10_1+1)),(by first|rfl|(simp;done)|(simp [*];done)),H',⟨by have:=HK1.out;omega⟩,⟨by (with_reducible repeat (first|apply Kd.R_alloc|apply Kd.R_drewN|apply Kd.R_drew));exact Kd.R_mono (Kd.R_far (p:=⟨gb2,11,none⟩) (Kd.R_far (p:=⟨gb2,10,none⟩) (Kd.R_far (p:=⟨gb2,9,none⟩) (Kd.R_far (p:=⟨gb2,8,none⟩) (Kd.R_far (p:=⟨gb2,7,none⟩) (Kd.R_far (p:=⟨gb2,6,none⟩) (Kd.R_far (p:=⟨gb2,5,none⟩) (Kd.R_far (p:=⟨gb2,4,none⟩) (Kd.R_far (p:=⟨gb2,3,none⟩) (Kd.R_far (p:=⟨gb2,2,none⟩) (Kd.R_far (p:=⟨gb2,1,none⟩) (Kd.R_far (p:=⟨gb2,0,none⟩) (Kd.R_types HO_5.out BK2.out (by decide)) (fun _ hk=>hk.2) (.string ((rd_T31 l0 x10_1).f0))) (fun _ hk=>hk.2) (.string ((rd_T31 l0 x10_1).f1))) (fun _ hk=>hk.2) (.int .i64 ((rd_T31 l0 x10_1).f2.f0))) (fun _ hk=>hk.2) (.int .i64 ((rd_T31 l0 x10_1).f2.f1))) (fun _ hk=>hk.2) (.int .i64 ((rd_T31 l0 x10_1).f2.f2))) (fun _ hk=>hk.2) (.int .i64 ((rd_T31 l0 x10_1).f3.f0))) (fun _ hk=>hk.2) (.int .i64 ((rd_T31 l0 x10_1).f3.f1))) (fun _ hk=>hk.2) (.int .i64 ((rd_T31 l0 x10_1).f3.f2))) (fun _ hk=>hk.2) (.int .i64 ((rd_T31 l0 x10_1).f4.f0))) (fun _ hk=>hk.2) (.int .i64 ((rd_T31 l0 x10_1).f4.f1))) (fun _ hk=>hk.2) (.int .i64 ((rd_T31 l0 x10_1).f4.f2))) (fun _ hk=>hk.2) (.int .i64 ((rd_T31 l0 x10_1).f5))) (fun _ hk=>trivial)⟩,⟨zl1_ HB GE2⟩⟩
     ·rw [if_neg c5] at H
      exact absurd H (by simp)
    ·rw [if_neg c4] at H
     exact absurd H (by simp)
   ·rw [if_neg c3] at H
    have c3b0:decide (x10_1<(l0.length:Int))=false:=decide_eq_false c3
    clear c3
    obtain rfl:=Option.some.inj H
    go_wp2
    go_ret
    exact ⟨_,by first|rfl|(simp [errW_none,errW_some]<;>rfl)|(simp [*,errW_none,errW_some]<;>rfl),by (with_reducible repeat (first|apply Kd.R_alloc|apply Kd.R_drewN|apply Kd.R_drew));exact HO_5.out,zl0_ HB⟩

set_option maxHeartbeats 4000000 in
set_option maxRecDepth 100000 in
theorem sliDelete_cells (w:World) (g n c i:Nat) (cur:Array Value) (h:w.heap[g]?=some (.cells cur 31 (0,0))) (hcs:cur.size=c*12) (hn:n≤c) (hm:c≤9223372036854775807) (hi:i<n) (h1: ∀u∈cur.toList.take (n*12),u.oneCell'=true):
    Calls Try.prog 142 #[.slice (some ⟨g,0,none⟩) n c, .int .i64 i, .int .i64 (i+1)] w fun e w'=>e= .returned (.slice (some ⟨g,0,none⟩) (n - 1) c)∧
      w'=(w.drew.setCells g (i*12) ((cur.toList.take (n*12)).drop ((i+1)*12))).setCells g ((n - 1)*12) zCells:=by
  have hz1: ¬((i:Int)=(i:Int)+1):=by omega
  obtain ⟨news,hnews⟩: ∃news,news=(cur.toList.take (n*12)).drop ((i+1)*12):=⟨_,rfl⟩
  have hsz:n*12≤cur.size:=by rw [hcs];exact Nat.mul_le_mul_right _ hn
  have hlen:news.length=(n - (i+1))*12:=by
    rw [hnews,List.length_drop,List.length_take,Array.length_toList]
    omega
  have hget: ∀t u,news[t]?=some u→w.cell? ⟨g,(i+1)*12+t,none⟩=some u:=by
    intro t u hu
    rw [hnews,List.getElem?_drop,List.getElem?_take] at hu
    split at hu
    · exact plain_cell h hu
    · cases hu
  obtain ⟨A,hA,hsrc⟩: ∃A:Addr,(if c=i+1 then some (⟨g,0,none⟩:Addr) else some ⟨g,(i+1)*12,none⟩)=some A∧Aside0 (∀t u,news[t]?=some u→w.drew.cell? (A.add t)=some u):=by
    by_cases hc:c=i+1
    · refine ⟨⟨g, 0, none⟩, by simp [hc], ⟨fun t u hu => ?_⟩⟩
      have h0:news.length=0:=by rw [hlen,show n - (i+1)=0 by omega]
      rw [List.length_eq_zero_iff.1 h0] at hu
      simp at hu
    · refine ⟨⟨g, (i + 1) * 12, none⟩, by simp [hc], ⟨fun t u hu => ?_⟩⟩
      rw [Addr.add_lit]
      exact hget t u hu
  have s1:=Aside0.mk hlen
  have HN:=Aside0.mk hnews
  have s2:Aside0 (∀u∈news,u.oneCell'=true):=⟨by
    intro u hu
    rw [hnews] at hu
    exact h1 u (List.mem_of_mem_drop hu)⟩
  have s3:Aside0 (∀t,t<news.length→(w.drew.cell? ⟨g,0+i*12+t,none⟩).isSome=true∧w.drew.frozen? ⟨g,0+i*12+t,none⟩=false):=⟨by
    intro t ht
    rw [hlen] at ht
    rw [Nat.zero_add]
    exact ⟨plain_there (w:=w.drew) (blk_drew h) (by omega),blk_frozen (w:=w.drew) (blk_drew h) _⟩⟩
  obtain ⟨W1,hW1⟩: ∃W1,W1=w.drew.setCells g (0+i*12) news:=⟨_,rfl⟩
  have hW:=Aside0.mk hW1
  obtain ⟨i0,hi0,hz0,hzs,hzb⟩:=info_parts info31
  have HI:=Aside0.mk hi0
  have HS:=Aside0.mk hzs
  have hW1b: ∃cur',W1.heap[g]?=some (.cells cur' 31 (0,0))∧cur'.size=cur.size:=by
    obtain ⟨cur',x,y,_⟩:=setCells_row news (0+i*12) w.drew cur (blk_drew h) (by rw [hlen];omega)
    exact ⟨cur',by rw [hW1];exact x,y⟩
  obtain ⟨cur',hc1,hc2⟩:=hW1b
  have hcl: ∀ty o' n' c',o'=(n - 1)*12→n'=1→(Builtin.clear_ #[24] ty #[.slice (some ⟨g,o',none⟩) n' c']).run Try.prog W1= .ok (.tuple #[]) (W1.setCells g ((n - 1)*12) zCells):=by
    rintro ty o' n' c' rfl rfl
    exact run_clear_one W1 _ 31 ty _ zCells Try.underlying24 Try.zeroValue31 (by kernel_rfl) (by intro u hu;simp only [zCells,List.mem_cons,List.not_mem_nil,or_false] at hu;rcases hu with rfl|rfl|rfl|rfl|rfl|rfl|rfl|rfl|rfl|rfl|rfl|rfl<;>rfl) g _ c' (fun j hj=>plain_there hc1 (by rw [hc2];have:zCells.length=12:=rfl;omega)) (fun j hj=>blk_frozen hc1 _)
  have HCL:=Aside0.mk hcl
  have hic:i≤c:=by omega
  have hjc:i+1≤n:=by omega
  have mixed:Try.prog.follows .mixedOrders=true:=by kernel_rfl
  have hz2:(0:Int)≤(i:Int)+1:=by omega
  have hz3:(i:Int)+1≤(n:Int):=by omega
  clear hW1 hnews hget hlen h1 hi0 hzs hz0 hzb hcl hc1 hc2 h hcs hsz
  go_enter Try.func142,Try.ntmps142
  go_wp2_with fail
  go_region_law_o (refine step_append_room rfl (.tmp 22) (.tmp 25) 24 rfl 31 i0 12 Try.underlying24 HI.out HS.out g 0 i c (by simp [Act.eval,Act.put]) A (n - (i+1)) (c - (i+1)) news (by simp [Act.eval,Act.put]) s1.out hsrc.out s2.out (by omega) s3.out ?_;rw [←hW.out])
  go_wp2_with fail
  rw [HCL.out _ _ _ _ (by omega) (by omega)]
  go_wp2
  go_ret
  refine ⟨by rw [show i+(n - (i+1))=n - 1 by omega];rfl, ?_⟩
  rw [hW.out,Nat.zero_add,HN.out]
theorem sliDelete_calls (w:World) (base:Nat) (v:Value) (l:List S31) (i:Nat) (hr:Kd.R k31 31 w base (fun _=>True) v l) (hi:i<l.length):
  Calls Try.prog 142 #[v, .int .i64 i, .int .i64 (i+1)] w fun e w'=> ∃v',e= .returned v'∧Kd.R k31 31 w' base (fun _=>True) v' (l.take i++l.drop (i+1))∧Below base w w':=by
 obtain ⟨g,c,rfl,hg,hgl⟩:=sh_head hr (by omega)
 obtain ⟨_,_,hnc,hcm,cur,hh,hcs,ht⟩:=R_cells hr
 refine (sliDelete_cells w g l.length c i cur hh hcs hnc hcm hi (by rw [ht];exact flat_one l)).mono ?_
 rintro e w' ⟨rfl,rfl⟩
 have hlc:l.length*12≤cur.size:=by rw [hcs];exact Nat.mul_le_mul_right _ hnc
 rw [ht,flat_drop l (i+1) (by omega)]
 have hl1:(flat (l.drop (i+1))).length=(l.length - (i+1))*12:=by rw [flat_len,List.length_drop]
 obtain ⟨cur1,h1,s1,t1⟩:=setCells_row (flat (l.drop (i+1))) (i*12) w.drew cur (blk_drew hh) (by rw [hl1];omega)
 obtain ⟨cur2,h2,s2,t2⟩:=setCells_row zCells ((l.length - 1)*12) _ cur1 h1 (by rw [s1];show _+12≤_;omega)
 have hll:(l.take i++l.drop (i+1)).length=l.length - 1:=by simp;omega
 refine ⟨_,rfl, ?_,Below.setCells_ (Below.setCells_ (below_drew (Below.refl _ _)) hg _ _) hg _ _⟩
 have:=R_of_cells (l:=l.take i++l.drop (i+1)) hg (by rw [hll];omega) hcm h2 (by rw [s2,s1,hcs]) (by
  rw [hll,t2,t1,List.append_assoc,List.take_append_of_le_length (by simp [hl1,Array.length_toList];omega),List.take_take,Nat.min_self,
   List.take_append_of_le_length (by simp [hl1,Array.length_toList];omega),flat_append,←flat_take l i (by omega),←ht,List.take_take,Nat.min_eq_left (by omega)]
  exact List.take_of_length_le (by simp [hl1,Array.length_toList];omega))
 rw [hll] at this
 exact this
def shape_Delete.f (k:Nat) (l0:List (S31)) (a1:ByteArray) (a2:Int):Option ((List (S31))×Int):=
 (shape_made.f l0 a1).bind fun p=>(guardF p.1 p.2 a2).bind fun e=>if e≠0 then some ([],e) else (tree_Below.f k l0 a1).bind fun b=>if (b.length:Int)>0 then some ([],13) else
  if (rd_T31 p.1 p.2).f3.f0=0∧(rd_T31 p.1 p.2).f3.f1=0∧(rd_T31 p.1 p.2).f3.f2=0 then some (p.1.take p.2.toNat++p.1.drop (p.2.toNat+1),0) else some ([],13)
theorem shape_Delete.mono: ∀a0 a1 a2 k,LeO (shape_Delete.f k a0 a1 a2) (shape_Delete.f (k+1) a0 a1 a2):=by
 intro a0 a1 a2 k
 unfold shape_Delete.f
 repeat' first
  |(with_reducible exact tree_Below.mono _ _ _)
  |(with_reducible exact LeO.refl _)
  |(with_reducible exact LeO.none _)
  |(with_reducible refine LeO.ite ?_ ?_)
  |(with_reducible refine LeO.bind ?_ (fun _=> ?_))
theorem guard_zero {l:List S31} {j ver:Int} (h:guardF l j ver=some 0):0≤j∧j<(l.length:Int):=by
  unfold guardF at h
  split at h
  · cases h
  · split at h
    · omega
    · cases h
set_option maxHeartbeats 8000000 in
set_option maxRecDepth 100000 in
theorem shape_Delete.calls (k:Nat) (A0:Option Addr) (c0:Nat) (l0:List (S31)) (a1:ByteArray) (a2:Int) (r1:List (S31)) (r2:Int) (w:World) (hr0:Kd.C k31 w A0 l0.length l0) (hc0:l0.length≤c0) (h:shape_Delete.f k l0 a1 a2=some (r1,r2)):
    Calls Try.prog 86 #[.slice A0 l0.length c0, .string a1, .int .i64 a2] w fun e w'=> ∃v0_:Value,e= .returned (.tuple #[v0_, .int .i64 r2])∧Kd.R k31 31 w' w.heap.size (fun _=>True) v0_ r1∧Below w.heap.size w w':=by
  have hu168:=Try.underlying168
  have hu166:=Try.underlying166
  have hu31:=Try.underlying31
  have hu27:=Try.underlying27
  unfold shape_Delete.f at h
  obtain ⟨⟨out,j⟩,hmd,h1⟩:=Option.bind_eq_some_iff.1 h
  clear h
  obtain ⟨e0,hgd,h2⟩:=Option.bind_eq_some_iff.1 h1
  clear h1
  dsimp only at hgd h2
  have hlim:out.length<1256584717458:=by
    unfold shape_made.f slices_Clone_Item.f at hmd
    split at hmd
    · obtain ⟨_, h1, h2⟩ := Option.bind_eq_some_iff.1 hmd
      obtain ⟨_,h3,h4⟩:=Option.bind_eq_some_iff.1 h2
      cases h4
      cases h1
      assumption
    · cases hmd
  have HR:=Aside0.mk hr0
  have HC:=Aside0.mk hc0
  have HM:=Aside0.mk hmd
  have HG:=Aside0.mk hgd
  have HL:=Aside0.mk hlim
  have HB:=am_ (Below.refl w.heap.size w)
  have HH:=Aside0.mk h2
  clear hr0 hc0 hmd hgd h2 hlim
  go_enter Try.func86,Try.ntmps86
  go_wp2_with fail
  refine (shape_made.calls _ _ _ _ _ _ _ (Kd.C_below HR.out HB.out) HC.out HM.out).mono ?_
  rintro e w3 ⟨v0,rfl,ho,hb⟩
  have HO:=am_ (Kd.R_lower ho (below_size HB.out))
  have HLT:=am_ (Kd.R_lt ho)
  have n0_:=am_ (below_step HB.out hb);clear HB;have HB:=n0_;clear n0_
  clear ho hb
  obtain ⟨A5,c5,rfl⟩: ∃A5 c5,v0= .slice A5 out.length c5:=Kd.R_slice HO.out
  go_wp2_with (first|((with_reducible refine gate_dst (N:=8) rfl ?_);refine box_event ?hg (N:=8) ?hd (cs:=#[.slice none 0 0, .int .i64 0]) (t:=168) ?hr ?_;(case hd=>rfl);(case hg=>rfl);(case hr=>first|(go_simp;done)|(go_simp;rfl));intro gb2 hg w4 hbox hb;have n0_:=am_ (Kd.R_below HO.out hb);have n1_:=am_ (below_step HB.out hb);have n2_:=am_ (hbox);have n3_:=am_ ((by rw [hg];exact below_size HB.out:w.heap.size≤gb2));have n4_:=am_ (hg);clear HO;clear HB;have HO:=n0_;have HB:=n1_;have BK2:=n2_;have GE2:=n3_;have EQ2:=n4_;clear n0_ n1_ n2_ n3_ n4_;clear hb hbox hg)|((with_reducible refine gate_store (t:=168) (p:=8) (v:= .tmp 12) rfl ?_);refine store_all BK2.out 168 (.tmp 8) (.tmp 12) rfl rfl rfl (.agg #[.slice A5 out.length c5, .int .i64 j]) [.slice A5 out.length c5, .int .i64 j] rfl rfl rfl (by kernel_rfl) rfl (by intro q hq;simp only [List.mem_cons,List.not_mem_nil,or_false] at hq;rcases hq with rfl|rfl<;>rfl) ?_;intro w5 hbk hg;have n0_:=am_ (R_put HO.out BK2.out (by decide) hg);have n1_:=am_ (below_put HB.out (below_size HB.out) hg GE2.out);have n2_:=am_ (hbk);clear HO;clear HB;clear BK2;have HO:=n0_;have HB:=n1_;have BK2:=n2_;clear n0_ n1_ n2_;clear hbk hg;have cgb2_0:=(blk_cell BK2.out 0).trans rfl;have cgb2_1:=(blk_cell BK2.out 1).trans rfl))
  refine (shapeGuard_calls _ _ _ out j a2 e0 HO.out HG.out).mono ?_
  rintro e w6 ⟨rfl,hb⟩
  clear cgb2_0 cgb2_1
  have n0_:=am_ (Kd.R_below HO.out hb);have n1_:=am_ (blk_below BK2.out hb);have n2_:=am_ (below_step HB.out hb);clear HO;clear BK2;clear HB;have HO:=n0_;have BK2:=n1_;have HB:=n2_;clear n0_ n1_ n2_
  clear hb
  have cgb2_0:=(blk_cell BK2.out 0).trans rfl
  have cgb2_1:=(blk_cell BK2.out 1).trans rfl
  have h2:=HH.out
  clear HH
  by_cases c1:e0=0
  · cases c1
    rw [if_neg (by simp)] at h2
    obtain ⟨hj0,hj1⟩:=guard_zero HG.out
    obtain ⟨bl,hbl,h3⟩:=Option.bind_eq_some_iff.1 h2
    have HBL:=Aside0.mk hbl
    have HH:=Aside0.mk h3
    clear h2 h3 hbl
    go_wp2_with fail
    refine (tree_Below.calls k _ _ _ _ _ _ (Kd.C_below HR.out HB.out) HC.out HBL.out).mono ?_
    rintro e w7 ⟨vb,rfl,hob,hb⟩
    clear cgb2_0 cgb2_1
    have n0_:=am_ (Kd.R_below HO.out hb);have n1_:=am_ (blk_below BK2.out hb);have n2_:=am_ (below_step HB.out hb);clear HO;clear BK2;clear HB;have HO:=n0_;have BK2:=n1_;have HB:=n2_;clear n0_ n1_ n2_
    have cgb2_0:=(blk_cell BK2.out 0).trans rfl
    have cgb2_1:=(blk_cell BK2.out 1).trans rfl
    obtain ⟨Ab,cb,rfl⟩:=Kd.R_slice hob
    clear hb hob
    have h3:=HH.out
    clear HH
    by_cases c2:(bl.length:Int)>0
    · rw [if_pos c2] at h3
      cases h3
      have q2:(0<bl.length)=True:=eq_true (by omega)
      clear c2
      go_wp2_with fail
      go_ret2
      exact ⟨_,rfl,Kd.R_nil _ _ _ _ _,HB.out⟩
    · rw [if_neg c2] at h3
      obtain rfl:bl=[]:=List.length_eq_zero_iff.1 (by omega)
      clear c2
      obtain ⟨gb,cap,hv0,hgb,hgl⟩:=sh_head HO.out (by omega)
      cases hv0
      have hcs:=sh_cells HO.out j hj0 hj1
      have HCS:=Aside0.mk hcs
      have HGL:=Aside0.mk hgl
      have HJ0:=Aside0.mk hj0
      have HJ1:=Aside0.mk hj1
      have HH:=Aside0.mk h3
      clear hcs hgl h3 hgb hj0 hj1
      go_wp2_with fail
      refine (shapeItem_calls _ ⟨gb,0,none⟩ out.length c5 j HJ0.out HJ1.out).mono ?_
      rintro e w8 ⟨rfl,hb⟩
      clear cgb2_0 cgb2_1
      have k5:=(hb.cell (p:=⟨gb,j.toNat*12+5,none⟩) HGL.out).trans (HCS.out 5 _ rfl)
      have k6:=(hb.cell (p:=⟨gb,j.toNat*12+6,none⟩) HGL.out).trans (HCS.out 6 _ rfl)
      have k7:=(hb.cell (p:=⟨gb,j.toNat*12+7,none⟩) HGL.out).trans (HCS.out 7 _ rfl)
      have n0_:=am_ (Kd.R_below HO.out hb);have n1_:=am_ (blk_below BK2.out hb);have n2_:=am_ (below_step HB.out hb);clear HO;clear BK2;clear HB;have HO:=n0_;have BK2:=n1_;have HB:=n2_;clear n0_ n1_ n2_
      have cgb2_0:=(blk_cell BK2.out 0).trans rfl
      have cgb2_1:=(blk_cell BK2.out 1).trans rfl
      have h3:=HH.out
      clear HH hb HCS
      generalize rd_T31 out j=y at k5 k6 k7 h3
      by_cases c3:y.f3.f0=0∧y.f3.f1=0∧y.f3.f2=0
      · rw [if_pos c3] at h3
        cases h3
        obtain ⟨q3,q4,q5⟩:=c3
        rw [q3] at k5
        rw [q4] at k6
        rw [q5] at k7
        go_wp2_with fail
        have ej:((j.toNat:Nat):Int)=j:=Int.toNat_of_nonneg HJ0.out
        have hl:=HL.out
        have hj1:=HJ1.out
        refine calls_of_args (args':=#[.slice (some ⟨gb,0,none⟩) out.length c5, .int .i64 (j.toNat:Int), .int .i64 ((j.toNat:Int)+1)]) (by rw [ej,show wrap64 (j+1)=j+1 from by unfold wrap64;omega]) ((sliDelete_calls _ w.heap.size _ out j.toNat HO.out (by omega)).mono ?_)
        rintro e w9 ⟨v1,rfl,ho,hb⟩
        have HO9:=Aside0.mk ho
        have HB9:=am_ (HB.out.trans hb)
        clear ho hb
        go_wp2_with fail
        go_ret2
        exact ⟨_,rfl,HO9.out,HB9.out⟩
      · rw [if_neg c3] at h3
        cases h3
        by_cases q3:y.f3.f0=0
        · rw [q3] at k5
          by_cases q4:y.f3.f1=0
          · rw [q4] at k6
            have q5: ¬y.f3.f2=0:=fun e=>c3 ⟨q3,q4,e⟩
            have q5b:(y.f3.f2==0)=false:=by simpa using q5
            clear c3
            go_wp2_with fail
            go_ret2
            exact ⟨_,rfl,Kd.R_nil _ _ _ _ _,HB.out⟩
          · have q4b : (y.f3.f1 == 0) = false := by simpa using q4
            clear c3
            go_wp2_with fail
            go_ret2
            exact ⟨_,rfl,Kd.R_nil _ _ _ _ _,HB.out⟩
        · have q3b : (y.f3.f0 == 0) = false := by simpa using q3
          clear c3
          go_wp2_with fail
          go_ret2
          exact ⟨_,rfl,Kd.R_nil _ _ _ _ _,HB.out⟩
  · rw [if_pos c1] at h2
    cases h2
    have q1:(r2==0)=false:=by simpa using c1
    go_wp2_with fail
    go_ret2
    exact ⟨_,rfl,Kd.R_nil _ _ _ _ _,HB.out⟩


def r10_no.f (a0:Int):Option ((List (S31))×Int):=some (([]:List (S31)),a0)
set_option maxHeartbeats 8000000 in
set_option maxRecDepth 100000 in
theorem r10_no.calls (a0:Int) (r1:List (S31)) (r2:Int) (w:World) (h:r10_no.f a0=some (r1,r2)):
  Calls Try.prog 113 #[.int .i64 a0] w fun e w'=> ∃v0_:Value,e= .returned (.agg #[v0_, .int .i64 r2])∧Kd.R k31 31 w' w.heap.size (fun _=>True) v0_ r1∧Below w.heap.size w w':=by
 have hu67:=Try.underlying67
 have HB:=am_ (Below.refl w.heap.size w)
 have H:(some (([]:List (S31)),a0))=some (r1,r2):=h
 clear h
 simp only [Option.some.injEq,Prod.mk.injEq] at H
 obtain ⟨rfl,rfl⟩:=H
 go_enter Try.func113,Try.ntmps113
 go_wp2_with (first|((with_reducible refine gate_dst (N:=2) rfl ?_);refine box_event ?hg (N:=2) ?hd (cs:=#[.slice none 0 0, .int .i64 0]) (t:=67) ?hr ?_;(case hd=>rfl);(case hg=>rfl);(case hr=>first|(go_simp;done)|(go_simp;rfl));intro gb1 hg w2 hbox hb;have n0_:=am_ (below_step (zl0_ HB) hb);have n1_:=am_ (hbox);have n2_:=am_ ((zg0_ HB hg:w.heap.size≤gb1));have n3_:=am_ ((zg0_ HB hg:w.heap.size≤gb1));clear HB;have HB:=n0_;have BK1:=n1_;have GW1:=n2_;have GE1:=n3_;clear n0_ n1_ n2_ n3_;clear hb hbox hg;have hcz3_0:w2.cell? ⟨gb1,0,none⟩=some (.slice none 0 0):=(blk_cell BK1.out 0).trans rfl;have hcz3_1:w2.cell? ⟨gb1,1,none⟩=some (.int .i64 0):=(blk_cell BK1.out 1).trans rfl;have hfz3_0:=blk_frozen BK1.out 0;have hfz3_1:=blk_frozen BK1.out 1))
 refine bodyPost_ret (results_cell_row rfl _ _ gb1 67 #[.slice none 0 0, .int .i64 a0] (0,0) _ rfl (by refine zk_ ?_;refine blk_put (cs:=#[.slice none 0 0, .int .i64 0]) ?_ 1 _ rfl;refine zk_ ?_;refine blk_put (cs:=#[.slice none 0 0, .int .i64 0]) ?_ 0 _ rfl;refine zk_ ?_;exact BK1.out) Try.underlying67 rfl (by kernel_rfl)) rfl ?_
 exact ⟨_,by first|rfl|(simp [errW_none,errW_some]<;>rfl)|(simp [*,errW_none,errW_some]<;>rfl),by first|exact Kd.R_nil _ _ _ _ _|exact Kd.N_nil _ _ _ _ _|exact Kd.V_nil _ _ _ _ _|exact Kd.Q_nil _ _ _ _ _|exact Kd.S_nil _ _ _ _ _,zl1_ HB GE1⟩

def r10_copied.f (l0:List (S31)):Option ((List (S31))):=(some (([]:List (S31)):List (S31))).bind fun y1=>(if y1.length+l0.length<1256584717458 then (some (y1++l0)) else (none))
set_option maxHeartbeats 8000000 in
set_option maxRecDepth 100000 in
theorem r10_copied.calls (A0:Option Addr) (c0:Nat) (l0:List (S31)) (r:List (S31)) (w:World) (hr0:Kd.C k31 w A0 l0.length l0) (hc0:l0.length≤c0) (h:r10_copied.f l0=some r):
  Calls Try.prog 124 #[.slice A0 l0.length c0] w fun e w'=> ∃v0_:Value,e= .returned (v0_)∧Kd.R k31 31 w' w.heap.size (fun _=>True) v0_ r∧Below w.heap.size w w':=by
 have HR0:=Aside0.mk hr0
 have HC0:=Aside0.mk hc0
 clear hr0 hc0
 have HB:=am_ (Below.refl w.heap.size w)
 have H:((some (([]:List (S31)):List (S31))).bind fun y1=>(if y1.length+l0.length<1256584717458 then (some (y1++l0)) else (none)))=some r:=h
 clear h
 obtain ⟨y1,hy1⟩: ∃y_:List (S31),y_=(([]:List (S31))):=⟨_,rfl⟩
 replace H:(if y1.length+l0.length<1256584717458 then (some (y1++l0)) else (none))=some r:=by first|(rw [hy1];with_reducible exact H)|(have H2_:=(Option.bind_some _ _).symm.trans H;rw [hy1];with_reducible exact H2_)|(have H2_:=(Option.bind_some _ _).symm.trans H;with_reducible exact H2_)|with_reducible exact H|(rw [hy1];exact H)|exact H
 have Ny1:=Aside0.mk hy1
 clear hy1
 by_cases c2:y1.length+l0.length<1256584717458
 ·rw [if_pos c2] at H
  have LMc2:=Aside0.mk c2
  clear c2
  obtain ⟨y4,hy4⟩: ∃y_:List (S31),y_=(y1++l0):=⟨_,rfl⟩
  replace H:(some y4)=some r:=by first|(rw [hy4];with_reducible exact H)|(have H2_:=(Option.bind_some _ _).symm.trans H;rw [hy4];with_reducible exact H2_)|(have H2_:=(Option.bind_some _ _).symm.trans H;with_reducible exact H2_)|with_reducible exact H|(rw [hy4];exact H)|exact H
  have Ny4:=Aside0.mk hy4
  clear hy4
  obtain rfl:=Option.some.inj H
  go_enter Try.func124,Try.ntmps124
  go_wp2_with (first|((with_reducible refine gate_dst (N:=3) rfl ?_);refine Kd.R_lit k31 _ 31 ?hg (N:=3) ?hd (xs:=([]:List (S31))) (inner:=[]) (ok:=fun _=>True) (okp:=fun _=>True) ?hr ?hp (fun _ hk=>hk) trivial (Below.refl _ _) (Nat.le_refl _) (by simp) ?_;(case hd=>rfl);(case hg=>rfl);(case hr=>first|(go_simp;done)|(go_simp;rfl));(case hp=>exact (Reps.none _ _));intro v2 w3 ho4 hb hg_ hnew_;clear hg_ hnew_;(first|rw [←Ny1.out] at ho4|(simp only [Int.reduceToNat] at ho4;rw [←Ny1.out] at ho4));have n0_:=am_ (Kd.R_lower ho4 (below_size (zl0_ HB)));have n1_:=am_ (below_step (zl0_ HB) hb);clear HB;have HO3:=n0_;have HB:=n1_;clear n0_ n1_;clear hb ho4)|((with_reducible refine gate_builtin (b:= .append) (xs:=#[.tmp 3, .tmp 4]) rfl ?_);at_builtin;refine Kd.R_append_rows k31 (w0:=w) w.heap.size rfl (.tmp 3) (.tmp 4) 24 31 (.agg #[(.string ⟨#[]⟩),(.string ⟨#[]⟩),(.int .i64 0),(.int .i64 0),(.int .i64 0),(.int .i64 0),(.int .i64 0),(.int .i64 0),(.int .i64 0),(.int .i64 0),(.int .i64 0),(.int .i64 0)]) 112 rfl Try.underlying24 info31 rfl (by decide) (by omega) v2 y1 l0 _ _ _ (fun _=>True) (fun _=>False) rfl rfl ?aO ?aR (fun _ _ h=>h) (fun _ h=>h.elim) ?aF ?aB ?aS ?aL ?_;(case aR=>repeat (first|exact (Kd.C_below HR0.out HB.out)|(with_reducible refine Kd.C_alloc ?_ _)|(with_reducible refine Kd.C_drewN ?_ _)|(with_reducible refine Kd.C_drew ?_)));(case aB=>exact (zl0_ HB));(case aF=>exact (fun _ _=>trivial));(case aO=>exact (zr_ HO3));(case aS=>exact (below_size (zl0_ HB)));(case aL=>have:=LMc2.out;omega);intro v5 w5 ho hb hg hat;rw [←Ny4.out] at ho;have n0_:=am_ (hb);have n1_:=am_ (ho);clear HB;clear HO3;have HB:=n0_;have HO6:=n1_;clear n0_ n1_;clear ho hb hg hat))
  go_ret
  exact ⟨_,by first|rfl|(simp [errW_none,errW_some]<;>rfl)|(simp [*,errW_none,errW_some]<;>rfl),by (with_reducible repeat (first|apply Kd.R_alloc|apply Kd.R_drewN|apply Kd.R_drew));exact HO6.out,zl0_ HB⟩
 ·rw [if_neg c2] at H
  exact absurd H (by simp)

mutual
def r10_Create.j0:Nat→List (S31)→ByteArray→ByteArray→Bool→Int→Int→Int→Option ((List (S31))×Int)
 |0,_,_,_,_,_,_,_=>none
 |k+1,x0,x1,x2,x11,x2000,x2001,x2002=>if x11=true then ((r10_no.f 1).bind fun bt5=>(some (bt5.1,bt5.2))) else ((r10_Find.f k x0 x1).bind fun t9=>(if t9≥0 then ((r10_no.f 3).bind fun bt10=>(some (bt10.1,bt10.2))) else (if x2.toList=([]:List UInt8) then (r10_Create.j1 k x0 x1 x2 false x2000 x2001 x2002) else ((r10_Find.f k x0 x2).bind fun t14=>(r10_Create.j1 k x0 x1 x2 (decide (t14<0)) x2000 x2001 x2002)))))
def r10_Create.j1:Nat→List (S31)→ByteArray→ByteArray→Bool→Int→Int→Int→Option ((List (S31))×Int)
 |0,_,_,_,_,_,_,_=>none
 |k+1,x0,x1,x2,x27,x2000,x2001,x2002=>if x27=true then ((r10_no.f 2).bind fun bt15=>(some (bt15.1,bt15.2))) else (if (x0.length:Int)≥120 then ((r10_no.f 4).bind fun bt19=>(some (bt19.1,bt19.2))) else (r10_Create.l0 k x0 x1 x2 0 x2000 x2001 x2002))
def r10_Create.l0:Nat→List (S31)→ByteArray→ByteArray→Int→Int→Int→Int→Option ((List (S31))×Int)
 |0,_,_,_,_,_,_,_=>none
 |k+1,x0,x1,x2,x9,x2000,x2001,x2002=>if x9<(x0.length:Int) then (if 0≤x9 then (if (Op.bytesLess (((rd_T31 x0 x9).f0).toList) x1.toList)=true then (r10_Create.l0 k x0 x1 x2 (wrap64 (x9+1)) x2000 x2001 x2002) else (if x9≤(x0.length:Int) then ((r10_copied.f (x0.take (x9:Int).toNat)).bind fun t28=>(if t28.length<1256584717458 then ((some (t28++ [(⟨x1,x2,(⟨x2000,x2001,x2002⟩:S27),(⟨0,0,0⟩:S27),(⟨0,0,0⟩:S27),1⟩:S31)]:List (S31))).bind fun y31=>((some (x0.drop (x9:Int).toNat:List (S31))).bind fun y34=>(if y31.length+y34.length<1256584717458 then (some ((y31++y34),0)) else (none)))) else (none))) else (none))) else (none)) else (if 0≤x9 then (if x9≤(x0.length:Int) then ((r10_copied.f (x0.take (x9:Int).toNat)).bind fun t45=>(if t45.length<1256584717458 then ((some (t45++ [(⟨x1,x2,(⟨x2000,x2001,x2002⟩:S27),(⟨0,0,0⟩:S27),(⟨0,0,0⟩:S27),1⟩:S31)]:List (S31))).bind fun y48=>((some (x0.drop (x9:Int).toNat:List (S31))).bind fun y51=>(if y48.length+y51.length<1256584717458 then (some ((y48++y51),0)) else (none)))) else (none))) else (none)) else (none))
end
def r10_Create.f (k:Nat) (l0:List (S31)) (a1:ByteArray) (a2:ByteArray) (a3_0:Int) (a3_1:Int) (a3_2:Int):Option ((List (S31))×Int):=(r10_MayName.f a1).bind fun t3=>(if t3=true then ((r10_MayVec.f a3_0 a3_1 a3_2).bind fun t4=>(r10_Create.j0 k l0 a1 a2 (!t4) a3_0 a3_1 a3_2)) else (r10_Create.j0 k l0 a1 a2 true a3_0 a3_1 a3_2))
theorem r10_Create.mono_l: ∀k,(∀y0 y1 y2 y3 y4 y5 y6,LeO (r10_Create.j0 k y0 y1 y2 y3 y4 y5 y6) (r10_Create.j0 (k+1) y0 y1 y2 y3 y4 y5 y6))∧(∀y0 y1 y2 y3 y4 y5 y6,LeO (r10_Create.j1 k y0 y1 y2 y3 y4 y5 y6) (r10_Create.j1 (k+1) y0 y1 y2 y3 y4 y5 y6))∧(∀y0 y1 y2 y3 y4 y5 y6,LeO (r10_Create.l0 k y0 y1 y2 y3 y4 y5 y6) (r10_Create.l0 (k+1) y0 y1 y2 y3 y4 y5 y6))
 |0=>⟨fun _ _ _ _ _ _ _ r h=>by simp [r10_Create.j0] at h,fun _ _ _ _ _ _ _ r h=>by simp [r10_Create.j1] at h,fun _ _ _ _ _ _ _ r h=>by simp [r10_Create.l0] at h⟩
 |k+1=>by
  obtain ⟨ih0,ih1,ih2⟩:=r10_Create.mono_l k
  refine ⟨?_, ?_, ?_⟩
  ·intro y0 y1 y2 y3 y4 y5 y6
   unfold r10_Create.j0
   repeat' first
   |(with_reducible exact ih0 _ _ _ _ _ _ _)
   |(with_reducible exact ih1 _ _ _ _ _ _ _)
   |(with_reducible exact ih2 _ _ _ _ _ _ _)
   |(with_reducible exact r10_Find.mono _ _ _)
   |(with_reducible exact LeO.refl _)
   |(with_reducible exact LeO.none _)
   |(with_reducible refine LeO.ite ?_ ?_)
   |(with_reducible refine LeO.bind ?_ (fun _=> ?_))
   |exact ih0 _ _ _ _ _ _ _
   |exact ih1 _ _ _ _ _ _ _
   |exact ih2 _ _ _ _ _ _ _
   |exact r10_Find.mono _ _ _
   |exact LeO.none _
   |refine LeO.ite ?_ ?_
   |refine LeO.bind ?_ (fun _=> ?_)
  ·intro y0 y1 y2 y3 y4 y5 y6
   unfold r10_Create.j1
   repeat' first
   |(with_reducible exact ih0 _ _ _ _ _ _ _)
   |(with_reducible exact ih1 _ _ _ _ _ _ _)
   |(with_reducible exact ih2 _ _ _ _ _ _ _)
   |(with_reducible exact r10_Find.mono _ _ _)
   |(with_reducible exact LeO.refl _)
   |(with_reducible exact LeO.none _)
   |(with_reducible refine LeO.ite ?_ ?_)
   |(with_reducible refine LeO.bind ?_ (fun _=> ?_))
   |exact ih0 _ _ _ _ _ _ _
   |exact ih1 _ _ _ _ _ _ _
   |exact ih2 _ _ _ _ _ _ _
   |exact r10_Find.mono _ _ _
   |exact LeO.none _
   |refine LeO.ite ?_ ?_
   |refine LeO.bind ?_ (fun _=> ?_)
  ·intro y0 y1 y2 y3 y4 y5 y6
   unfold r10_Create.l0
   repeat' first
   |(with_reducible exact ih0 _ _ _ _ _ _ _)
   |(with_reducible exact ih1 _ _ _ _ _ _ _)
   |(with_reducible exact ih2 _ _ _ _ _ _ _)
   |(with_reducible exact r10_Find.mono _ _ _)
   |(with_reducible exact LeO.refl _)
   |(with_reducible exact LeO.none _)
   |(with_reducible refine LeO.ite ?_ ?_)
   |(with_reducible refine LeO.bind ?_ (fun _=> ?_))
   |exact ih0 _ _ _ _ _ _ _
   |exact ih1 _ _ _ _ _ _ _
   |exact ih2 _ _ _ _ _ _ _
   |exact r10_Find.mono _ _ _
   |exact LeO.none _
   |refine LeO.ite ?_ ?_
   |refine LeO.bind ?_ (fun _=> ?_)
theorem r10_Create.mono: ∀a0 a1 a2 a3 a4 a5 k,LeO (r10_Create.f k a0 a1 a2 a3 a4 a5) (r10_Create.f (k+1) a0 a1 a2 a3 a4 a5):=by
 intro a0 a1 a2 a3 a4 a5 k
 obtain ⟨ih0,ih1,ih2⟩:=r10_Create.mono_l k
 unfold r10_Create.f
 repeat' first
  |(with_reducible exact ih0 _ _ _ _ _ _ _)
  |(with_reducible exact ih1 _ _ _ _ _ _ _)
  |(with_reducible exact ih2 _ _ _ _ _ _ _)
  |(with_reducible exact r10_Find.mono _ _ _)
  |(with_reducible exact LeO.refl _)
  |(with_reducible exact LeO.none _)
  |(with_reducible refine LeO.ite ?_ ?_)
  |(with_reducible refine LeO.bind ?_ (fun _=> ?_))
  |exact ih0 _ _ _ _ _ _ _
  |exact ih1 _ _ _ _ _ _ _
  |exact ih2 _ _ _ _ _ _ _
  |exact r10_Find.mono _ _ _
  |exact LeO.none _
  |refine LeO.ite ?_ ?_
  |refine LeO.bind ?_ (fun _=> ?_)
set_option maxHeartbeats 8000000 in
set_option maxRecDepth 100000 in
theorem r10_Create.calls (k:Nat) (A0:Option Addr) (c0:Nat) (l0:List (S31)) (a1:ByteArray) (a2:ByteArray) (a3_0:Int) (a3_1:Int) (a3_2:Int) (r1:List (S31)) (r2:Int) (w:World) (hr0:Kd.C k31 w A0 l0.length l0) (hc0:l0.length≤c0) (h:r10_Create.f k l0 a1 a2 a3_0 a3_1 a3_2=some (r1,r2)):
  Calls Try.prog 83 #[.slice A0 l0.length c0, .string a1, .string a2, .agg #[.int .i64 a3_0, .int .i64 a3_1, .int .i64 a3_2]] w fun e w'=> ∃v0_:Value,e= .returned (.agg #[v0_, .int .i64 r2])∧Kd.R k31 31 w' w.heap.size (fun _=>True) v0_ r1∧Below w.heap.size w w':=by
 have hu27:=Try.underlying27
 have hu67:=Try.underlying67
 have hu31:=Try.underlying31
 have HR0:=Aside0.mk hr0
 have HC0:=Aside0.mk hc0
 clear hr0 hc0
 have HB:=am_ (Below.refl w.heap.size w)
 have H:((r10_MayName.f a1).bind fun t3=>(if t3=true then ((r10_MayVec.f a3_0 a3_1 a3_2).bind fun t4=>(r10_Create.j0 k l0 a1 a2 (!t4) a3_0 a3_1 a3_2)) else (r10_Create.j0 k l0 a1 a2 true a3_0 a3_1 a3_2)))=some (r1,r2):=h
 clear h
 have HC5:=Aside0.mk H
 clear H
 go_enter Try.func83,Try.ntmps83
 go_upto_region 1 with (first|((with_reducible refine gate_dst (N:=7) rfl ?_);refine box_event ?hg (N:=7) ?hd (cs:=#[.int .i64 a3_0, .int .i64 a3_1, .int .i64 a3_2]) (t:=27) ?hr ?_;(case hd=>rfl);(case hg=>rfl);(case hr=>first|(go_simp;done)|(go_simp;rfl));intro gb1 hg w6 hbox hb;have n0_:=am_ (below_step (zl0_ HB) hb);have n1_:=am_ (hbox);have n2_:=am_ ((zg0_ HB hg:w.heap.size≤gb1));have n3_:=am_ ((zg0_ HB hg:w.heap.size≤gb1));clear HB;have HB:=n0_;have BK1:=n1_;have GW1:=n2_;have GE1:=n3_;clear n0_ n1_ n2_ n3_;clear hb hbox hg)|((with_reducible refine gate_dst (N:=8) rfl ?_);refine box_event ?hg (N:=8) ?hd (cs:=#[.slice none 0 0, .int .i64 0]) (t:=67) ?hr ?_;(case hd=>rfl);(case hg=>rfl);(case hr=>first|(go_simp;done)|(go_simp;rfl));intro gb2 hg w7 hbox hb;have n0_:=am_ (blk_below (zb_ BK1) hb);have n1_:=am_ (below_step (zl1_ HB GE1) hb);have n2_:=am_ (hbox);have n3_:=am_ ((zg1_ HB GE1 hg:w.heap.size≤gb2));have n4_:=am_ ((zg1_ HB GE1 hg:w.heap.size≤gb2));have n5_:=am_ ((zn_ BK1 hg:gb1≠gb2));have n6_:=am_ ((zm_ BK1 hg:gb2≠gb1));clear BK1;clear HB;have BK1:=n0_;have HB:=n1_;have BK2:=n2_;have GW2:=n3_;have GE2:=n4_;have NB1_2:=n5_;have NB2_1:=n6_;clear n0_ n1_ n2_ n3_ n4_ n5_ n6_;clear hb hbox hg))
 (try simp only [Act.put,List.setIfInBounds_toArray,List.set_cons_zero,List.set_cons_succ])
 go_cut [11] (fun v11 wc=> ∃(kq:Nat) (x11_4:Bool),v11= .bool x11_4∧Aside0 (r10_Create.j0 kq l0 a1 a2 x11_4 a3_0 a3_1 a3_2=some (r1,r2))∧Aside0 (kq≤k)∧Aside0 (wc.heap[gb1]?=some (.cells #[.int .i64 a3_0, .int .i64 a3_1, .int .i64 a3_2] 27 (0,0)))∧Aside0 (wc.heap[gb2]?=some (.cells #[(.slice none 0 0), .int .i64 0] 67 (0,0)))∧Aside0 (Below w.heap.size w wc))
 case first=>
  have H:=HC5.out
  clear HC5
  replace H:=Option.bind_eq_some_iff.mp H
  obtain ⟨t3,A80,H⟩:=H
  replace H:(if t3=true then ((r10_MayVec.f a3_0 a3_1 a3_2).bind fun t4=>(r10_Create.j0 k l0 a1 a2 (!t4) a3_0 a3_1 a3_2)) else (r10_Create.j0 k l0 a1 a2 true a3_0 a3_1 a3_2))=some (r1,r2):=H
  have A8:=Aside0.mk A80
  clear A80
  by_cases c9:t3=true
  ·subst c9
   have H1:((r10_MayVec.f a3_0 a3_1 a3_2).bind fun t4=>(r10_Create.j0 k l0 a1 a2 (!t4) a3_0 a3_1 a3_2))=some (r1,r2):=by rw [if_pos rfl] at H;exact H
   clear H
   have H:=H1
   clear H1
   replace H:=Option.bind_eq_some_iff.mp H
   obtain ⟨t4,A100,H⟩:=H
   replace H:(r10_Create.j0 k l0 a1 a2 (!t4) a3_0 a3_1 a3_2)=some (r1,r2):=H
   have A10:=Aside0.mk A100
   clear A100
   have H':=Aside0.mk H
   clear H
   go_wp2_with (first|((with_reducible refine gate_callee (f:=105) rfl ?_);refine goesL_ (some 13) rfl rfl Try.func105 (by kernel_rfl) rfl #[.string a1] rfl zs_ ?_;(with_reducible refine (r10_MayName.calls a1 true _ A8.out).mono ?_);rintro e w' ⟨rfl,⟨nd,rfl⟩⟩;refine ⟨_,rfl, ?_⟩;have hnb11:=NB1_2.out;have hnc11:=NB2_1.out;have hcz12_0:w7.cell? ⟨gb1,0,none⟩=some (.int .i64 a3_0):=(blk_cell BK1.out 0).trans rfl;have hcz12_1:w7.cell? ⟨gb1,1,none⟩=some (.int .i64 a3_1):=(blk_cell BK1.out 1).trans rfl;have hcz12_2:w7.cell? ⟨gb1,2,none⟩=some (.int .i64 a3_2):=(blk_cell BK1.out 2).trans rfl;have hfz12_0:=blk_frozen BK1.out 0;have hfz12_1:=blk_frozen BK1.out 1;have hfz12_2:=blk_frozen BK1.out 2)|(go_at_call 65;(with_reducible refine (r10_MayVec.calls a3_0 a3_1 a3_2 t4 _ A10.out).mono ?_);rintro e w13 ⟨rfl,hb⟩;have n0_:=am_ (blk_below (zb_ BK1) hb);have n1_:=am_ (blk_below (zb_ BK2) hb);have n2_:=am_ (below_step (zl2_ HB GE1 GE2) hb);clear BK1;clear BK2;clear HB;have BK1:=n0_;have BK2:=n1_;have HB:=n2_;clear n0_ n1_ n2_;(try clear hb);(try clear hb2);(try clear hk);(try clear hi)))
   go_meet
   case rel=>exact ⟨_,(!t4),(by first|rfl|(simp;done)|(simp [*];done)),H',⟨by first|omega|exact Nat.le_refl _⟩,⟨by refine zk_ ?_;exact BK1.out⟩,⟨by refine zk_ ?_;exact BK2.out⟩,⟨zl2_ HB GE1 GE2⟩⟩
  ·replace c9:=Bool.eq_false_iff.mpr c9
   subst c9
   have H1:(r10_Create.j0 k l0 a1 a2 true a3_0 a3_1 a3_2)=some (r1,r2):=by rw [if_neg (show¬(false=true) by decide)] at H;exact H
   clear H
   have H:=H1
   clear H1
   have H':=Aside0.mk H
   clear H
   go_wp2_with ((with_reducible refine gate_callee (f:=105) rfl ?_);refine goesL_ (some 13) rfl rfl Try.func105 (by kernel_rfl) rfl #[.string a1] rfl zs_ ?_;(with_reducible refine (r10_MayName.calls a1 false _ A8.out).mono ?_);rintro e w' ⟨rfl,⟨nd,rfl⟩⟩;refine ⟨_,rfl, ?_⟩)
   go_meet
   case rel=>exact ⟨_,(true),(by first|rfl|(simp;done)|(simp [*];done)),H',⟨by first|omega|exact Nat.le_refl _⟩,⟨by refine zk_ ?_;exact BK1.out⟩,⟨by refine zk_ ?_;exact BK2.out⟩,⟨zl2_ HB GE1 GE2⟩⟩
 case rest=>
  clear HC5
  try clear c1
  try clear p2
  try clear c8
  try clear c9
  try clear c10
  try clear c11
  try clear hcz12_0
  try clear hcz12_1
  try clear hcz12_2
  try clear hfz12_0
  try clear hfz12_1
  try clear hfz12_2
  obtain ⟨kq,x11_4,rfl,HA,HJ4,BK1,BK2,HB⟩:=hcut
  cases kq with
  |zero=>exact absurd HA.out (by simp [r10_Create.j0])
  |succ kj4=>
   have H:=HA.out
   clear HA
   simp only [r10_Create.j0] at H
   by_cases c14:x11_4=true
   ·subst c14
    have H1:((r10_no.f 1).bind fun bt5=>(some (bt5.1,bt5.2)))=some (r1,r2):=by rw [if_pos rfl] at H;exact H
    clear H
    have H:=H1
    clear H1
    replace H:=Option.bind_eq_some_iff.mp H
    obtain ⟨⟨t5,t8⟩,A150,H⟩:=H
    replace H:(some (t5,t8))=some (r1,r2):=H
    have A15:=Aside0.mk A150
    clear A150
    simp only [Option.some.injEq,Prod.mk.injEq] at H
    obtain ⟨rfl,rfl⟩:=H
    go_wp2_with ((with_reducible refine gate_callee (f:=113) rfl ?_);refine goesL_ (some 20) rfl rfl Try.func113 (by kernel_rfl) rfl #[.int .i64 1] rfl zs_ ?_;(with_reducible refine (r10_no.calls 1 t5 t8 _ A15.out).mono ?_);rintro e w16 ⟨v6,rfl,ho0,hb⟩;refine ⟨_,rfl, ?_⟩;have n0_:=am_ (Kd.R_lower ho0 (below_size (zl2_ HB GE1 GE2)));have n1_:=am_ (blk_below (zb_ BK1) hb);have n2_:=am_ (blk_below (zb_ BK2) hb);have n3_:=am_ (below_step (zl2_ HB GE1 GE2) hb);clear BK1;clear BK2;clear HB;have HO7:=n0_;have BK1:=n1_;have BK2:=n2_;have HB:=n3_;clear n0_ n1_ n2_ n3_;(try clear hb);(try clear hb2);(try clear hk);(try clear hi);(try clear ho0);obtain ⟨Ao17,co17,eo17⟩:=Kd.R_slice HO7.out;subst eo17;have hnb18:=NB2_1.out;have hnc18:=NB1_2.out;have hcz19_0:w16.cell? ⟨gb2,0,none⟩=some (.slice none 0 0):=(blk_cell BK2.out 0).trans rfl;have hcz19_1:w16.cell? ⟨gb2,1,none⟩=some (.int .i64 0):=(blk_cell BK2.out 1).trans rfl;have hfz19_0:=blk_frozen BK2.out 0;have hfz19_1:=blk_frozen BK2.out 1)
    refine bodyPost_ret (results_cell_row rfl _ _ gb2 67 #[.slice Ao17 t5.length co17, .int .i64 t8] (0,0) _ rfl (by refine zk_ ?_;refine blk_put (cs:=#[.slice Ao17 t5.length co17, .int .i64 0]) ?_ 1 _ rfl;refine zk_ ?_;refine blk_put (cs:=#[.slice none 0 0, .int .i64 0]) ?_ 0 _ rfl;refine zk_ ?_;exact BK2.out) Try.underlying67 rfl (by kernel_rfl)) rfl ?_
    exact ⟨_,by first|rfl|(simp [errW_none,errW_some]<;>rfl)|(simp [*,errW_none,errW_some]<;>rfl),by (with_reducible repeat (first|apply Kd.R_alloc|apply Kd.R_drewN|apply Kd.R_drew));exact Kd.R_mono (Kd.R_far (p:=⟨gb2,1,none⟩) (Kd.R_far (p:=⟨gb2,0,none⟩) (Kd.R_types HO7.out BK2.out (by decide)) (fun _ hk=>hk.2) (.slice Ao17 t5.length co17)) (fun _ hk=>hk.2) (.int .i64 t8)) (fun _ hk=>trivial),zl2_ HB GE1 GE2⟩
   ·replace c14:=Bool.eq_false_iff.mpr c14
    subst c14
    have H1:((r10_Find.f kj4 l0 a1).bind fun t9=>(if t9≥0 then ((r10_no.f 3).bind fun bt10=>(some (bt10.1,bt10.2))) else (if a2.toList=([]:List UInt8) then (r10_Create.j1 kj4 l0 a1 a2 false a3_0 a3_1 a3_2) else ((r10_Find.f kj4 l0 a2).bind fun t14=>(r10_Create.j1 kj4 l0 a1 a2 (decide (t14<0)) a3_0 a3_1 a3_2)))))=some (r1,r2):=by rw [if_neg (show¬(false=true) by decide)] at H;exact H
    clear H
    have H:=H1
    clear H1
    replace H:=Option.bind_eq_some_iff.mp H
    obtain ⟨t9,A200,H⟩:=H
    replace H:(if t9≥0 then ((r10_no.f 3).bind fun bt10=>(some (bt10.1,bt10.2))) else (if a2.toList=([]:List UInt8) then (r10_Create.j1 kj4 l0 a1 a2 false a3_0 a3_1 a3_2) else ((r10_Find.f kj4 l0 a2).bind fun t14=>(r10_Create.j1 kj4 l0 a1 a2 (decide (t14<0)) a3_0 a3_1 a3_2))))=some (r1,r2):=H
    have A20:=Aside0.mk A200
    clear A200
    by_cases c21:t9≥0
    ·rw [if_pos c21] at H
     have c21b0:decide (0≤t9)=true:=decide_eq_true c21
     clear c21
     replace H:=Option.bind_eq_some_iff.mp H
     obtain ⟨⟨t10,t13⟩,A220,H⟩:=H
     replace H:(some (t10,t13))=some (r1,r2):=H
     have A22:=Aside0.mk A220
     clear A220
     simp only [Option.some.injEq,Prod.mk.injEq] at H
     obtain ⟨rfl,rfl⟩:=H
     go_wp2_with (first|((with_reducible refine gate_callee (f:=50) rfl ?_);refine goesL_ (some 24) rfl rfl Try.func50 (by kernel_rfl) rfl #[.slice A0 l0.length c0, .string a1] rfl zs_ ?_;(with_reducible refine (r10_Find.calls kj4 _ _ l0 a1 t9 _ ?side1 ?side2 A20.out).mono ?_);(case side1=>exact zc_ (Kd.C_below HR0.out HB.out));(case side2=>exact HC0.out);rintro e w' ⟨rfl,⟨nd,rfl⟩⟩;refine ⟨_,rfl, ?_⟩;(try (rw [drewN_self wc];generalize hq_:World.drewN wc _=wc;have n0_:Aside0 (wc.heap[gb1]?=some (.cells #[.int .i64 a3_0, .int .i64 a3_1, .int .i64 a3_2] 27 (0,0))):=⟨by rw [←hq_];exact (zb_ BK1)⟩;have n1_:Aside0 (wc.heap[gb2]?=some (.cells #[.slice none 0 0, .int .i64 0] 67 (0,0))):=⟨by rw [←hq_];exact (zb_ BK2)⟩;have n2_:Aside0 (Below w.heap.size w wc):=⟨by rw [←hq_];exact (zl2_ HB GE1 GE2)⟩;clear BK1 BK2 HB hq_;have BK1:=n0_;have BK2:=n1_;have HB:=n2_;clear n0_ n1_ n2_)))|((with_reducible refine gate_callee (f:=113) rfl ?_);refine goesL_ (some 26) rfl rfl Try.func113 (by kernel_rfl) rfl #[.int .i64 3] rfl zs_ ?_;(with_reducible refine (r10_no.calls 3 t10 t13 _ A22.out).mono ?_);rintro e w23 ⟨v11,rfl,ho0,hb⟩;refine ⟨_,rfl, ?_⟩;have n0_:=am_ (Kd.R_lower ho0 (below_size (zl2_ HB GE1 GE2)));have n1_:=am_ (blk_below (zb_ BK1) hb);have n2_:=am_ (blk_below (zb_ BK2) hb);have n3_:=am_ (below_step (zl2_ HB GE1 GE2) hb);clear BK1;clear BK2;clear HB;have HO12:=n0_;have BK1:=n1_;have BK2:=n2_;have HB:=n3_;clear n0_ n1_ n2_ n3_;(try clear hb);(try clear hb2);(try clear hk);(try clear hi);(try clear ho0);obtain ⟨Ao24,co24,eo24⟩:=Kd.R_slice HO12.out;subst eo24;have hnb25:=NB2_1.out;have hnc25:=NB1_2.out;have hcz26_0:w23.cell? ⟨gb2,0,none⟩=some (.slice none 0 0):=(blk_cell BK2.out 0).trans rfl;have hcz26_1:w23.cell? ⟨gb2,1,none⟩=some (.int .i64 0):=(blk_cell BK2.out 1).trans rfl;have hfz26_0:=blk_frozen BK2.out 0;have hfz26_1:=blk_frozen BK2.out 1))
     refine bodyPost_ret (results_cell_row rfl _ _ gb2 67 #[.slice Ao24 t10.length co24, .int .i64 t13] (0,0) _ rfl (by refine zk_ ?_;refine blk_put (cs:=#[.slice Ao24 t10.length co24, .int .i64 0]) ?_ 1 _ rfl;refine zk_ ?_;refine blk_put (cs:=#[.slice none 0 0, .int .i64 0]) ?_ 0 _ rfl;refine zk_ ?_;exact BK2.out) Try.underlying67 rfl (by kernel_rfl)) rfl ?_
     exact ⟨_,by first|rfl|(simp [errW_none,errW_some]<;>rfl)|(simp [*,errW_none,errW_some]<;>rfl),by (with_reducible repeat (first|apply Kd.R_alloc|apply Kd.R_drewN|apply Kd.R_drew));exact Kd.R_mono (Kd.R_far (p:=⟨gb2,1,none⟩) (Kd.R_far (p:=⟨gb2,0,none⟩) (Kd.R_types HO12.out BK2.out (by decide)) (fun _ hk=>hk.2) (.slice Ao24 t10.length co24)) (fun _ hk=>hk.2) (.int .i64 t13)) (fun _ hk=>trivial),zl2_ HB GE1 GE2⟩
    ·rw [if_neg c21] at H
     have c21b0:decide (0≤t9)=false:=decide_eq_false c21
     clear c21
     have HC27:=Aside0.mk H
     clear H
     go_upto_region 5 with (first|((with_reducible refine gate_callee (f:=50) rfl ?_);refine goesL_ (some 24) rfl rfl Try.func50 (by kernel_rfl) rfl #[.slice A0 l0.length c0, .string a1] rfl zs_ ?_;(with_reducible refine (r10_Find.calls kj4 _ _ l0 a1 t9 _ ?side1 ?side2 A20.out).mono ?_);(case side1=>exact zc_ (Kd.C_below HR0.out HB.out));(case side2=>exact HC0.out);rintro e w' ⟨rfl,⟨nd,rfl⟩⟩;refine ⟨_,rfl, ?_⟩))
     (try simp only [Act.put,List.setIfInBounds_toArray,List.set_cons_zero,List.set_cons_succ])
     go_cut [27] (fun v27 wc=> ∃(kq:Nat) (x27_26:Bool),v27= .bool x27_26∧Aside0 (r10_Create.j1 kq l0 a1 a2 x27_26 a3_0 a3_1 a3_2=some (r1,r2))∧Aside0 (kq≤kj4)∧Aside0 (wc.heap[gb1]?=some (.cells #[.int .i64 a3_0, .int .i64 a3_1, .int .i64 a3_2] 27 (0,0)))∧Aside0 (wc.heap[gb2]?=some (.cells #[(.slice none 0 0), .int .i64 0] 67 (0,0)))∧Aside0 (Below w.heap.size w wc))
     case first=>
      have H:=HC27.out
      clear HC27
      by_cases c28:a2.toList=([]:List UInt8)
      ·rw [if_pos c28] at H
       have c28b0:(a2.toList==([]:List UInt8))=true:=beq_iff_eq.mpr c28
       have c28b1:(a2.toList !=([]:List UInt8))=false:=bne_eq_false_iff_eq.mpr c28
       clear c28
       (first|rw [c28b0]|(simp only [i64_w,i32_w];rw [c28b0])|skip)
       have H':=Aside0.mk H
       clear H
       go_wp2
       go_meet
       case rel=>exact ⟨_,(false),(by first|rfl|(simp;done)|(simp [*];done)),H',⟨by have:=HJ4.out;first|omega|exact Nat.le_refl _⟩,⟨by refine zk_ ?_;exact BK1.out⟩,⟨by refine zk_ ?_;exact BK2.out⟩,⟨zl2_ HB GE1 GE2⟩⟩
      ·rw [if_neg c28] at H
       have c28b0:(a2.toList==([]:List UInt8))=false:=beq_eq_false_iff_ne.mpr c28
       have c28b1:(a2.toList !=([]:List UInt8))=true:=bne_iff_ne.mpr c28
       (first|rw [c28b0]|(simp only [i64_w,i32_w];rw [c28b0])|skip)
       replace H:=Option.bind_eq_some_iff.mp H
       obtain ⟨t14,A290,H⟩:=H
       replace H:(r10_Create.j1 kj4 l0 a1 a2 (decide (t14<0)) a3_0 a3_1 a3_2)=some (r1,r2):=H
       have A29:=Aside0.mk A290
       clear A290
       have H':=Aside0.mk H
       clear H
       go_wp2_with (go_at_call 50;(with_reducible refine (r10_Find.calls kj4 _ _ l0 a2 t14 _ ?side1 ?side2 A29.out).mono ?_);(case side1=>exact zc_ (Kd.C_below HR0.out HB.out));(case side2=>exact HC0.out);rintro e w' ⟨rfl,⟨nd,rfl⟩⟩)
       go_meet
       case rel=>exact ⟨_,(decide (t14<0)),(by first|rfl|(simp;done)|(simp [*];done)),H',⟨by have:=HJ4.out;first|omega|exact Nat.le_refl _⟩,⟨by refine zk_ ?_;exact BK1.out⟩,⟨by refine zk_ ?_;exact BK2.out⟩,⟨zl2_ HB GE1 GE2⟩⟩
     case rest=>
      clear HC27
      try clear c1
      try clear c2
      try clear p2
      try clear c5
      try clear c8
      try clear c9
      try clear c10
      try clear c11
      try clear c14
      try clear c18
      try clear c21
      try clear c21b0
      try clear c25
      try clear c28
      try clear c28b0
      try clear c28b1
      try clear hcz12_0
      try clear hcz12_1
      try clear hcz12_2
      try clear hcz19_0
      try clear hcz19_1
      try clear hcz26_0
      try clear hcz26_1
      try clear hfz12_0
      try clear hfz12_1
      try clear hfz12_2
      try clear hfz19_0
      try clear hfz19_1
      try clear hfz26_0
      try clear hfz26_1
      try clear p2
      obtain ⟨kq,x27_26,rfl,HA,HJ26,BK1,BK2,HB⟩:=hcut
      cases kq with
      |zero=>exact absurd HA.out (by simp [r10_Create.j1])
      |succ kj26=>
       have H:=HA.out
       clear HA
       simp only [r10_Create.j1] at H
       by_cases c30:x27_26=true
       ·subst c30
        have H1:((r10_no.f 2).bind fun bt15=>(some (bt15.1,bt15.2)))=some (r1,r2):=by rw [if_pos rfl] at H;exact H
        clear H
        have H:=H1
        clear H1
        replace H:=Option.bind_eq_some_iff.mp H
        obtain ⟨⟨t15,t18⟩,A310,H⟩:=H
        replace H:(some (t15,t18))=some (r1,r2):=H
        have A31:=Aside0.mk A310
        clear A310
        simp only [Option.some.injEq,Prod.mk.injEq] at H
        obtain ⟨rfl,rfl⟩:=H
        go_wp2_with ((with_reducible refine gate_callee (f:=113) rfl ?_);refine goesL_ (some 36) rfl rfl Try.func113 (by kernel_rfl) rfl #[.int .i64 2] rfl zs_ ?_;(with_reducible refine (r10_no.calls 2 t15 t18 _ A31.out).mono ?_);rintro e w32 ⟨v16,rfl,ho0,hb⟩;refine ⟨_,rfl, ?_⟩;have n0_:=am_ (Kd.R_lower ho0 (below_size (zl2_ HB GE1 GE2)));have n1_:=am_ (blk_below (zb_ BK1) hb);have n2_:=am_ (blk_below (zb_ BK2) hb);have n3_:=am_ (below_step (zl2_ HB GE1 GE2) hb);clear BK1;clear BK2;clear HB;have HO17:=n0_;have BK1:=n1_;have BK2:=n2_;have HB:=n3_;clear n0_ n1_ n2_ n3_;(try clear hb);(try clear hb2);(try clear hk);(try clear hi);(try clear ho0);obtain ⟨Ao33,co33,eo33⟩:=Kd.R_slice HO17.out;subst eo33;have hnb34:=NB2_1.out;have hnc34:=NB1_2.out;have hcz35_0:w32.cell? ⟨gb2,0,none⟩=some (.slice none 0 0):=(blk_cell BK2.out 0).trans rfl;have hcz35_1:w32.cell? ⟨gb2,1,none⟩=some (.int .i64 0):=(blk_cell BK2.out 1).trans rfl;have hfz35_0:=blk_frozen BK2.out 0;have hfz35_1:=blk_frozen BK2.out 1)
        refine bodyPost_ret (results_cell_row rfl _ _ gb2 67 #[.slice Ao33 t15.length co33, .int .i64 t18] (0,0) _ rfl (by refine zk_ ?_;refine blk_put (cs:=#[.slice Ao33 t15.length co33, .int .i64 0]) ?_ 1 _ rfl;refine zk_ ?_;refine blk_put (cs:=#[.slice none 0 0, .int .i64 0]) ?_ 0 _ rfl;refine zk_ ?_;exact BK2.out) Try.underlying67 rfl (by kernel_rfl)) rfl ?_
        exact ⟨_,by first|rfl|(simp [errW_none,errW_some]<;>rfl)|(simp [*,errW_none,errW_some]<;>rfl),by (with_reducible repeat (first|apply Kd.R_alloc|apply Kd.R_drewN|apply Kd.R_drew));exact Kd.R_mono (Kd.R_far (p:=⟨gb2,1,none⟩) (Kd.R_far (p:=⟨gb2,0,none⟩) (Kd.R_types HO17.out BK2.out (by decide)) (fun _ hk=>hk.2) (.slice Ao33 t15.length co33)) (fun _ hk=>hk.2) (.int .i64 t18)) (fun _ hk=>trivial),zl2_ HB GE1 GE2⟩
       ·replace c30:=Bool.eq_false_iff.mpr c30
        subst c30
        have H1:(if (l0.length:Int)≥120 then ((r10_no.f 4).bind fun bt19=>(some (bt19.1,bt19.2))) else (r10_Create.l0 kj26 l0 a1 a2 0 a3_0 a3_1 a3_2))=some (r1,r2):=by rw [if_neg (show¬(false=true) by decide)] at H;exact H
        clear H
        have H:=H1
        clear H1
        by_cases c36:(l0.length:Int)≥120
        ·rw [if_pos c36] at H
         have c36b0:decide (120≤(l0.length:Int))=true:=decide_eq_true c36
         have c36b1:decide (120≤l0.length)=true:=decide_eq_true (by omega)
         clear c36
         replace H:=Option.bind_eq_some_iff.mp H
         obtain ⟨⟨t19,t22⟩,A370,H⟩:=H
         replace H:(some (t19,t22))=some (r1,r2):=H
         have A37:=Aside0.mk A370
         clear A370
         simp only [Option.some.injEq,Prod.mk.injEq] at H
         obtain ⟨rfl,rfl⟩:=H
         go_wp2_with ((with_reducible refine gate_callee (f:=113) rfl ?_);refine goesL_ (some 41) rfl rfl Try.func113 (by kernel_rfl) rfl #[.int .i64 4] rfl zs_ ?_;(with_reducible refine (r10_no.calls 4 t19 t22 _ A37.out).mono ?_);rintro e w38 ⟨v20,rfl,ho0,hb⟩;refine ⟨_,rfl, ?_⟩;have n0_:=am_ (Kd.R_lower ho0 (below_size (zl2_ HB GE1 GE2)));have n1_:=am_ (blk_below (zb_ BK1) hb);have n2_:=am_ (blk_below (zb_ BK2) hb);have n3_:=am_ (below_step (zl2_ HB GE1 GE2) hb);clear BK1;clear BK2;clear HB;have HO21:=n0_;have BK1:=n1_;have BK2:=n2_;have HB:=n3_;clear n0_ n1_ n2_ n3_;(try clear hb);(try clear hb2);(try clear hk);(try clear hi);(try clear ho0);obtain ⟨Ao39,co39,eo39⟩:=Kd.R_slice HO21.out;subst eo39;have hnb40:=NB2_1.out;have hnc40:=NB1_2.out;have hcz41_0:w38.cell? ⟨gb2,0,none⟩=some (.slice none 0 0):=(blk_cell BK2.out 0).trans rfl;have hcz41_1:w38.cell? ⟨gb2,1,none⟩=some (.int .i64 0):=(blk_cell BK2.out 1).trans rfl;have hfz41_0:=blk_frozen BK2.out 0;have hfz41_1:=blk_frozen BK2.out 1)
         refine bodyPost_ret (results_cell_row rfl _ _ gb2 67 #[.slice Ao39 t19.length co39, .int .i64 t22] (0,0) _ rfl (by refine zk_ ?_;refine blk_put (cs:=#[.slice Ao39 t19.length co39, .int .i64 0]) ?_ 1 _ rfl;refine zk_ ?_;refine blk_put (cs:=#[.slice none 0 0, .int .i64 0]) ?_ 0 _ rfl;refine zk_ ?_;exact BK2.out) Try.underlying67 rfl (by kernel_rfl)) rfl ?_
         exact ⟨_,by first|rfl|(simp [errW_none,errW_some]<;>rfl)|(simp [*,errW_none,errW_some]<;>rfl),by (with_reducible repeat (first|apply Kd.R_alloc|apply Kd.R_drewN|apply Kd.R_drew));exact Kd.R_mono (Kd.R_far (p:=⟨gb2,1,none⟩) (Kd.R_far (p:=⟨gb2,0,none⟩) (Kd.R_types HO21.out BK2.out (by decide)) (fun _ hk=>hk.2) (.slice Ao39 t19.length co39)) (fun _ hk=>hk.2) (.int .i64 t22)) (fun _ hk=>trivial),zl2_ HB GE1 GE2⟩
        ·rw [if_neg c36] at H
         have c36b0:decide (120≤(l0.length:Int))=false:=decide_eq_false c36
         have c36b1:decide (120≤l0.length)=false:=decide_eq_false (by omega)
         clear c36
         have H':=Aside0.mk H
         clear H
         go_wp2
         go_loopg [9] kj26 (fun kq v9 w'=> ∃(x9_3:Int),v9= .int .i64 x9_3∧Aside0 (r10_Create.l0 kq l0 a1 a2 x9_3 a3_0 a3_1 a3_2=some (r1,r2))∧Aside0 (kq≤kj26)∧Aside0 (w'.heap[gb1]?=some (.cells #[.int .i64 a3_0, .int .i64 a3_1, .int .i64 a3_2] 27 (0,0)))∧Aside0 (w'.heap[gb2]?=some (.cells #[(.slice none 0 0), .int .i64 0] 67 (0,0)))∧Aside0 (Below w.heap.size w w'))
         case atStart=>exact ⟨(0),(by first|rfl|(simp;done)|(simp [*];done)),H',⟨Nat.le_refl _⟩,⟨by refine zk_ ?_;exact BK1.out⟩,⟨by refine zk_ ?_;exact BK2.out⟩,⟨zl2_ HB GE1 GE2⟩⟩
         case round=>
          clear H'
          try clear c1
          try clear c2
          try clear p2
          try clear c3
          try clear c4
          try clear c5
          try clear c8
          try clear c9
          try clear c10
          try clear c11
          try clear c14
          try clear c18
          try clear c21
          try clear c21b0
          try clear c25
          try clear c28
          try clear c28b0
          try clear c28b1
          try clear c30
          try clear c34
          try clear c36
          try clear c36b0
          try clear c36b1
          try clear c40
          try clear hcz12_0
          try clear hcz12_1
          try clear hcz12_2
          try clear hcz19_0
          try clear hcz19_1
          try clear hcz26_0
          try clear hcz26_1
          try clear hcz35_0
          try clear hcz35_1
          try clear hcz41_0
          try clear hcz41_1
          try clear hfz12_0
          try clear hfz12_1
          try clear hfz12_2
          try clear hfz19_0
          try clear hfz19_1
          try clear hfz26_0
          try clear hfz26_1
          try clear hfz35_0
          try clear hfz35_1
          try clear hfz41_0
          try clear hfz41_1
          try clear p2
          obtain ⟨x9_3,rfl,HA,HK3,BK1,BK2,HB⟩:=hrel
          cases gk with
          |zero=>exact absurd HA.out (by simp [r10_Create.l0])
          |succ k3=>
           have H:=HA.out
           clear HA
           simp only [r10_Create.l0] at H
           by_cases c42:x9_3<(l0.length:Int)
           ·rw [if_pos c42] at H
            have c42b0:decide (x9_3<(l0.length:Int))=true:=decide_eq_true c42
            clear c42
            by_cases c43:0≤x9_3
            ·rw [if_pos c43] at H
             have c43b0:decide (0≤x9_3)=true:=decide_eq_true c43
             clear c43
             by_cases c44:(Op.bytesLess (((rd_T31 l0 x9_3).f0).toList) a1.toList)=true
             ·rw [if_pos c44] at H
              have c44b0:(Op.bytesLess (((rd_T31 l0 x9_3).f0).toList) a1.toList)=true:=c44
              clear c44
              have H':=Aside0.mk H
              clear H
              have p23:0≤(x9_3:Int):=of_decide_eq_true zq_
              have q23:x9_3<(l0.length:Int):=of_decide_eq_true zq_
              obtain ⟨ad23,e23,hx23_0,hx23_1,hx23_2,hx23_3,hx23_4,hx23_5,hx23_6,hx23_7,hx23_8,hx23_9,hx23_10,hx23_11⟩:=at_T31 HR0.out x9_3 p23 q23
              cases e23
              replace hx23_0:=zx_ HB hx23_0
              replace hx23_1:=zx_ HB hx23_1
              replace hx23_2:=zx_ HB hx23_2
              replace hx23_3:=zx_ HB hx23_3
              replace hx23_4:=zx_ HB hx23_4
              replace hx23_5:=zx_ HB hx23_5
              replace hx23_6:=zx_ HB hx23_6
              replace hx23_7:=zx_ HB hx23_7
              replace hx23_8:=zx_ HB hx23_8
              replace hx23_9:=zx_ HB hx23_9
              replace hx23_10:=zx_ HB hx23_10
              replace hx23_11:=zx_ HB hx23_11
              replace p23:=eq_true p23
              replace q23:=eq_true q23
              go_wp2
              go_roundg k3
              case measure=>have:=HJ4.out;have:=HJ26.out;have:=HK3.out;omega
              case rel=>exact ⟨(wrap64 (x9_3+1)),(by first|rfl|(simp;done)|(simp [*];done)),H',⟨by have:=HJ4.out;have:=HJ26.out;have:=HK3.out;omega⟩,⟨by refine zk_ ?_;exact BK1.out⟩,⟨by refine zk_ ?_;exact BK2.out⟩,⟨zl2_ HB GE1 GE2⟩⟩
             ·rw [if_neg c44] at H
              have c44b0:(Op.bytesLess (((rd_T31 l0 x9_3).f0).toList) a1.toList)=false:=by simpa using c44
              clear c44
              have c45b0:=eq_true (of_decide_eq_true zq_:0≤x9_3)
              by_cases c46:x9_3≤(l0.length:Int)
              ·rw [if_pos c46] at H
               have c46b0:=eq_true c46
               have c46b1:decide (x9_3≤(l0.length:Int))=true:=decide_eq_true c46
               clear c46
               obtain ⟨y24,hy24⟩: ∃y_:List (S31),y_=(l0.take (x9_3:Int).toNat):=⟨_,rfl⟩
               replace H:((r10_copied.f y24).bind fun t28=>(if t28.length<1256584717458 then ((some (t28++ [(⟨a1,a2,(⟨a3_0,a3_1,a3_2⟩:S27),(⟨0,0,0⟩:S27),(⟨0,0,0⟩:S27),1⟩:S31)]:List (S31))).bind fun y31=>((some (l0.drop (x9_3:Int).toNat:List (S31))).bind fun y34=>(if y31.length+y34.length<1256584717458 then (some ((y31++y34),0)) else (none)))) else (none)))=some (r1,r2):=by first|(rw [hy24];with_reducible exact H)|(have H2_:=(Option.bind_some _ _).symm.trans H;rw [hy24];with_reducible exact H2_)|(have H2_:=(Option.bind_some _ _).symm.trans H;with_reducible exact H2_)|with_reducible exact H|(rw [hy24];exact H)|exact H
               have Ny24:=Aside0.mk hy24
               clear hy24
               replace H:=Option.bind_eq_some_iff.mp H
               obtain ⟨t28,A470,H⟩:=H
               replace H:(if t28.length<1256584717458 then ((some (t28++ [(⟨a1,a2,(⟨a3_0,a3_1,a3_2⟩:S27),(⟨0,0,0⟩:S27),(⟨0,0,0⟩:S27),1⟩:S31)]:List (S31))).bind fun y31=>((some (l0.drop (x9_3:Int).toNat:List (S31))).bind fun y34=>(if y31.length+y34.length<1256584717458 then (some ((y31++y34),0)) else (none)))) else (none))=some (r1,r2):=H
               have A47:=Aside0.mk A470
               clear A470
               by_cases c48:t28.length<1256584717458
               ·rw [if_pos c48] at H
                have LMc48:=Aside0.mk c48
                clear c48
                obtain ⟨y31,hy31⟩: ∃y_:List (S31),y_=(t28++ [(⟨a1,a2,(⟨a3_0,a3_1,a3_2⟩:S27),(⟨0,0,0⟩:S27),(⟨0,0,0⟩:S27),1⟩:S31)]):=⟨_,rfl⟩
                replace H:((some (l0.drop (x9_3:Int).toNat:List (S31))).bind fun y34=>(if y31.length+y34.length<1256584717458 then (some ((y31++y34),0)) else (none)))=some (r1,r2):=by first|(rw [hy31];with_reducible exact H)|(have H2_:=(Option.bind_some _ _).symm.trans H;rw [hy31];with_reducible exact H2_)|(have H2_:=(Option.bind_some _ _).symm.trans H;with_reducible exact H2_)|with_reducible exact H|(rw [hy31];exact H)|exact H
                have Ny31:=Aside0.mk hy31
                clear hy31
                have c49b0:=eq_true (of_decide_eq_true zq_:0≤x9_3)
                have c50b0:=eq_true (of_decide_eq_true zq_:x9_3≤(l0.length:Int))
                obtain ⟨y34,hy34⟩: ∃y_:List (S31),y_=(l0.drop (x9_3:Int).toNat):=⟨_,rfl⟩
                replace H:(if y31.length+y34.length<1256584717458 then (some ((y31++y34),0)) else (none))=some (r1,r2):=by first|(rw [hy34];with_reducible exact H)|(have H2_:=(Option.bind_some _ _).symm.trans H;rw [hy34];with_reducible exact H2_)|(have H2_:=(Option.bind_some _ _).symm.trans H;with_reducible exact H2_)|with_reducible exact H|(rw [hy34];exact H)|exact H
                have Ny34:=Aside0.mk hy34
                clear hy34
                by_cases c51:y31.length+y34.length<1256584717458
                ·rw [if_pos c51] at H
                 have LMc51:=Aside0.mk c51
                 clear c51
                 obtain ⟨y38,hy38⟩: ∃y_:List (S31),y_=(y31++y34):=⟨_,rfl⟩
                 replace H:(some (y38,0))=some (r1,r2):=by first|(rw [hy38];with_reducible exact H)|(have H2_:=(Option.bind_some _ _).symm.trans H;rw [hy38];with_reducible exact H2_)|(have H2_:=(Option.bind_some _ _).symm.trans H;with_reducible exact H2_)|with_reducible exact H|(rw [hy38];exact H)|exact H
                 have Ny38:=Aside0.mk hy38
                 clear hy38
                 simp only [Option.some.injEq,Prod.mk.injEq] at H
                 obtain ⟨rfl,rfl⟩:=H
                 have p23:0≤(x9_3:Int):=of_decide_eq_true zq_
                 have q23:x9_3<(l0.length:Int):=of_decide_eq_true zq_
                 obtain ⟨ad23,e23,hx23_0,hx23_1,hx23_2,hx23_3,hx23_4,hx23_5,hx23_6,hx23_7,hx23_8,hx23_9,hx23_10,hx23_11⟩:=at_T31 HR0.out x9_3 p23 q23
                 cases e23
                 replace hx23_0:=zx_ HB hx23_0
                 replace hx23_1:=zx_ HB hx23_1
                 replace hx23_2:=zx_ HB hx23_2
                 replace hx23_3:=zx_ HB hx23_3
                 replace hx23_4:=zx_ HB hx23_4
                 replace hx23_5:=zx_ HB hx23_5
                 replace hx23_6:=zx_ HB hx23_6
                 replace hx23_7:=zx_ HB hx23_7
                 replace hx23_8:=zx_ HB hx23_8
                 replace hx23_9:=zx_ HB hx23_9
                 replace hx23_10:=zx_ HB hx23_10
                 replace hx23_11:=zx_ HB hx23_11
                 replace p23:=eq_true p23
                 replace q23:=eq_true q23
                 have q52:(x9_3:Int)≤((l0.length:Int):Int):=of_decide_eq_true zq_
                 obtain ⟨i052,hi052,_,hsz52,_⟩:=info_parts info31
                 have hroom52:l0.length≤c0:=HC0.out
                 have hC52:Kd.C k31 _ (some ad23) l0.length l0:=HR0.out
                 have hcut52:=cut_to (P:=Try.prog) 24 31 .i64 Try.underlying24 hi052 (some ad23) l0.length c0 x9_3 (of_decide_eq_true zq_) q52 hroom52
                 have hr52:=Kd.C_take (m:=(x9_3:Int).toNat) hC52 (by omega)
                 have hy52:y24.length=(x9_3:Int).toNat:=(by rw [Ny24.out,List.length_take];omega)
                 rw [←Ny24.out] at hr52
                 rw [←hy52] at hcut52
                 have HR27:=Aside0.mk hr52
                 have HC27:=am_ (show y24.length≤c0 from by omega)
                 clear hr52 hC52 hroom52 hi052 hsz52
                 have KY52:=Aside0.mk hy52
                 clear hy52
                 replace q52:=eq_true q52
                 go_wp2_with (first|((with_reducible refine gate_callee (f:=124) rfl ?_);refine goesL_ (some 60) rfl rfl Try.func124 (by kernel_rfl) rfl #[.slice (some ad23) y24.length c0] rfl zs_ ?_;(with_reducible refine (r10_copied.calls _ _ y24 t28 _ ?side1 ?side2 A47.out).mono ?_);(case side1=>exact zc_ (Kd.C_below HR27.out HB.out));(case side2=>exact HC27.out);rintro e w53 ⟨v29,rfl,ho0,hb⟩;refine ⟨_,rfl, ?_⟩;have n0_:=am_ (Kd.R_lower ho0 (below_size (zl2_ HB GE1 GE2)));have n1_:=am_ (blk_below (zb_ BK1) hb);have n2_:=am_ (blk_below (zb_ BK2) hb);have n3_:=am_ (below_step (zl2_ HB GE1 GE2) hb);clear BK1;clear BK2;clear HB;have HO30:=n0_;have BK1:=n1_;have BK2:=n2_;have HB:=n3_;clear n0_ n1_ n2_ n3_;(try clear hb);(try clear hb2);(try clear hk);(try clear hi);(try clear ho0);have hnb54:=NB1_2.out;have hnc54:=NB2_1.out;have hcz55_0:w53.cell? ⟨gb1,0,none⟩=some (.int .i64 a3_0):=(blk_cell BK1.out 0).trans rfl;have hcz55_1:w53.cell? ⟨gb1,1,none⟩=some (.int .i64 a3_1):=(blk_cell BK1.out 1).trans rfl;have hcz55_2:w53.cell? ⟨gb1,2,none⟩=some (.int .i64 a3_2):=(blk_cell BK1.out 2).trans rfl;have hfz55_0:=blk_frozen BK1.out 0;have hfz55_1:=blk_frozen BK1.out 1;have hfz55_2:=blk_frozen BK1.out 2)|((with_reducible refine gate_builtin (b:= .append) (xs:=#[.tmp 61, .tmp 66]) rfl ?_);at_builtin;refine Kd.R_append k31 (w0:=w) w.heap.size rfl (.tmp 61) (.tmp 66) 24 31 (.agg #[(.string ⟨#[]⟩),(.string ⟨#[]⟩),(.int .i64 0),(.int .i64 0),(.int .i64 0),(.int .i64 0),(.int .i64 0),(.int .i64 0),(.int .i64 0),(.int .i64 0),(.int .i64 0),(.int .i64 0)]) 112 rfl Try.underlying24 info31 rfl (by decide) (by omega) v29 t28 (⟨a1,a2,(⟨a3_0,a3_1,a3_2⟩:S27),(⟨0,0,0⟩:S27),(⟨0,0,0⟩:S27),1⟩:S31) [.string a1, .string a2, .int .i64 a3_0, .int .i64 a3_1, .int .i64 a3_2, .int .i64 0, .int .i64 0, .int .i64 0, .int .i64 0, .int .i64 0, .int .i64 0, .int .i64 1] (fun _=>True) (fun _=>False) rfl rfl ?aP (fun _ hk=>hk.elim) ?aF ?aO ?aB ?aS ?aL ?_;(case aP=>exact k31_mkM _ _ _ (⟨a1,a2,(⟨a3_0,a3_1,a3_2⟩:S27),(⟨0,0,0⟩:S27),(⟨0,0,0⟩:S27),1⟩:S31));(case aB=>exact (zl2_ HB GE1 GE2));(case aF=>exact (fun _ _=>trivial));(case aO=>exact (zr_ HO30));(case aS=>exact (below_size (zl2_ HB GE1 GE2)));(case aL=>have:=LMc48.out;omega);intro v32 w56 ho hb hg hat;rw [←Ny31.out] at ho;have n0_:=am_ (blk_grown (zb_ BK1) hg (Kd.R_ne HO30.out BK1.out (by decide)));have n1_:=am_ (blk_grown (zb_ BK2) hg (Kd.R_ne HO30.out BK2.out (by decide)));have n2_:=am_ (hb);have n3_:=am_ (ho);clear BK1;clear BK2;clear HB;clear HO30;have BK1:=n0_;have BK2:=n1_;have HB:=n2_;have HO33:=n3_;clear n0_ n1_ n2_ n3_;clear ho hb hg hat;have q57:(x9_3:Int)≤((l0.length:Int):Int):=of_decide_eq_true zq_;obtain ⟨i057,hi057,_,hsz57,_⟩:=info_parts info31;have hroom57:l0.length≤c0:=HC0.out;have hC57:Kd.C k31 _ (some ad23) l0.length l0:=HR0.out;have q057:(0:Int)≤(x9_3:Int):=of_decide_eq_true zq_;have hcut57:=cut_from (P:=Try.prog) 24 31 .i64 Try.underlying24 hi057 12 hsz57 (some ad23) l0.length c0 x9_3 q057 q57;have hr57:=Kd.C_drop (m:=(x9_3:Int).toNat) (c:=c0) hC57 (by omega) hroom57;obtain ⟨A57,hA57⟩: ∃A1,A1=(if c0=(x9_3:Int).toNat then (some ad23) else ((some ad23):Option Addr).map (·.add ((x9_3:Int).toNat*12))):=⟨_,rfl⟩;obtain ⟨c57,hc57⟩: ∃c1,c1=c0 - (x9_3:Int).toNat:=⟨_,rfl⟩;have hy57:y34.length=l0.length - (x9_3:Int).toNat:=(by rw [Ny34.out,List.length_drop]<;>omega);rw [show (l0).drop (x9_3:Int).toNat=y34 from Ny34.out.symm] at hr57;replace hr57:Kd.C k31 _ A57 y34.length y34:=(by rw [hA57];exact hr57);rw [←hy57,←hA57,←hc57] at hcut57;have HR37:=Aside0.mk hr57;have HC37:=am_ (show y34.length≤c57 from by rw [hy57,hc57];exact Nat.sub_le_sub_right hroom57 _);clear hr57 hC57 hroom57 hi057 hsz57 hc57;have KY57:=Aside0.mk hy57;have KA57:=Aside0.mk hA57;clear hy57 hA57;replace q57:=eq_true q57)|((with_reducible refine gate_builtin (b:= .append) (xs:=#[.tmp 68, .tmp 71]) rfl ?_);at_builtin;refine Kd.R_append_rows k31 (w0:=w) w.heap.size rfl (.tmp 68) (.tmp 71) 24 31 (.agg #[(.string ⟨#[]⟩),(.string ⟨#[]⟩),(.int .i64 0),(.int .i64 0),(.int .i64 0),(.int .i64 0),(.int .i64 0),(.int .i64 0),(.int .i64 0),(.int .i64 0),(.int .i64 0),(.int .i64 0)]) 112 rfl Try.underlying24 info31 rfl (by decide) (by omega) v32 y31 y34 _ _ _ (fun _=>True) (fun _=>False) rfl rfl ?aO ?aR (fun _ _ h=>h) (fun _ h=>h.elim) ?aF ?aB ?aS ?aL ?_;(case aR=>repeat (first|exact (Kd.C_below HR37.out HB.out)|(with_reducible refine Kd.C_alloc ?_ _)|(with_reducible refine Kd.C_drewN ?_ _)|(with_reducible refine Kd.C_drew ?_)));(case aB=>exact (zl2_ HB GE1 GE2));(case aF=>exact (fun _ _=>trivial));(case aO=>exact (zr_ HO33));(case aS=>exact (below_size (zl2_ HB GE1 GE2)));(case aL=>have:=LMc51.out;omega);intro v39 w58 ho hb hg hat;rw [←Ny38.out] at ho;have n0_:=am_ (blk_grown (zb_ BK1) hg (Kd.R_ne HO33.out BK1.out (by decide)));have n1_:=am_ (blk_grown (zb_ BK2) hg (Kd.R_ne HO33.out BK2.out (by decide)));have n2_:=am_ (hb);have n3_:=am_ (ho);clear BK1;clear BK2;clear HB;clear HO33;have BK1:=n0_;have BK2:=n1_;have HB:=n2_;have HO40:=n3_;clear n0_ n1_ n2_ n3_;clear ho hb hg hat;obtain ⟨Ao59,co59,eo59⟩:=Kd.R_slice HO40.out;subst eo59;have hcz60_0:w58.cell? ⟨gb2,0,none⟩=some (.slice none 0 0):=(blk_cell BK2.out 0).trans rfl;have hcz60_1:w58.cell? ⟨gb2,1,none⟩=some (.int .i64 0):=(blk_cell BK2.out 1).trans rfl;have hfz60_0:=blk_frozen BK2.out 0;have hfz60_1:=blk_frozen BK2.out 1))
                 refine bodyPost_ret (results_cell_row rfl _ _ gb2 67 #[.slice Ao59 y38.length co59, .int .i64 0] (0,0) _ rfl (by refine zk_ ?_;refine blk_put (cs:=#[.slice Ao59 y38.length co59, .int .i64 0]) ?_ 1 _ rfl;refine zk_ ?_;refine blk_put (cs:=#[.slice none 0 0, .int .i64 0]) ?_ 0 _ rfl;refine zk_ ?_;exact BK2.out) Try.underlying67 rfl (by kernel_rfl)) rfl ?_
                 exact ⟨_,by first|rfl|(simp [errW_none,errW_some]<;>rfl)|(simp [*,errW_none,errW_some]<;>rfl),by (with_reducible repeat (first|apply Kd.R_alloc|apply Kd.R_drewN|apply Kd.R_drew));exact Kd.R_mono (Kd.R_far (p:=⟨gb2,1,none⟩) (Kd.R_far (p:=⟨gb2,0,none⟩) (Kd.R_types HO40.out BK2.out (by decide)) (fun _ hk=>hk.2) (.slice Ao59 y38.length co59)) (fun _ hk=>hk.2) (.int .i64 0)) (fun _ hk=>trivial),zl2_ HB GE1 GE2⟩
                ·rw [if_neg c51] at H
                 exact absurd H (by simp)
               ·rw [if_neg c48] at H
                exact absurd H (by simp)
              ·rw [if_neg c46] at H
               exact absurd H (by simp)
            ·rw [if_neg c43] at H
             exact absurd H (by simp)
           ·rw [if_neg c42] at H
            have c42b0:decide (x9_3<(l0.length:Int))=false:=decide_eq_false c42
            clear c42
            by_cases c61:0≤x9_3
            ·rw [if_pos c61] at H
             have c61b0:=eq_true c61
             have c61b1:decide (0≤x9_3)=true:=decide_eq_true c61
             clear c61
             by_cases c62:x9_3≤(l0.length:Int)
             ·rw [if_pos c62] at H
              have c62b0:=eq_true c62
              have c62b1:decide (x9_3≤(l0.length:Int))=true:=decide_eq_true c62
              clear c62
              obtain ⟨y41,hy41⟩: ∃y_:List (S31),y_=(l0.take (x9_3:Int).toNat):=⟨_,rfl⟩
              replace H:((r10_copied.f y41).bind fun t45=>(if t45.length<1256584717458 then ((some (t45++ [(⟨a1,a2,(⟨a3_0,a3_1,a3_2⟩:S27),(⟨0,0,0⟩:S27),(⟨0,0,0⟩:S27),1⟩:S31)]:List (S31))).bind fun y48=>((some (l0.drop (x9_3:Int).toNat:List (S31))).bind fun y51=>(if y48.length+y51.length<1256584717458 then (some ((y48++y51),0)) else (none)))) else (none)))=some (r1,r2):=by first|(rw [hy41];with_reducible exact H)|(have H2_:=(Option.bind_some _ _).symm.trans H;rw [hy41];with_reducible exact H2_)|(have H2_:=(Option.bind_some _ _).symm.trans H;with_reducible exact H2_)|with_reducible exact H|(rw [hy41];exact H)|exact H
              have Ny41:=Aside0.mk hy41
              clear hy41
              replace H:=Option.bind_eq_some_iff.mp H
              obtain ⟨t45,A630,H⟩:=H
              replace H:(if t45.length<1256584717458 then ((some (t45++ [(⟨a1,a2,(⟨a3_0,a3_1,a3_2⟩:S27),(⟨0,0,0⟩:S27),(⟨0,0,0⟩:S27),1⟩:S31)]:List (S31))).bind fun y48=>((some (l0.drop (x9_3:Int).toNat:List (S31))).bind fun y51=>(if y48.length+y51.length<1256584717458 then (some ((y48++y51),0)) else (none)))) else (none))=some (r1,r2):=H
              have A63:=Aside0.mk A630
              clear A630
              by_cases c64:t45.length<1256584717458
              ·rw [if_pos c64] at H
               have LMc64:=Aside0.mk c64
               clear c64
               obtain ⟨y48,hy48⟩: ∃y_:List (S31),y_=(t45++ [(⟨a1,a2,(⟨a3_0,a3_1,a3_2⟩:S27),(⟨0,0,0⟩:S27),(⟨0,0,0⟩:S27),1⟩:S31)]):=⟨_,rfl⟩
               replace H:((some (l0.drop (x9_3:Int).toNat:List (S31))).bind fun y51=>(if y48.length+y51.length<1256584717458 then (some ((y48++y51),0)) else (none)))=some (r1,r2):=by first|(rw [hy48];with_reducible exact H)|(have H2_:=(Option.bind_some _ _).symm.trans H;rw [hy48];with_reducible exact H2_)|(have H2_:=(Option.bind_some _ _).symm.trans H;with_reducible exact H2_)|with_reducible exact H|(rw [hy48];exact H)|exact H
               have Ny48:=Aside0.mk hy48
               clear hy48
               have c65b0:=eq_true (of_decide_eq_true zq_:0≤x9_3)
               have c66b0:=eq_true (of_decide_eq_true zq_:x9_3≤(l0.length:Int))
               obtain ⟨y51,hy51⟩: ∃y_:List (S31),y_=(l0.drop (x9_3:Int).toNat):=⟨_,rfl⟩
               replace H:(if y48.length+y51.length<1256584717458 then (some ((y48++y51),0)) else (none))=some (r1,r2):=by first|(rw [hy51];with_reducible exact H)|(have H2_:=(Option.bind_some _ _).symm.trans H;rw [hy51];with_reducible exact H2_)|(have H2_:=(Option.bind_some _ _).symm.trans H;with_reducible exact H2_)|with_reducible exact H|(rw [hy51];exact H)|exact H
               have Ny51:=Aside0.mk hy51
               clear hy51
               by_cases c67:y48.length+y51.length<1256584717458
               ·rw [if_pos c67] at H
                have LMc67:=Aside0.mk c67
                clear c67
                obtain ⟨y55,hy55⟩: ∃y_:List (S31),y_=(y48++y51):=⟨_,rfl⟩
                replace H:(some (y55,0))=some (r1,r2):=by first|(rw [hy55];with_reducible exact H)|(have H2_:=(Option.bind_some _ _).symm.trans H;rw [hy55];with_reducible exact H2_)|(have H2_:=(Option.bind_some _ _).symm.trans H;with_reducible exact H2_)|with_reducible exact H|(rw [hy55];exact H)|exact H
                have Ny55:=Aside0.mk hy55
                clear hy55
                simp only [Option.some.injEq,Prod.mk.injEq] at H
                obtain ⟨rfl,rfl⟩:=H
                have q68:(x9_3:Int)≤((l0.length:Int):Int):=of_decide_eq_true zq_
                obtain ⟨i068,hi068,_,hsz68,_⟩:=info_parts info31
                have hroom68:l0.length≤c0:=HC0.out
                have hC68:Kd.C k31 _ A0 l0.length l0:=HR0.out
                have hcut68:=cut_to (P:=Try.prog) 24 31 .i64 Try.underlying24 hi068 A0 l0.length c0 x9_3 (of_decide_eq_true zq_) q68 hroom68
                have hr68:=Kd.C_take (m:=(x9_3:Int).toNat) hC68 (by omega)
                have hy68:y41.length=(x9_3:Int).toNat:=(by rw [Ny41.out,List.length_take];omega)
                rw [←Ny41.out] at hr68
                rw [←hy68] at hcut68
                have HR44:=Aside0.mk hr68
                have HC44:=am_ (show y41.length≤c0 from by omega)
                clear hr68 hC68 hroom68 hi068 hsz68
                have KY68:=Aside0.mk hy68
                clear hy68
                replace q68:=eq_true q68
                go_wp2_with (first|((with_reducible refine gate_callee (f:=124) rfl ?_);refine goesL_ (some 60) rfl rfl Try.func124 (by kernel_rfl) rfl #[.slice A0 y41.length c0] rfl zs_ ?_;(with_reducible refine (r10_copied.calls _ _ y41 t45 _ ?side1 ?side2 A63.out).mono ?_);(case side1=>exact zc_ (Kd.C_below HR44.out HB.out));(case side2=>exact HC44.out);rintro e w69 ⟨v46,rfl,ho0,hb⟩;refine ⟨_,rfl, ?_⟩;have n0_:=am_ (Kd.R_lower ho0 (below_size (zl2_ HB GE1 GE2)));have n1_:=am_ (blk_below (zb_ BK1) hb);have n2_:=am_ (blk_below (zb_ BK2) hb);have n3_:=am_ (below_step (zl2_ HB GE1 GE2) hb);clear BK1;clear BK2;clear HB;have HO47:=n0_;have BK1:=n1_;have BK2:=n2_;have HB:=n3_;clear n0_ n1_ n2_ n3_;(try clear hb);(try clear hb2);(try clear hk);(try clear hi);(try clear ho0);have hnb70:=NB1_2.out;have hnc70:=NB2_1.out;have hcz71_0:w69.cell? ⟨gb1,0,none⟩=some (.int .i64 a3_0):=(blk_cell BK1.out 0).trans rfl;have hcz71_1:w69.cell? ⟨gb1,1,none⟩=some (.int .i64 a3_1):=(blk_cell BK1.out 1).trans rfl;have hcz71_2:w69.cell? ⟨gb1,2,none⟩=some (.int .i64 a3_2):=(blk_cell BK1.out 2).trans rfl;have hfz71_0:=blk_frozen BK1.out 0;have hfz71_1:=blk_frozen BK1.out 1;have hfz71_2:=blk_frozen BK1.out 2)|((with_reducible refine gate_builtin (b:= .append) (xs:=#[.tmp 61, .tmp 66]) rfl ?_);at_builtin;refine Kd.R_append k31 (w0:=w) w.heap.size rfl (.tmp 61) (.tmp 66) 24 31 (.agg #[(.string ⟨#[]⟩),(.string ⟨#[]⟩),(.int .i64 0),(.int .i64 0),(.int .i64 0),(.int .i64 0),(.int .i64 0),(.int .i64 0),(.int .i64 0),(.int .i64 0),(.int .i64 0),(.int .i64 0)]) 112 rfl Try.underlying24 info31 rfl (by decide) (by omega) v46 t45 (⟨a1,a2,(⟨a3_0,a3_1,a3_2⟩:S27),(⟨0,0,0⟩:S27),(⟨0,0,0⟩:S27),1⟩:S31) [.string a1, .string a2, .int .i64 a3_0, .int .i64 a3_1, .int .i64 a3_2, .int .i64 0, .int .i64 0, .int .i64 0, .int .i64 0, .int .i64 0, .int .i64 0, .int .i64 1] (fun _=>True) (fun _=>False) rfl rfl ?aP (fun _ hk=>hk.elim) ?aF ?aO ?aB ?aS ?aL ?_;(case aP=>exact k31_mkM _ _ _ (⟨a1,a2,(⟨a3_0,a3_1,a3_2⟩:S27),(⟨0,0,0⟩:S27),(⟨0,0,0⟩:S27),1⟩:S31));(case aB=>exact (zl2_ HB GE1 GE2));(case aF=>exact (fun _ _=>trivial));(case aO=>exact (zr_ HO47));(case aS=>exact (below_size (zl2_ HB GE1 GE2)));(case aL=>have:=LMc64.out;omega);intro v49 w72 ho hb hg hat;rw [←Ny48.out] at ho;have n0_:=am_ (blk_grown (zb_ BK1) hg (Kd.R_ne HO47.out BK1.out (by decide)));have n1_:=am_ (blk_grown (zb_ BK2) hg (Kd.R_ne HO47.out BK2.out (by decide)));have n2_:=am_ (hb);have n3_:=am_ (ho);clear BK1;clear BK2;clear HB;clear HO47;have BK1:=n0_;have BK2:=n1_;have HB:=n2_;have HO50:=n3_;clear n0_ n1_ n2_ n3_;clear ho hb hg hat;have q73:(x9_3:Int)≤((l0.length:Int):Int):=of_decide_eq_true zq_;obtain ⟨i073,hi073,_,hsz73,_⟩:=info_parts info31;have hroom73:l0.length≤c0:=HC0.out;have hC73:Kd.C k31 _ A0 l0.length l0:=HR0.out;have q073:(0:Int)≤(x9_3:Int):=of_decide_eq_true zq_;have hcut73:=cut_from (P:=Try.prog) 24 31 .i64 Try.underlying24 hi073 12 hsz73 A0 l0.length c0 x9_3 q073 q73;have hr73:=Kd.C_drop (m:=(x9_3:Int).toNat) (c:=c0) hC73 (by omega) hroom73;obtain ⟨A73,hA73⟩: ∃A1,A1=(if c0=(x9_3:Int).toNat then A0 else (A0:Option Addr).map (·.add ((x9_3:Int).toNat*12))):=⟨_,rfl⟩;obtain ⟨c73,hc73⟩: ∃c1,c1=c0 - (x9_3:Int).toNat:=⟨_,rfl⟩;have hy73:y51.length=l0.length - (x9_3:Int).toNat:=(by rw [Ny51.out,List.length_drop]<;>omega);rw [show (l0).drop (x9_3:Int).toNat=y51 from Ny51.out.symm] at hr73;replace hr73:Kd.C k31 _ A73 y51.length y51:=(by rw [hA73];exact hr73);rw [←hy73,←hA73,←hc73] at hcut73;have HR54:=Aside0.mk hr73;have HC54:=am_ (show y51.length≤c73 from by rw [hy73,hc73];exact Nat.sub_le_sub_right hroom73 _);clear hr73 hC73 hroom73 hi073 hsz73 hc73;have KY73:=Aside0.mk hy73;have KA73:=Aside0.mk hA73;clear hy73 hA73;replace q73:=eq_true q73)|((with_reducible refine gate_builtin (b:= .append) (xs:=#[.tmp 68, .tmp 71]) rfl ?_);at_builtin;refine Kd.R_append_rows k31 (w0:=w) w.heap.size rfl (.tmp 68) (.tmp 71) 24 31 (.agg #[(.string ⟨#[]⟩),(.string ⟨#[]⟩),(.int .i64 0),(.int .i64 0),(.int .i64 0),(.int .i64 0),(.int .i64 0),(.int .i64 0),(.int .i64 0),(.int .i64 0),(.int .i64 0),(.int .i64 0)]) 112 rfl Try.underlying24 info31 rfl (by decide) (by omega) v49 y48 y51 _ _ _ (fun _=>True) (fun _=>False) rfl rfl ?aO ?aR (fun _ _ h=>h) (fun _ h=>h.elim) ?aF ?aB ?aS ?aL ?_;(case aR=>repeat (first|exact (Kd.C_below HR54.out HB.out)|(with_reducible refine Kd.C_alloc ?_ _)|(with_reducible refine Kd.C_drewN ?_ _)|(with_reducible refine Kd.C_drew ?_)));(case aB=>exact (zl2_ HB GE1 GE2));(case aF=>exact (fun _ _=>trivial));(case aO=>exact (zr_ HO50));(case aS=>exact (below_size (zl2_ HB GE1 GE2)));(case aL=>have:=LMc67.out;omega);intro v56 w74 ho hb hg hat;rw [←Ny55.out] at ho;have n0_:=am_ (blk_grown (zb_ BK1) hg (Kd.R_ne HO50.out BK1.out (by decide)));have n1_:=am_ (blk_grown (zb_ BK2) hg (Kd.R_ne HO50.out BK2.out (by decide)));have n2_:=am_ (hb);have n3_:=am_ (ho);clear BK1;clear BK2;clear HB;clear HO50;have BK1:=n0_;have BK2:=n1_;have HB:=n2_;have HO57:=n3_;clear n0_ n1_ n2_ n3_;clear ho hb hg hat;obtain ⟨Ao75,co75,eo75⟩:=Kd.R_slice HO57.out;subst eo75;have hcz76_0:w74.cell? ⟨gb2,0,none⟩=some (.slice none 0 0):=(blk_cell BK2.out 0).trans rfl;have hcz76_1:w74.cell? ⟨gb2,1,none⟩=some (.int .i64 0):=(blk_cell BK2.out 1).trans rfl;have hfz76_0:=blk_frozen BK2.out 0;have hfz76_1:=blk_frozen BK2.out 1))
                refine bodyPost_ret (results_cell_row rfl _ _ gb2 67 #[.slice Ao75 y55.length co75, .int .i64 0] (0,0) _ rfl (by refine zk_ ?_;refine blk_put (cs:=#[.slice Ao75 y55.length co75, .int .i64 0]) ?_ 1 _ rfl;refine zk_ ?_;refine blk_put (cs:=#[.slice none 0 0, .int .i64 0]) ?_ 0 _ rfl;refine zk_ ?_;exact BK2.out) Try.underlying67 rfl (by kernel_rfl)) rfl ?_
                exact ⟨_,by first|rfl|(simp [errW_none,errW_some]<;>rfl)|(simp [*,errW_none,errW_some]<;>rfl),by (with_reducible repeat (first|apply Kd.R_alloc|apply Kd.R_drewN|apply Kd.R_drew));exact Kd.R_mono (Kd.R_far (p:=⟨gb2,1,none⟩) (Kd.R_far (p:=⟨gb2,0,none⟩) (Kd.R_types HO57.out BK2.out (by decide)) (fun _ hk=>hk.2) (.slice Ao75 y55.length co75)) (fun _ hk=>hk.2) (.int .i64 0)) (fun _ hk=>trivial),zl2_ HB GE1 GE2⟩
               ·rw [if_neg c67] at H
                exact absurd H (by simp)
              ·rw [if_neg c64] at H
               exact absurd H (by simp)
             ·rw [if_neg c62] at H
              exact absurd H (by simp)
            ·rw [if_neg c61] at H
             exact absurd H (by simp)

def r10_Admit.l0:Nat→ByteArray→List ByteArray→List (S31)→Int→Int→Int→Int→Option ((List (S31))×Int)
 |0,_,_,_,_,_,_,_=>none
 |k+1,x1,x7,x8,x9,x2000,x2001,x2002=>if x9<(x7.length:Int) then (if 0≤x9 then ((r10_Find.f k x8 (rdOf ByteArray.empty x7 x9)).bind fun t25=>(if 0≤t25 then (if t25<(x8.length:Int) then ((r10_Add.f ((rd_T31 x8 t25).f4.f0) ((rd_T31 x8 t25).f4.f1) ((rd_T31 x8 t25).f4.f2) x2000 x2001 x2002).bind fun bt27=>((some (x8.set (t25:Int).toNat (⟨(rd_T31 x8 t25).f0,(rd_T31 x8 t25).f1,(⟨(rd_T31 x8 t25).f2.f0,(rd_T31 x8 t25).f2.f1,(rd_T31 x8 t25).f2.f2⟩:S27),(⟨(rd_T31 x8 t25).f3.f0,(rd_T31 x8 t25).f3.f1,(rd_T31 x8 t25).f3.f2⟩:S27),(⟨bt27.1,bt27.2.1,bt27.2.2⟩:S27),(rd_T31 x8 t25).f5⟩:S31):List (S31))).bind fun y30=>((r10_Le.f ((rd_T31 y30 t25).f4.f0) ((rd_T31 y30 t25).f4.f1) ((rd_T31 y30 t25).f4.f2) ((rd_T31 y30 t25).f2.f0) ((rd_T31 y30 t25).f2.f1) ((rd_T31 y30 t25).f2.f2)).bind fun t33=>(if t33=true then (r10_Admit.l0 k x1 x7 y30 (wrap64 (x9+1)) x2000 x2001 x2002) else ((r10_no.f 12).bind fun bt34=>(some (bt34.1,bt34.2))))))) else (none)) else (none))) else (none)) else ((r10_Find.f k x8 x1).bind fun t18=>(if 0≤t18 then (if t18<(x8.length:Int) then ((r10_Add.f ((rd_T31 x8 t18).f3.f0) ((rd_T31 x8 t18).f3.f1) ((rd_T31 x8 t18).f3.f2) x2000 x2001 x2002).bind fun bt20=>(some ((x8.set (t18:Int).toNat (⟨(rd_T31 x8 t18).f0,(rd_T31 x8 t18).f1,(⟨(rd_T31 x8 t18).f2.f0,(rd_T31 x8 t18).f2.f1,(rd_T31 x8 t18).f2.f2⟩:S27),(⟨bt20.1,bt20.2.1,bt20.2.2⟩:S27),(⟨(rd_T31 x8 t18).f4.f0,(rd_T31 x8 t18).f4.f1,(rd_T31 x8 t18).f4.f2⟩:S27),(rd_T31 x8 t18).f5⟩:S31)),0))) else (none)) else (none)))
def r10_Admit.f (k:Nat) (l0:List (S31)) (a1:ByteArray) (a2_0:Int) (a2_1:Int) (a2_2:Int):Option ((List (S31))×Int):=(r10_Up.f k l0 a1).bind fun t3=>((r10_MayVec.f a2_0 a2_1 a2_2).bind fun t6=>(if t6=true then (if (t3.length:Int)=0 then ((r10_no.f 2).bind fun bt11=>(some (bt11.1,bt11.2))) else ((r10_copied.f l0).bind fun t15=>(r10_Admit.l0 k a1 t3 t15 0 a2_0 a2_1 a2_2))) else ((r10_no.f 1).bind fun bt7=>(some (bt7.1,bt7.2)))))
theorem r10_Admit.mono_l: ∀k,(∀y0 y1 y2 y3 y4 y5 y6,LeO (r10_Admit.l0 k y0 y1 y2 y3 y4 y5 y6) (r10_Admit.l0 (k+1) y0 y1 y2 y3 y4 y5 y6))
 |0=>fun _ _ _ _ _ _ _ r h=>by simp [r10_Admit.l0] at h
 |k+1=>by
  have ih0:=r10_Admit.mono_l k
  ·intro y0 y1 y2 y3 y4 y5 y6
   unfold r10_Admit.l0
   repeat' first
   |(with_reducible exact ih0 _ _ _ _ _ _ _)
   |(with_reducible exact r10_Find.mono _ _ _)
   |(with_reducible exact r10_Up.mono _ _ _)
   |(with_reducible exact LeO.refl _)
   |(with_reducible exact LeO.none _)
   |(with_reducible refine LeO.ite ?_ ?_)
   |(with_reducible refine LeO.bind ?_ (fun _=> ?_))
   |exact ih0 _ _ _ _ _ _ _
   |exact r10_Find.mono _ _ _
   |exact r10_Up.mono _ _ _
   |exact LeO.none _
   |refine LeO.ite ?_ ?_
   |refine LeO.bind ?_ (fun _=> ?_)
theorem r10_Admit.mono: ∀a0 a1 a2 a3 a4 k,LeO (r10_Admit.f k a0 a1 a2 a3 a4) (r10_Admit.f (k+1) a0 a1 a2 a3 a4):=by
 intro a0 a1 a2 a3 a4 k
 have ih0:=r10_Admit.mono_l k
 unfold r10_Admit.f
 repeat' first
  |(with_reducible exact ih0 _ _ _ _ _ _ _)
  |(with_reducible exact r10_Find.mono _ _ _)
  |(with_reducible exact r10_Up.mono _ _ _)
  |(with_reducible exact LeO.refl _)
  |(with_reducible exact LeO.none _)
  |(with_reducible refine LeO.ite ?_ ?_)
  |(with_reducible refine LeO.bind ?_ (fun _=> ?_))
  |exact ih0 _ _ _ _ _ _ _
  |exact r10_Find.mono _ _ _
  |exact r10_Up.mono _ _ _
  |exact LeO.none _
  |refine LeO.ite ?_ ?_
  |refine LeO.bind ?_ (fun _=> ?_)
def r10_Admit.T11:Bool×List (List Nat×List Nat):=(true,[([],[]),([],[]),([],[]),([],[]),([2,3],[2,3]),([4],[4]),([5],[5]),([],[]),([6,7],[6,7]),([0,1,0,1,2,3,4,5,6,7,8],[0,1]),([9,0,1,2,3,4,5,6,7,8],[9]),([10,8,8,0,1,2,3,4,5,6,7,8],[8,10])])
def r10_Admit.B11:List Nat:=[0,0,0,0,12,28,60,0,252,511,1023,2047]
theorem r10_Admit.tab11:rtab .any (opsOf Try.f66 11)=r10_Admit.T11:=by kernel_rfl
theorem r10_Admit.bits11:waitsOk r10_Admit.T11.2 r10_Admit.B11=true:=by kernel_rfl
def r10_Admit.T12:Bool×List (List Nat×List Nat):=(true,[([],[]),([],[]),([0,1],[0,1]),([2],[2]),([3],[3]),([],[]),([],[]),([5,6],[5,6]),([7],[7]),([8],[8]),([4,9],[4,9]),([10],[10])])
def r10_Admit.B12:List Nat:=[0,0,3,7,15,0,0,96,224,480,1023,2047]
theorem r10_Admit.tab12:rtab .any (opsOf Try.f66 12)=r10_Admit.T12:=by kernel_rfl
theorem r10_Admit.bits12:waitsOk r10_Admit.T12.2 r10_Admit.B12=true:=by kernel_rfl
def r10_Admit.T15:Bool×List (List Nat×List Nat):=(true,[([],[]),([],[]),([],[]),([],[]),([2,3],[2,3]),([4],[4]),([5],[5]),([],[]),([6,7],[6,7]),([0,1,0,1,2,3,4,5,6,7,8],[0,1]),([9,0,1,2,3,4,5,6,7,8],[9]),([10,8,8,0,1,2,3,4,5,6,7,8],[8,10])])
def r10_Admit.B15:List Nat:=[0,0,0,0,12,28,60,0,252,511,1023,2047]
theorem r10_Admit.tab15:rtab .any (opsOf Try.f66 15)=r10_Admit.T15:=by kernel_rfl
theorem r10_Admit.bits15:waitsOk r10_Admit.T15.2 r10_Admit.B15=true:=by kernel_rfl
set_option maxHeartbeats 8000000 in
set_option maxRecDepth 100000 in
theorem r10_Admit.calls (k:Nat) (A0:Option Addr) (c0:Nat) (l0:List (S31)) (a1:ByteArray) (a2_0:Int) (a2_1:Int) (a2_2:Int) (r1:List (S31)) (r2:Int) (w:World) (hr0:Kd.C k31 w A0 l0.length l0) (hc0:l0.length≤c0) (h:r10_Admit.f k l0 a1 a2_0 a2_1 a2_2=some (r1,r2)):
  Calls Try.prog 66 #[.slice A0 l0.length c0, .string a1, .agg #[.int .i64 a2_0, .int .i64 a2_1, .int .i64 a2_2]] w fun e w'=> ∃v0_:Value,e= .returned (.agg #[v0_, .int .i64 r2])∧Kd.R k31 31 w' w.heap.size (fun _=>True) v0_ r1∧Below w.heap.size w w':=by
 have hu27:=Try.underlying27
 have hu67:=Try.underlying67
 have HR0:=Aside0.mk hr0
 have HC0:=Aside0.mk hc0
 clear hr0 hc0
 have HB:=am_ (Below.refl w.heap.size w)
 have H:((r10_Up.f k l0 a1).bind fun t3=>((r10_MayVec.f a2_0 a2_1 a2_2).bind fun t6=>(if t6=true then (if (t3.length:Int)=0 then ((r10_no.f 2).bind fun bt11=>(some (bt11.1,bt11.2))) else ((r10_copied.f l0).bind fun t15=>(r10_Admit.l0 k a1 t3 t15 0 a2_0 a2_1 a2_2))) else ((r10_no.f 1).bind fun bt7=>(some (bt7.1,bt7.2))))))=some (r1,r2):=h
 clear h
 replace H:=Option.bind_eq_some_iff.mp H
 obtain ⟨t3,A40,H⟩:=H
 replace H:((r10_MayVec.f a2_0 a2_1 a2_2).bind fun t6=>(if t6=true then (if (t3.length:Int)=0 then ((r10_no.f 2).bind fun bt11=>(some (bt11.1,bt11.2))) else ((r10_copied.f l0).bind fun t15=>(r10_Admit.l0 k a1 t3 t15 0 a2_0 a2_1 a2_2))) else ((r10_no.f 1).bind fun bt7=>(some (bt7.1,bt7.2)))))=some (r1,r2):=H
 have A4:=Aside0.mk A40
 clear A40
 replace H:=Option.bind_eq_some_iff.mp H
 obtain ⟨t6,A50,H⟩:=H
 replace H:(if t6=true then (if (t3.length:Int)=0 then ((r10_no.f 2).bind fun bt11=>(some (bt11.1,bt11.2))) else ((r10_copied.f l0).bind fun t15=>(r10_Admit.l0 k a1 t3 t15 0 a2_0 a2_1 a2_2))) else ((r10_no.f 1).bind fun bt7=>(some (bt7.1,bt7.2))))=some (r1,r2):=H
 have A5:=Aside0.mk A50
 clear A50
 by_cases c6:t6=true
 ·subst c6
  have H1:(if (t3.length:Int)=0 then ((r10_no.f 2).bind fun bt11=>(some (bt11.1,bt11.2))) else ((r10_copied.f l0).bind fun t15=>(r10_Admit.l0 k a1 t3 t15 0 a2_0 a2_1 a2_2)))=some (r1,r2):=by rw [if_pos rfl] at H;exact H
  clear H
  have H:=H1
  clear H1
  by_cases c7:(t3.length:Int)=0
  ·rw [if_pos c7] at H
   have c7b0:((t3.length:Int)==0)=true:=beq_iff_eq.mpr c7
   have c7b1:((t3.length:Int) !=0)=false:=bne_eq_false_iff_eq.mpr c7
   clear c7
   replace H:=Option.bind_eq_some_iff.mp H
   obtain ⟨⟨t11,t14⟩,A80,H⟩:=H
   replace H:(some (t11,t14))=some (r1,r2):=H
   have A8:=Aside0.mk A80
   clear A80
   simp only [Option.some.injEq,Prod.mk.injEq] at H
   obtain ⟨rfl,rfl⟩:=H
   go_enter Try.func66,Try.ntmps66
   go_wp2_with (first|((with_reducible refine gate_dst (N:=5) rfl ?_);refine box_event ?hg (N:=5) ?hd (cs:=#[.int .i64 a2_0, .int .i64 a2_1, .int .i64 a2_2]) (t:=27) ?hr ?_;(case hd=>rfl);(case hg=>rfl);(case hr=>first|(go_simp;done)|(go_simp;rfl));intro gb1 hg w9 hbox hb;have n0_:=am_ (below_step (zl0_ HB) hb);have n1_:=am_ (hbox);have n2_:=am_ ((zg0_ HB hg:w.heap.size≤gb1));have n3_:=am_ ((zg0_ HB hg:w.heap.size≤gb1));clear HB;have HB:=n0_;have BK1:=n1_;have GW1:=n2_;have GE1:=n3_;clear n0_ n1_ n2_ n3_;clear hb hbox hg)|((with_reducible refine gate_dst (N:=6) rfl ?_);refine box_event ?hg (N:=6) ?hd (cs:=#[.slice none 0 0, .int .i64 0]) (t:=67) ?hr ?_;(case hd=>rfl);(case hg=>rfl);(case hr=>first|(go_simp;done)|(go_simp;rfl));intro gb2 hg w10 hbox hb;have n0_:=am_ (blk_below (zb_ BK1) hb);have n1_:=am_ (below_step (zl1_ HB GE1) hb);have n2_:=am_ (hbox);have n3_:=am_ ((zg1_ HB GE1 hg:w.heap.size≤gb2));have n4_:=am_ ((zg1_ HB GE1 hg:w.heap.size≤gb2));have n5_:=am_ ((zn_ BK1 hg:gb1≠gb2));have n6_:=am_ ((zm_ BK1 hg:gb2≠gb1));clear BK1;clear HB;have BK1:=n0_;have HB:=n1_;have BK2:=n2_;have GW2:=n3_;have GE2:=n4_;have NB1_2:=n5_;have NB2_1:=n6_;clear n0_ n1_ n2_ n3_ n4_ n5_ n6_;clear hb hbox hg)|((with_reducible refine gate_callee (f:=106) rfl ?_);refine goesL_ (some 14) rfl rfl Try.func106 (by kernel_rfl) rfl #[.slice A0 l0.length c0, .string a1] rfl zs_ ?_;(with_reducible refine (r10_Up.calls k _ _ l0 a1 t3 _ ?side1 ?side2 A4.out).mono ?_);(case side1=>exact zc_ (Kd.C_below HR0.out HB.out));(case side2=>exact HC0.out);rintro e w11 ⟨v4,rfl,ho0,hb⟩;refine ⟨_,rfl, ?_⟩;have n0_:=am_ (Kd.R_lower ho0 (below_size (zl2_ HB GE1 GE2)));have n1_:=am_ (blk_below (zb_ BK1) hb);have n2_:=am_ (blk_below (zb_ BK2) hb);have n3_:=am_ (below_step (zl2_ HB GE1 GE2) hb);clear BK1;clear BK2;clear HB;have HO5:=n0_;have BK1:=n1_;have BK2:=n2_;have HB:=n3_;clear n0_ n1_ n2_ n3_;(try clear hb);(try clear hb2);(try clear hk);(try clear hi);(try clear ho0);have hnb12:=NB1_2.out;have hnc12:=NB2_1.out;have hcz13_0:w11.cell? ⟨gb1,0,none⟩=some (.int .i64 a2_0):=(blk_cell BK1.out 0).trans rfl;have hcz13_1:w11.cell? ⟨gb1,1,none⟩=some (.int .i64 a2_1):=(blk_cell BK1.out 1).trans rfl;have hcz13_2:w11.cell? ⟨gb1,2,none⟩=some (.int .i64 a2_2):=(blk_cell BK1.out 2).trans rfl;have hfz13_0:=blk_frozen BK1.out 0;have hfz13_1:=blk_frozen BK1.out 1;have hfz13_2:=blk_frozen BK1.out 2)|((with_reducible refine gate_callee (f:=65) rfl ?_);refine goesL_ (some 16) rfl rfl Try.func65 (by kernel_rfl) rfl #[.agg #[.int .i64 a2_0, .int .i64 a2_1, .int .i64 a2_2]] rfl zs_ ?_;(with_reducible refine (r10_MayVec.calls a2_0 a2_1 a2_2 true _ A5.out).mono ?_);rintro e w14 ⟨rfl,hb⟩;refine ⟨_,rfl, ?_⟩;have n0_:=am_ (Kd.R_below (zr_ HO5) hb);have n1_:=am_ (blk_below (zb_ BK1) hb);have n2_:=am_ (blk_below (zb_ BK2) hb);have n3_:=am_ (below_step (zl2_ HB GE1 GE2) hb);clear HO5;clear BK1;clear BK2;clear HB;have HO5:=n0_;have BK1:=n1_;have BK2:=n2_;have HB:=n3_;clear n0_ n1_ n2_ n3_;(try clear hb);(try clear hb2);(try clear hk);(try clear hi);obtain ⟨Ao15,co15,eo15⟩:=Kd.R_slice HO5.out;subst eo15)|((with_reducible refine gate_callee (f:=113) rfl ?_);refine goesL_ (some 22) rfl rfl Try.func113 (by kernel_rfl) rfl #[.int .i64 2] rfl zs_ ?_;(with_reducible refine (r10_no.calls 2 t11 t14 _ A8.out).mono ?_);rintro e w16 ⟨v12,rfl,ho0,hb⟩;refine ⟨_,rfl, ?_⟩;have n0_:=am_ (Kd.R_below (zr_ HO5) hb);have n1_:=am_ (Kd.R_lower ho0 (below_size (zl2_ HB GE1 GE2)));have n2_:=am_ (blk_below (zb_ BK1) hb);have n3_:=am_ (blk_below (zb_ BK2) hb);have n4_:=am_ (below_step (zl2_ HB GE1 GE2) hb);clear HO5;clear BK1;clear BK2;clear HB;have HO5:=n0_;have HO13:=n1_;have BK1:=n2_;have BK2:=n3_;have HB:=n4_;clear n0_ n1_ n2_ n3_ n4_;(try clear hb);(try clear hb2);(try clear hk);(try clear hi);(try clear ho0);obtain ⟨Ao17,co17,eo17⟩:=Kd.R_slice HO13.out;subst eo17;have hcz18_0:w16.cell? ⟨gb2,0,none⟩=some (.slice none 0 0):=(blk_cell BK2.out 0).trans rfl;have hcz18_1:w16.cell? ⟨gb2,1,none⟩=some (.int .i64 0):=(blk_cell BK2.out 1).trans rfl;have hfz18_0:=blk_frozen BK2.out 0;have hfz18_1:=blk_frozen BK2.out 1))
   refine bodyPost_ret (results_cell_row rfl _ _ gb2 67 #[.slice Ao17 t11.length co17, .int .i64 t14] (0,0) _ rfl (by refine zk_ ?_;refine blk_put (cs:=#[.slice Ao17 t11.length co17, .int .i64 0]) ?_ 1 _ rfl;refine zk_ ?_;refine blk_put (cs:=#[.slice none 0 0, .int .i64 0]) ?_ 0 _ rfl;refine zk_ ?_;exact BK2.out) Try.underlying67 rfl (by kernel_rfl)) rfl ?_
   exact ⟨_,by first|rfl|(simp [errW_none,errW_some]<;>rfl)|(simp [*,errW_none,errW_some]<;>rfl),by (with_reducible repeat (first|apply Kd.R_alloc|apply Kd.R_drewN|apply Kd.R_drew));exact Kd.R_mono (Kd.R_far (p:=⟨gb2,1,none⟩) (Kd.R_far (p:=⟨gb2,0,none⟩) (Kd.R_types HO13.out BK2.out (by decide)) (fun _ hk=>hk.2) (.slice Ao17 t11.length co17)) (fun _ hk=>hk.2) (.int .i64 t14)) (fun _ hk=>trivial),zl2_ HB GE1 GE2⟩
  ·rw [if_neg c7] at H
   have c7b0:((t3.length:Int)==0)=false:=beq_eq_false_iff_ne.mpr c7
   have c7b1:((t3.length:Int) !=0)=true:=bne_iff_ne.mpr c7
   have c7b2: ¬(t3=[]):=fun h_=>c7 (by rw [h_];rfl)
   replace H:=Option.bind_eq_some_iff.mp H
   obtain ⟨t15,A190,H⟩:=H
   replace H:(r10_Admit.l0 k a1 t3 t15 0 a2_0 a2_1 a2_2)=some (r1,r2):=H
   have A19:=Aside0.mk A190
   clear A190
   have H':=Aside0.mk H
   clear H
   go_enter Try.func66,Try.ntmps66
   go_wp2_with (first|((with_reducible refine gate_dst (N:=5) rfl ?_);refine box_event ?hg (N:=5) ?hd (cs:=#[.int .i64 a2_0, .int .i64 a2_1, .int .i64 a2_2]) (t:=27) ?hr ?_;(case hd=>rfl);(case hg=>rfl);(case hr=>first|(go_simp;done)|(go_simp;rfl));intro gb1 hg w20 hbox hb;have n0_:=am_ (below_step (zl0_ HB) hb);have n1_:=am_ (hbox);have n2_:=am_ ((zg0_ HB hg:w.heap.size≤gb1));have n3_:=am_ ((zg0_ HB hg:w.heap.size≤gb1));clear HB;have HB:=n0_;have BK1:=n1_;have GW1:=n2_;have GE1:=n3_;clear n0_ n1_ n2_ n3_;clear hb hbox hg)|((with_reducible refine gate_dst (N:=6) rfl ?_);refine box_event ?hg (N:=6) ?hd (cs:=#[.slice none 0 0, .int .i64 0]) (t:=67) ?hr ?_;(case hd=>rfl);(case hg=>rfl);(case hr=>first|(go_simp;done)|(go_simp;rfl));intro gb2 hg w21 hbox hb;have n0_:=am_ (blk_below (zb_ BK1) hb);have n1_:=am_ (below_step (zl1_ HB GE1) hb);have n2_:=am_ (hbox);have n3_:=am_ ((zg1_ HB GE1 hg:w.heap.size≤gb2));have n4_:=am_ ((zg1_ HB GE1 hg:w.heap.size≤gb2));have n5_:=am_ ((zn_ BK1 hg:gb1≠gb2));have n6_:=am_ ((zm_ BK1 hg:gb2≠gb1));clear BK1;clear HB;have BK1:=n0_;have HB:=n1_;have BK2:=n2_;have GW2:=n3_;have GE2:=n4_;have NB1_2:=n5_;have NB2_1:=n6_;clear n0_ n1_ n2_ n3_ n4_ n5_ n6_;clear hb hbox hg)|((with_reducible refine gate_callee (f:=106) rfl ?_);refine goesL_ (some 14) rfl rfl Try.func106 (by kernel_rfl) rfl #[.slice A0 l0.length c0, .string a1] rfl zs_ ?_;(with_reducible refine (r10_Up.calls k _ _ l0 a1 t3 _ ?side1 ?side2 A4.out).mono ?_);(case side1=>exact zc_ (Kd.C_below HR0.out HB.out));(case side2=>exact HC0.out);rintro e w22 ⟨v4,rfl,ho0,hb⟩;refine ⟨_,rfl, ?_⟩;have n0_:=am_ (Kd.R_lower ho0 (below_size (zl2_ HB GE1 GE2)));have n1_:=am_ (blk_below (zb_ BK1) hb);have n2_:=am_ (blk_below (zb_ BK2) hb);have n3_:=am_ (below_step (zl2_ HB GE1 GE2) hb);clear BK1;clear BK2;clear HB;have HO5:=n0_;have BK1:=n1_;have BK2:=n2_;have HB:=n3_;clear n0_ n1_ n2_ n3_;(try clear hb);(try clear hb2);(try clear hk);(try clear hi);(try clear ho0);have hnb23:=NB1_2.out;have hnc23:=NB2_1.out;have hcz24_0:w22.cell? ⟨gb1,0,none⟩=some (.int .i64 a2_0):=(blk_cell BK1.out 0).trans rfl;have hcz24_1:w22.cell? ⟨gb1,1,none⟩=some (.int .i64 a2_1):=(blk_cell BK1.out 1).trans rfl;have hcz24_2:w22.cell? ⟨gb1,2,none⟩=some (.int .i64 a2_2):=(blk_cell BK1.out 2).trans rfl;have hfz24_0:=blk_frozen BK1.out 0;have hfz24_1:=blk_frozen BK1.out 1;have hfz24_2:=blk_frozen BK1.out 2)|((with_reducible refine gate_callee (f:=65) rfl ?_);refine goesL_ (some 16) rfl rfl Try.func65 (by kernel_rfl) rfl #[.agg #[.int .i64 a2_0, .int .i64 a2_1, .int .i64 a2_2]] rfl zs_ ?_;(with_reducible refine (r10_MayVec.calls a2_0 a2_1 a2_2 true _ A5.out).mono ?_);rintro e w25 ⟨rfl,hb⟩;refine ⟨_,rfl, ?_⟩;have n0_:=am_ (Kd.R_below (zr_ HO5) hb);have n1_:=am_ (blk_below (zb_ BK1) hb);have n2_:=am_ (blk_below (zb_ BK2) hb);have n3_:=am_ (below_step (zl2_ HB GE1 GE2) hb);clear HO5;clear BK1;clear BK2;clear HB;have HO5:=n0_;have BK1:=n1_;have BK2:=n2_;have HB:=n3_;clear n0_ n1_ n2_ n3_;(try clear hb);(try clear hb2);(try clear hk);(try clear hi);obtain ⟨Ao26,co26,eo26⟩:=Kd.R_slice HO5.out;subst eo26)|((with_reducible refine gate_callee (f:=124) rfl ?_);refine goesL_ (some 24) rfl rfl Try.func124 (by kernel_rfl) rfl #[.slice A0 l0.length c0] rfl zs_ ?_;(with_reducible refine (r10_copied.calls _ _ l0 t15 _ ?side1 ?side2 A19.out).mono ?_);(case side1=>exact zc_ (Kd.C_below HR0.out HB.out));(case side2=>exact HC0.out);rintro e w27 ⟨v16,rfl,ho0,hb⟩;refine ⟨_,rfl, ?_⟩;have n0_:=am_ (Kd.R_below (zr_ HO5) hb);have n1_:=am_ (Kd.R_lower ho0 (below_size (zl2_ HB GE1 GE2)));have n2_:=am_ (blk_below (zb_ BK1) hb);have n3_:=am_ (blk_below (zb_ BK2) hb);have n4_:=am_ (below_step (zl2_ HB GE1 GE2) hb);clear HO5;clear BK1;clear BK2;clear HB;have HO5:=n0_;have HO17:=n1_;have BK1:=n2_;have BK2:=n3_;have HB:=n4_;clear n0_ n1_ n2_ n3_ n4_;(try clear hb);(try clear hb2);(try clear hk);(try clear hi);(try clear ho0)))
   go_loopg [9] k (fun kq v9 w'=> ∃(x8_1:List (S31)) (x9_1:Int) (x3001_1:Int),v9= .int .i64 x9_1∧Aside0 (r10_Admit.l0 kq a1 t3 x8_1 x9_1 a2_0 a2_1 a2_2=some (r1,r2))∧Aside0 (kq≤k)∧Aside0 (Kd.R Kd.string 9 w' w.heap.size (fun _=>True) (.slice Ao26 t3.length co26) t3)∧Aside0 (Kd.R k31 31 w' w.heap.size (fun _=>True) v16 x8_1)∧Aside0 (w'.heap[gb1]?=some (.cells #[.int .i64 a2_0, .int .i64 a2_1, .int .i64 a2_2] 27 (0,0)))∧Aside0 (w'.heap[gb2]?=some (.cells #[(.slice none 0 0), .int .i64 x3001_1] 67 (0,0)))∧Aside0 (Below w.heap.size w w'))
   case atStart=>exact ⟨(t15),(0),(0),(by first|rfl|(simp;done)|(simp [*];done)),H',⟨Nat.le_refl _⟩,⟨by (with_reducible repeat (first|apply Kd.R_alloc|apply Kd.R_drewN|apply Kd.R_drew));exact HO5.out⟩,⟨by (with_reducible repeat (first|apply Kd.R_alloc|apply Kd.R_drewN|apply Kd.R_drew));exact HO17.out⟩,⟨by refine zk_ ?_;exact BK1.out⟩,⟨by refine zk_ ?_;exact BK2.out⟩,⟨zl2_ HB GE1 GE2⟩⟩
   case round=>
    clear H'
    try clear c1
    try clear c2
    try clear p2
    try clear c6
    try clear c7
    try clear c7b0
    try clear c7b1
    try clear c7b2
    try clear c10
    try clear c11
    try clear c12
    try clear c23
    try clear hcz13_0
    try clear hcz13_1
    try clear hcz13_2
    try clear hcz18_0
    try clear hcz18_1
    try clear hcz24_0
    try clear hcz24_1
    try clear hcz24_2
    try clear hfz13_0
    try clear hfz13_1
    try clear hfz13_2
    try clear hfz18_0
    try clear hfz18_1
    try clear hfz24_0
    try clear hfz24_1
    try clear hfz24_2
    obtain ⟨x8_1,x9_1,x3001_1,rfl,HA,HK1,HO_7,HO_8,BK1,BK2,HB⟩:=hrel
    cases gk with
    |zero=>exact absurd HA.out (by simp [r10_Admit.l0])
    |succ k1=>
     have H:=HA.out
     clear HA
     simp only [r10_Admit.l0] at H
     by_cases c28:x9_1<(t3.length:Int)
     ·rw [if_pos c28] at H
      have c28b0:decide (x9_1<(t3.length:Int))=true:=decide_eq_true c28
      clear c28
      by_cases c29:0≤x9_1
      ·rw [if_pos c29] at H
       have c29b0:decide (0≤x9_1)=true:=decide_eq_true c29
       clear c29
       replace H:=Option.bind_eq_some_iff.mp H
       obtain ⟨t25,A300,H⟩:=H
       replace H:(if 0≤t25 then (if t25<(x8_1.length:Int) then ((r10_Add.f ((rd_T31 x8_1 t25).f4.f0) ((rd_T31 x8_1 t25).f4.f1) ((rd_T31 x8_1 t25).f4.f2) a2_0 a2_1 a2_2).bind fun bt27=>((some (x8_1.set (t25:Int).toNat (⟨(rd_T31 x8_1 t25).f0,(rd_T31 x8_1 t25).f1,(⟨(rd_T31 x8_1 t25).f2.f0,(rd_T31 x8_1 t25).f2.f1,(rd_T31 x8_1 t25).f2.f2⟩:S27),(⟨(rd_T31 x8_1 t25).f3.f0,(rd_T31 x8_1 t25).f3.f1,(rd_T31 x8_1 t25).f3.f2⟩:S27),(⟨bt27.1,bt27.2.1,bt27.2.2⟩:S27),(rd_T31 x8_1 t25).f5⟩:S31):List (S31))).bind fun y30=>((r10_Le.f ((rd_T31 y30 t25).f4.f0) ((rd_T31 y30 t25).f4.f1) ((rd_T31 y30 t25).f4.f2) ((rd_T31 y30 t25).f2.f0) ((rd_T31 y30 t25).f2.f1) ((rd_T31 y30 t25).f2.f2)).bind fun t33=>(if t33=true then (r10_Admit.l0 k1 a1 t3 y30 (wrap64 (x9_1+1)) a2_0 a2_1 a2_2) else ((r10_no.f 12).bind fun bt34=>(some (bt34.1,bt34.2))))))) else (none)) else (none))=some (r1,r2):=H
       have A30:=Aside0.mk A300
       clear A300
       by_cases c31:0≤t25
       ·rw [if_pos c31] at H
        have c31b0:decide (0≤t25)=true:=decide_eq_true c31
        clear c31
        by_cases c32:t25<(x8_1.length:Int)
        ·rw [if_pos c32] at H
         have c32b0:decide (t25<(x8_1.length:Int))=true:=decide_eq_true c32
         clear c32
         replace H:=Option.bind_eq_some_iff.mp H
         obtain ⟨⟨t27,t28,t29⟩,A330,H⟩:=H
         replace H:((some (x8_1.set (t25:Int).toNat (⟨(rd_T31 x8_1 t25).f0,(rd_T31 x8_1 t25).f1,(⟨(rd_T31 x8_1 t25).f2.f0,(rd_T31 x8_1 t25).f2.f1,(rd_T31 x8_1 t25).f2.f2⟩:S27),(⟨(rd_T31 x8_1 t25).f3.f0,(rd_T31 x8_1 t25).f3.f1,(rd_T31 x8_1 t25).f3.f2⟩:S27),(⟨t27,t28,t29⟩:S27),(rd_T31 x8_1 t25).f5⟩:S31):List (S31))).bind fun y30=>((r10_Le.f ((rd_T31 y30 t25).f4.f0) ((rd_T31 y30 t25).f4.f1) ((rd_T31 y30 t25).f4.f2) ((rd_T31 y30 t25).f2.f0) ((rd_T31 y30 t25).f2.f1) ((rd_T31 y30 t25).f2.f2)).bind fun t33=>(if t33=true then (r10_Admit.l0 k1 a1 t3 y30 (wrap64 (x9_1+1)) a2_0 a2_1 a2_2) else ((r10_no.f 12).bind fun bt34=>(some (bt34.1,bt34.2))))))=some (r1,r2):=H
         have A33:=Aside0.mk A330
         clear A330
         obtain ⟨y30,hy30⟩: ∃y_:List (S31),y_=(x8_1.set (t25:Int).toNat (⟨(rd_T31 x8_1 t25).f0,(rd_T31 x8_1 t25).f1,(⟨(rd_T31 x8_1 t25).f2.f0,(rd_T31 x8_1 t25).f2.f1,(rd_T31 x8_1 t25).f2.f2⟩:S27),(⟨(rd_T31 x8_1 t25).f3.f0,(rd_T31 x8_1 t25).f3.f1,(rd_T31 x8_1 t25).f3.f2⟩:S27),(⟨t27,t28,t29⟩:S27),(rd_T31 x8_1 t25).f5⟩:S31)):=⟨_,rfl⟩
         replace H:((r10_Le.f ((rd_T31 y30 t25).f4.f0) ((rd_T31 y30 t25).f4.f1) ((rd_T31 y30 t25).f4.f2) ((rd_T31 y30 t25).f2.f0) ((rd_T31 y30 t25).f2.f1) ((rd_T31 y30 t25).f2.f2)).bind fun t33=>(if t33=true then (r10_Admit.l0 k1 a1 t3 y30 (wrap64 (x9_1+1)) a2_0 a2_1 a2_2) else ((r10_no.f 12).bind fun bt34=>(some (bt34.1,bt34.2)))))=some (r1,r2):=by first|(rw [hy30];with_reducible exact H)|(have H2_:=(Option.bind_some _ _).symm.trans H;rw [hy30];with_reducible exact H2_)|(have H2_:=(Option.bind_some _ _).symm.trans H;with_reducible exact H2_)|with_reducible exact H|(rw [hy30];exact H)|exact H
         have Ny30:=Aside0.mk hy30
         clear hy30
         replace H:=Option.bind_eq_some_iff.mp H
         obtain ⟨t33,A350,H⟩:=H
         replace H:(if t33=true then (r10_Admit.l0 k1 a1 t3 y30 (wrap64 (x9_1+1)) a2_0 a2_1 a2_2) else ((r10_no.f 12).bind fun bt34=>(some (bt34.1,bt34.2))))=some (r1,r2):=H
         have A35:=Aside0.mk A350
         clear A350
         by_cases c36:t33=true
         ·subst c36
          have H1:(r10_Admit.l0 k1 a1 t3 y30 (wrap64 (x9_1+1)) a2_0 a2_1 a2_2)=some (r1,r2):=by rw [if_pos rfl] at H;exact H
          clear H
          have H:=H1
          clear H1
          have H':=Aside0.mk H
          clear H
          have p24:0≤(x9_1:Int):=of_decide_eq_true zq_
          have q24:x9_1<(t3.length:Int):=of_decide_eq_true zq_
          obtain ⟨ad24,e24,hx24_0⟩:=Kd.at_string (Kd.R_reads' HO_7.out).2.2 x9_1 p24 q24
          cases e24
          replace p24:=eq_true p24
          replace q24:=eq_true q24
          obtain ⟨Ao37,co37,eo37⟩:=Kd.R_slice HO_8.out
          subst eo37
          try go_wp2_with ((with_reducible refine gate_callee (f:=50) rfl ?_);refine goesL_ (some 36) rfl rfl Try.func50 (by kernel_rfl) rfl #[.slice Ao37 x8_1.length co37, .string (rdOf ByteArray.empty t3 x9_1)] rfl zs_ ?_;(with_reducible refine (r10_Find.calls k1 _ _ x8_1 (rdOf ByteArray.empty t3 x9_1) t25 _ ?side1 ?side2 A30.out).mono ?_);(case side1=>repeat (first|exact (Kd.R_reads' HO_8.out).2.2|(with_reducible refine Kd.C_alloc ?_ _)|(with_reducible refine Kd.C_drewN ?_ _)|(with_reducible refine Kd.C_drew ?_)));(case side2=>exact (Kd.R_reads' HO_8.out).2.1);rintro e w' ⟨rfl,⟨nd,rfl⟩⟩;refine ⟨_,rfl, ?_⟩;(try (rw [drewN_self wr];generalize hq_:World.drewN wr _=wr;have n0_:Aside0 (Kd.R Kd.string 9 wr w.heap.size (fun _=>True) (.slice (some ad24) t3.length co26) t3):=⟨by rw [←hq_];exact (zr_ HO_7)⟩;have n1_:Aside0 (Kd.R k31 31 wr w.heap.size (fun _=>True) (.slice Ao37 x8_1.length co37) x8_1):=⟨by rw [←hq_];exact (zr_ HO_8)⟩;have n2_:Aside0 (wr.heap[gb1]?=some (.cells #[.int .i64 a2_0, .int .i64 a2_1, .int .i64 a2_2] 27 (0,0))):=⟨by rw [←hq_];exact (zb_ BK1)⟩;have n3_:Aside0 (wr.heap[gb2]?=some (.cells #[.slice none 0 0, .int .i64 x3001_1] 67 (0,0))):=⟨by rw [←hq_];exact (zb_ BK2)⟩;have n4_:Aside0 (Below w.heap.size w wr):=⟨by rw [←hq_];exact (zl2_ HB GE1 GE2)⟩;clear HO_7 HO_8 BK1 BK2 HB hq_;have HO_7:=n0_;have HO_8:=n1_;have BK1:=n2_;have BK2:=n3_;have HB:=n4_;clear n0_ n1_ n2_ n3_ n4_)))
          have n0_:=am_ (Kd.R_drew HO_7.out)
          have n1_:=am_ (Kd.R_drew HO_8.out)
          have n2_:=am_ (blk_drew BK1.out)
          have n3_:=am_ (blk_drew BK2.out)
          have n4_:=am_ (below_drew1 HB.out)
          clear HO_7
          clear HO_8
          clear BK1
          clear BK2
          clear HB
          have HO_7:=n0_
          have HO_8:=n1_
          have BK1:=n2_
          have BK2:=n3_
          have HB:=n4_
          clear n0_ n1_ n2_ n3_ n4_
          have p26:0≤(t25:Int):=of_decide_eq_true zq_
          have q26:t25<(x8_1.length:Int):=of_decide_eq_true zq_
          obtain ⟨ad26,e26,hx26_0,hx26_1,hx26_2,hx26_3,hx26_4,hx26_5,hx26_6,hx26_7,hx26_8,hx26_9,hx26_10,hx26_11⟩:=at_T31 (Kd.R_reads' HO_8.out).2.2 t25 p26 q26
          cases e26
          replace p26:=eq_true p26
          replace q26:=eq_true q26
          refine start_ (n:=12) (S:=fun w'=>w'.cell? ⟨gb1,0,none⟩=some (.int .i64 a2_0)∧w'.cell? ⟨gb1,1,none⟩=some (.int .i64 a2_1)∧w'.cell? ⟨gb1,2,none⟩=some (.int .i64 a2_2)∧w'.cell? (ad26.add ((t25).toNat*12))=some (.string ((rd_T31 x8_1 t25).f0))∧w'.cell? ⟨(ad26.add ((t25).toNat*12)).block,(ad26.add ((t25).toNat*12)).off+1,none⟩=some (.string ((rd_T31 x8_1 t25).f1))∧w'.cell? ⟨(ad26.add ((t25).toNat*12)).block,(ad26.add ((t25).toNat*12)).off+2,none⟩=some (.int .i64 ((rd_T31 x8_1 t25).f2.f0))∧w'.cell? ⟨(ad26.add ((t25).toNat*12)).block,(ad26.add ((t25).toNat*12)).off+3,none⟩=some (.int .i64 ((rd_T31 x8_1 t25).f2.f1))∧w'.cell? ⟨(ad26.add ((t25).toNat*12)).block,(ad26.add ((t25).toNat*12)).off+4,none⟩=some (.int .i64 ((rd_T31 x8_1 t25).f2.f2))∧w'.cell? ⟨(ad26.add ((t25).toNat*12)).block,(ad26.add ((t25).toNat*12)).off+5,none⟩=some (.int .i64 ((rd_T31 x8_1 t25).f3.f0))∧w'.cell? ⟨(ad26.add ((t25).toNat*12)).block,(ad26.add ((t25).toNat*12)).off+6,none⟩=some (.int .i64 ((rd_T31 x8_1 t25).f3.f1))∧w'.cell? ⟨(ad26.add ((t25).toNat*12)).block,(ad26.add ((t25).toNat*12)).off+7,none⟩=some (.int .i64 ((rd_T31 x8_1 t25).f3.f2))∧w'.cell? ⟨(ad26.add ((t25).toNat*12)).block,(ad26.add ((t25).toNat*12)).off+8,none⟩=some (.int .i64 ((rd_T31 x8_1 t25).f4.f0))∧w'.cell? ⟨(ad26.add ((t25).toNat*12)).block,(ad26.add ((t25).toNat*12)).off+9,none⟩=some (.int .i64 ((rd_T31 x8_1 t25).f4.f1))∧w'.cell? ⟨(ad26.add ((t25).toNat*12)).block,(ad26.add ((t25).toNat*12)).off+10,none⟩=some (.int .i64 ((rd_T31 x8_1 t25).f4.f2))∧w'.cell? ⟨(ad26.add ((t25).toNat*12)).block,(ad26.add ((t25).toNat*12)).off+11,none⟩=some (.int .i64 ((rd_T31 x8_1 t25).f5))) (ds:=[11]) (bt_ 12 0) (by kernel_rfl) rfl rfl ⟨(blk_cell BK1.out 0).trans rfl,(blk_cell BK1.out 1).trans rfl,(blk_cell BK1.out 2).trans rfl,hx26_0,hx26_1,hx26_2,hx26_3,hx26_4,hx26_5,hx26_6,hx26_7,hx26_8,hx26_9,hx26_10,hx26_11⟩ (fun hHeld=> ?_);refine with_tabW r10_Admit.tab11 r10_Admit.bits11 (fun HT_ HW_=> ?_)
          generalize wr.drew=w38 at HO_7 HO_8 BK1 BK2 HB hx26_0 hx26_1 hx26_10 hx26_11 hx26_2 hx26_3 hx26_4 hx26_5 hx26_6 hx26_7 hx26_8 hx26_9 hHeld ⊢
          refine pu_ (i:=0) (N:=some 37) (bt_ 12 1) HT_ ?_
          refine pu_ (i:=1) (N:=some 38) (bt_ 12 3) HT_ ?_
          refine pu_ (i:=2) (N:=some 39) (bt_ 12 7) HT_ ?_
          refine pu_ (i:=3) (N:=some 40) (bt_ 12 15) HT_ ?_
          refine pu_ (i:=4) (N:=some 41) (bt_ 12 31) HT_ ?_
          refine pu_ (i:=5) (N:=some 42) (bt_ 12 63) HT_ ?_
          refine tk_ (i:=6) (N:=some 43) (bt_ 12 127) HT_ HW_ hHeld ?_
          refine tk_ (i:=7) (N:=some 44) (bt_ 12 255) HT_ HW_ hHeld ?_
          refine one_ (i:=8) (N:=some 45) (bt_ 12 511) rfl rfl (one_of HT_.out (by kernel_rfl)) (by decide) (fun K hK=> ?_)
          refine goes_ Try.func63 (by kernel_rfl) rfl #[.agg #[.int .i64 ((rd_T31 x8_1 t25).f4.f0), .int .i64 ((rd_T31 x8_1 t25).f4.f1), .int .i64 ((rd_T31 x8_1 t25).f4.f2)], .agg #[.int .i64 a2_0, .int .i64 a2_1, .int .i64 a2_2]] (by rfl) rfl rfl zs_ ?_
          with_reducible refine (r10_Add.calls ((rd_T31 x8_1 t25).f4.f0) ((rd_T31 x8_1 t25).f4.f1) ((rd_T31 x8_1 t25).f4.f2) a2_0 a2_1 a2_2 t27 t28 t29 _ A33.out).mono ?_
          rintro e w39 ⟨rfl,hb⟩
          have HS3_:=zh_ hb (hHeld.2.2.2.1)
          have HS4_:=zh_ hb (hHeld.2.2.2.2.1)
          have HS5_:=zh_ hb (hHeld.2.2.2.2.2.1)
          have HS6_:=zh_ hb (hHeld.2.2.2.2.2.2.1)
          have HS7_:=zh_ hb (hHeld.2.2.2.2.2.2.2.1)
          have HS8_:=zh_ hb (hHeld.2.2.2.2.2.2.2.2.1)
          have HS9_:=zh_ hb (hHeld.2.2.2.2.2.2.2.2.2.1)
          have HS10_:=zh_ hb (hHeld.2.2.2.2.2.2.2.2.2.2.1)
          have HS11_:=zh_ hb (hHeld.2.2.2.2.2.2.2.2.2.2.2.1)
          have HS12_:=zh_ hb (hHeld.2.2.2.2.2.2.2.2.2.2.2.2.1)
          have HS13_:=zh_ hb (hHeld.2.2.2.2.2.2.2.2.2.2.2.2.2.1)
          have HS14_:=zh_ hb (hHeld.2.2.2.2.2.2.2.2.2.2.2.2.2.2)
          refine ⟨_,rfl, ?_⟩
          have n0_:=am_ (Kd.R_below (zr_ HO_7) hb)
          have n1_:=am_ (Kd.R_below (zr_ HO_8) hb)
          have n2_:=am_ (blk_below (zb_ BK1) hb)
          have n3_:=am_ (blk_below (zb_ BK2) hb)
          have n4_:=am_ (below_step (zl2_ HB GE1 GE2) hb)
          clear HO_7
          clear HO_8
          clear BK1
          clear BK2
          clear HB
          have HO_7:=n0_
          have HO_8:=n1_
          have BK1:=n2_
          have BK2:=n3_
          have HB:=n4_
          clear n0_ n1_ n2_ n3_ n4_
          (try clear hb)
          (try clear hb2)
          (try clear hk)
          (try clear hi)
          have p34:0≤(t25:Int):=of_decide_eq_true zq_
          have q34:(t25:Int)<((x8_1.length:Int):Int):=of_decide_eq_true zq_
          obtain ⟨go34,co34,eo34,gb34,gl34,cl34,HG34⟩:=Kd.R_form HO_8.out (by omega)
          (first|cases eo34|(injection eo34 with ea_ en_ ec_;(first|subst ea_|(injection ea_ with ea_;subst ea_));subst ec_;clear en_))
          have GB34:=Aside0.mk gb34
          have GG34:=Aside0.mk HG34
          clear gb34 gl34 HG34
          (first|simp only [add_plain] at hx26_0|skip)
          (first|simp only [add_plain] at hx26_1|skip)
          (first|simp only [add_plain] at hx26_2|skip)
          (first|simp only [add_plain] at hx26_3|skip)
          (first|simp only [add_plain] at hx26_4|skip)
          (first|simp only [add_plain] at hx26_5|skip)
          (first|simp only [add_plain] at hx26_6|skip)
          (first|simp only [add_plain] at hx26_7|skip)
          (first|simp only [add_plain] at hx26_8|skip)
          (first|simp only [add_plain] at hx26_9|skip)
          (first|simp only [add_plain] at hx26_10|skip)
          (first|simp only [add_plain] at hx26_11|skip)
          obtain ⟨ce34,hcl34,hM34,hcc34,hfr34⟩:=Kd.R_elem HO_8.out z31 (t25:Int) p34 q34
          obtain rfl:=k31_openM hM34
          have hx34_0:World.cell? _ ⟨go34,(t25:Int).toNat*12,none⟩=some (.string ((rd_T31 x8_1 t25).f0)):=hcc34 0 _ rfl
          have hx34_1:World.cell? _ ⟨go34,(t25:Int).toNat*12+1,none⟩=some (.string ((rd_T31 x8_1 t25).f1)):=hcc34 1 _ rfl
          have hx34_2:World.cell? _ ⟨go34,(t25:Int).toNat*12+2,none⟩=some (.int .i64 ((rd_T31 x8_1 t25).f2.f0)):=hcc34 2 _ rfl
          have hx34_3:World.cell? _ ⟨go34,(t25:Int).toNat*12+3,none⟩=some (.int .i64 ((rd_T31 x8_1 t25).f2.f1)):=hcc34 3 _ rfl
          have hx34_4:World.cell? _ ⟨go34,(t25:Int).toNat*12+4,none⟩=some (.int .i64 ((rd_T31 x8_1 t25).f2.f2)):=hcc34 4 _ rfl
          have hx34_5:World.cell? _ ⟨go34,(t25:Int).toNat*12+5,none⟩=some (.int .i64 ((rd_T31 x8_1 t25).f3.f0)):=hcc34 5 _ rfl
          have hx34_6:World.cell? _ ⟨go34,(t25:Int).toNat*12+6,none⟩=some (.int .i64 ((rd_T31 x8_1 t25).f3.f1)):=hcc34 6 _ rfl
          have hx34_7:World.cell? _ ⟨go34,(t25:Int).toNat*12+7,none⟩=some (.int .i64 ((rd_T31 x8_1 t25).f3.f2)):=hcc34 7 _ rfl
          have hx34_8:World.cell? _ ⟨go34,(t25:Int).toNat*12+8,none⟩=some (.int .i64 ((rd_T31 x8_1 t25).f4.f0)):=hcc34 8 _ rfl
          have hx34_9:World.cell? _ ⟨go34,(t25:Int).toNat*12+9,none⟩=some (.int .i64 ((rd_T31 x8_1 t25).f4.f1)):=hcc34 9 _ rfl
          have hx34_10:World.cell? _ ⟨go34,(t25:Int).toNat*12+10,none⟩=some (.int .i64 ((rd_T31 x8_1 t25).f4.f2)):=hcc34 10 _ rfl
          have hx34_11:World.cell? _ ⟨go34,(t25:Int).toNat*12+11,none⟩=some (.int .i64 ((rd_T31 x8_1 t25).f5)):=hcc34 11 _ rfl
          have hf34_0:World.frozen? _ ⟨go34,(t25:Int).toNat*12,none⟩=false:=hfr34 0
          have hf34_1:World.frozen? _ ⟨go34,(t25:Int).toNat*12+1,none⟩=false:=hfr34 1
          have hf34_2:World.frozen? _ ⟨go34,(t25:Int).toNat*12+2,none⟩=false:=hfr34 2
          have hf34_3:World.frozen? _ ⟨go34,(t25:Int).toNat*12+3,none⟩=false:=hfr34 3
          have hf34_4:World.frozen? _ ⟨go34,(t25:Int).toNat*12+4,none⟩=false:=hfr34 4
          have hf34_5:World.frozen? _ ⟨go34,(t25:Int).toNat*12+5,none⟩=false:=hfr34 5
          have hf34_6:World.frozen? _ ⟨go34,(t25:Int).toNat*12+6,none⟩=false:=hfr34 6
          have hf34_7:World.frozen? _ ⟨go34,(t25:Int).toNat*12+7,none⟩=false:=hfr34 7
          have hf34_8:World.frozen? _ ⟨go34,(t25:Int).toNat*12+8,none⟩=false:=hfr34 8
          have hf34_9:World.frozen? _ ⟨go34,(t25:Int).toNat*12+9,none⟩=false:=hfr34 9
          have hf34_10:World.frozen? _ ⟨go34,(t25:Int).toNat*12+10,none⟩=false:=hfr34 10
          have hf34_11:World.frozen? _ ⟨go34,(t25:Int).toNat*12+11,none⟩=false:=hfr34 11
          clear hcl34 hcc34 hfr34 hM34
          replace p34:=eq_true p34
          replace q34:=eq_true q34
          obtain ⟨ce40,hcl40,hM40,hcc40,hfr40⟩:=Kd.R_elem HO_8.out z31 (t25:Int) (of_decide_eq_true zq_) (by have h_:(t25:Int)<((x8_1.length:Int):Int):=of_decide_eq_true zq_;first|exact h_|(have e_:=(Kd.R_reads' HO_8.out).1;omega)|simpa using h_)
          obtain rfl:=k31_openM hM40
          have HP40:=(Kd.R_seg HO_8.out (t25:Int) (of_decide_eq_true zq_) (by have h_:(t25:Int)<((x8_1.length:Int):Int):=of_decide_eq_true zq_;first|exact h_|(have e_:=(Kd.R_reads' HO_8.out).1;omega)|simpa using h_) (seg:=[.int .i64 t27, .int .i64 t28, .int .i64 t29]) (j:=8) hcl40 hcc40 (show 11≤12 from by decide) (x':=(⟨(rd_T31 x8_1 t25).f0,(rd_T31 x8_1 t25).f1,(⟨(rd_T31 x8_1 t25).f2.f0,(rd_T31 x8_1 t25).f2.f1,(rd_T31 x8_1 t25).f2.f2⟩:S27),(⟨(rd_T31 x8_1 t25).f3.f0,(rd_T31 x8_1 t25).f3.f1,(rd_T31 x8_1 t25).f3.f2⟩:S27),(⟨t27,t28,t29⟩:S27),(rd_T31 x8_1 t25).f5⟩:S31)) (k31_mkM _ _ _ (⟨(rd_T31 x8_1 t25).f0,(rd_T31 x8_1 t25).f1,(⟨(rd_T31 x8_1 t25).f2.f0,(rd_T31 x8_1 t25).f2.f1,(rd_T31 x8_1 t25).f2.f2⟩:S27),(⟨(rd_T31 x8_1 t25).f3.f0,(rd_T31 x8_1 t25).f3.f1,(rd_T31 x8_1 t25).f3.f2⟩:S27),(⟨t27,t28,t29⟩:S27),(rd_T31 x8_1 t25).f5⟩:S31)) (fun _ hk=>hk)).1
          rw [←Ny30.out] at HP40
          have HQ40:=Aside0.mk HP40
          clear hcl40 hcc40 hfr40 hM40 HP40
          refine hK.out _ _ ⟨(blk_cell BK1.out 0).trans rfl,(blk_cell BK1.out 1).trans rfl,(blk_cell BK1.out 2).trans rfl,HS3_,HS4_,HS5_,HS6_,HS7_,HS8_,HS9_,HS10_,HS11_,HS12_,HS13_,HS14_⟩ (fun hHeld=> ?_)
          clear hK K
          refine no_ (N:=some 45) ?_
          refine pu_ (i:=9) (N:=some 46) (bt_ 12 1023) HT_ ?_
          refine pu_ (i:=10) (N:=some 47) (bt_ 12 2047) HT_ ?_
          refine last_ (i:=11) (N:=none) (bt_ 12 4095) rfl rfl (one_of HT_.out (by kernel_rfl)) (by decide) (fun K hK=> ?_)
          refine skip_ (w1:= ?_) (by rfl) rfl ?_ ?_
          rotate_left
          ·go_simp
           rfl
          refine hK.out _ _ ?_
          clear hK K
          refine done_ (done_of HT_.out (by kernel_rfl)) ?_
          try go_wp2
          have n0_:Aside0 (Kd.R Kd.string 9 (((w39.setCell ⟨go34,(t25:Int).toNat*12+8,none⟩ (.int .i64 t27)).setCell ⟨go34,(t25:Int).toNat*12+9,none⟩ (.int .i64 t28)).setCell ⟨go34,(t25:Int).toNat*12+10,none⟩ (.int .i64 t29)) w.heap.size (fun _=>True) (.slice (some ad24) t3.length co26) t3):=⟨by (with_reducible repeat (first|apply Kd.R_alloc|apply Kd.R_drewN|apply Kd.R_drew));exact Kd.R_mono (Kd.R_far (p:=⟨go34,(t25:Int).toNat*12+10,none⟩) (Kd.R_far (p:=⟨go34,(t25:Int).toNat*12+9,none⟩) (Kd.R_far (p:=⟨go34,(t25:Int).toNat*12+8,none⟩) (Kd.R_types HO_7.out GG34.out (by decide)) (fun _ hk=>hk.2) (.int .i64 t27)) (fun _ hk=>hk.2) (.int .i64 t28)) (fun _ hk=>hk.2) (.int .i64 t29)) (fun _ hk=>trivial)⟩
          have n1_:Aside0 (Kd.R k31 31 (((w39.setCell ⟨go34,(t25:Int).toNat*12+8,none⟩ (.int .i64 t27)).setCell ⟨go34,(t25:Int).toNat*12+9,none⟩ (.int .i64 t28)).setCell ⟨go34,(t25:Int).toNat*12+10,none⟩ (.int .i64 t29)) w.heap.size (fun _=>True) (.slice (some ⟨go34,0,none⟩) x8_1.length co37) y30):=⟨by (with_reducible repeat (first|apply Kd.R_alloc|apply Kd.R_drewN|apply Kd.R_drew));exact HQ40.out⟩
          have n2_:Aside0 ((((w39.setCell ⟨go34,(t25:Int).toNat*12+8,none⟩ (.int .i64 t27)).setCell ⟨go34,(t25:Int).toNat*12+9,none⟩ (.int .i64 t28)).setCell ⟨go34,(t25:Int).toNat*12+10,none⟩ (.int .i64 t29)).heap[gb1]?=some (.cells #[.int .i64 a2_0, .int .i64 a2_1, .int .i64 a2_2] 27 (0,0))):=⟨by refine zk_ ?_;refine blk_far ?_ (by have h_:=Kd.R_ne HO_8.out BK1.out (by decide);intro e_;exact h_ (by rw [e_];rfl)) _;refine zk_ ?_;refine blk_far ?_ (by have h_:=Kd.R_ne HO_8.out BK1.out (by decide);intro e_;exact h_ (by rw [e_];rfl)) _;refine zk_ ?_;refine blk_far ?_ (by have h_:=Kd.R_ne HO_8.out BK1.out (by decide);intro e_;exact h_ (by rw [e_];rfl)) _;refine zk_ ?_;exact BK1.out⟩
          have n3_:Aside0 ((((w39.setCell ⟨go34,(t25:Int).toNat*12+8,none⟩ (.int .i64 t27)).setCell ⟨go34,(t25:Int).toNat*12+9,none⟩ (.int .i64 t28)).setCell ⟨go34,(t25:Int).toNat*12+10,none⟩ (.int .i64 t29)).heap[gb2]?=some (.cells #[.slice none 0 0, .int .i64 x3001_1] 67 (0,0))):=⟨by refine zk_ ?_;refine blk_far ?_ (by have h_:=Kd.R_ne HO_8.out BK2.out (by decide);intro e_;exact h_ (by rw [e_];rfl)) _;refine zk_ ?_;refine blk_far ?_ (by have h_:=Kd.R_ne HO_8.out BK2.out (by decide);intro e_;exact h_ (by rw [e_];rfl)) _;refine zk_ ?_;refine blk_far ?_ (by have h_:=Kd.R_ne HO_8.out BK2.out (by decide);intro e_;exact h_ (by rw [e_];rfl)) _;refine zk_ ?_;exact BK2.out⟩
          have n4_:Aside0 (Below w.heap.size w (((w39.setCell ⟨go34,(t25:Int).toNat*12+8,none⟩ (.int .i64 t27)).setCell ⟨go34,(t25:Int).toNat*12+9,none⟩ (.int .i64 t28)).setCell ⟨go34,(t25:Int).toNat*12+10,none⟩ (.int .i64 t29))):=⟨by repeat (first|(with_reducible first|exact HB.out|apply below_alloc|apply pw_below_drewN|apply below_drew1|refine below_set ?_ GB34.out|refine below_set ?_ GB34.out|refine below_set ?_ GB34.out|refine below_set ?_ GE1.out|refine below_set ?_ GE2.out)|exact HB.out)⟩
          (try clear HO_7)
          (try clear HO_8)
          (try clear BK1)
          (try clear BK2)
          (try clear HB)
          generalize (((w39.setCell ⟨go34,(t25:Int).toNat*12+8,none⟩ (.int .i64 t27)).setCell ⟨go34,(t25:Int).toNat*12+9,none⟩ (.int .i64 t28)).setCell ⟨go34,(t25:Int).toNat*12+10,none⟩ (.int .i64 t29))=w41 at n0_ n1_ n2_ n3_ n4_ ⊢
          have HO_7:=n0_
          have HO_8:=n1_
          have BK1:=n2_
          have BK2:=n3_
          have HB:=n4_
          clear n0_ n1_ n2_ n3_ n4_
          have n0_:=am_ (Kd.R_drew HO_7.out)
          have n1_:=am_ (Kd.R_drew HO_8.out)
          have n2_:=am_ (blk_drew BK1.out)
          have n3_:=am_ (blk_drew BK2.out)
          have n4_:=am_ (below_drew1 HB.out)
          clear HO_7
          clear HO_8
          clear BK1
          clear BK2
          clear HB
          have HO_7:=n0_
          have HO_8:=n1_
          have BK1:=n2_
          have BK2:=n3_
          have HB:=n4_
          clear n0_ n1_ n2_ n3_ n4_
          have p31:0≤(t25:Int):=of_decide_eq_true zq_
          have q31:t25<(y30.length:Int):=(by have h_:(t25:Int)<((x8_1.length:Int):Int):=of_decide_eq_true zq_;first|(have e_:=(Kd.R_reads' HO_8.out).1;omega)|simpa only [Ny30.out,List.length_set] using h_)
          have ql31:((t25:Int)<((x8_1.length:Int):Int))=True:=eq_true (of_decide_eq_true zq_)
          obtain ⟨ad31,e31,hx31_0,hx31_1,hx31_2,hx31_3,hx31_4,hx31_5,hx31_6,hx31_7,hx31_8,hx31_9,hx31_10,hx31_11⟩:=at_T31 (Kd.R_reads' HO_8.out).2.2 t25 p31 q31
          obtain rfl:(⟨go34,0,none⟩:Addr)=ad31:=(by injection e31)
          (first|simp only [add_plain] at hx31_0|simp only [add_at] at hx31_0|simp only [Addr.add,Nat.zero_add] at hx31_0|skip)
          (first|simp only [add_plain] at hx31_1|simp only [add_at] at hx31_1|simp only [Addr.add,Nat.zero_add] at hx31_1|skip)
          (first|simp only [add_plain] at hx31_2|simp only [add_at] at hx31_2|simp only [Addr.add,Nat.zero_add] at hx31_2|skip)
          (first|simp only [add_plain] at hx31_3|simp only [add_at] at hx31_3|simp only [Addr.add,Nat.zero_add] at hx31_3|skip)
          (first|simp only [add_plain] at hx31_4|simp only [add_at] at hx31_4|simp only [Addr.add,Nat.zero_add] at hx31_4|skip)
          (first|simp only [add_plain] at hx31_5|simp only [add_at] at hx31_5|simp only [Addr.add,Nat.zero_add] at hx31_5|skip)
          (first|simp only [add_plain] at hx31_6|simp only [add_at] at hx31_6|simp only [Addr.add,Nat.zero_add] at hx31_6|skip)
          (first|simp only [add_plain] at hx31_7|simp only [add_at] at hx31_7|simp only [Addr.add,Nat.zero_add] at hx31_7|skip)
          (first|simp only [add_plain] at hx31_8|simp only [add_at] at hx31_8|simp only [Addr.add,Nat.zero_add] at hx31_8|skip)
          (first|simp only [add_plain] at hx31_9|simp only [add_at] at hx31_9|simp only [Addr.add,Nat.zero_add] at hx31_9|skip)
          (first|simp only [add_plain] at hx31_10|simp only [add_at] at hx31_10|simp only [Addr.add,Nat.zero_add] at hx31_10|skip)
          (first|simp only [add_plain] at hx31_11|simp only [add_at] at hx31_11|simp only [Addr.add,Nat.zero_add] at hx31_11|skip)
          replace p31:=eq_true p31
          replace q31:=eq_true q31
          have p32:0≤(t25:Int):=of_decide_eq_true zq_
          have q32:t25<(y30.length:Int):=(by have h_:(t25:Int)<((x8_1.length:Int):Int):=of_decide_eq_true zq_;first|(have e_:=(Kd.R_reads' HO_8.out).1;omega)|simpa only [Ny30.out,List.length_set] using h_)
          have ql32:((t25:Int)<((x8_1.length:Int):Int))=True:=eq_true (of_decide_eq_true zq_)
          obtain ⟨ad32,e32,hx32_0,hx32_1,hx32_2,hx32_3,hx32_4,hx32_5,hx32_6,hx32_7,hx32_8,hx32_9,hx32_10,hx32_11⟩:=at_T31 (Kd.R_reads' HO_8.out).2.2 t25 p32 q32
          obtain rfl:(⟨go34,0,none⟩:Addr)=ad32:=(by injection e32)
          (first|simp only [add_plain] at hx32_0|simp only [add_at] at hx32_0|simp only [Addr.add,Nat.zero_add] at hx32_0|skip)
          (first|simp only [add_plain] at hx32_1|simp only [add_at] at hx32_1|simp only [Addr.add,Nat.zero_add] at hx32_1|skip)
          (first|simp only [add_plain] at hx32_2|simp only [add_at] at hx32_2|simp only [Addr.add,Nat.zero_add] at hx32_2|skip)
          (first|simp only [add_plain] at hx32_3|simp only [add_at] at hx32_3|simp only [Addr.add,Nat.zero_add] at hx32_3|skip)
          (first|simp only [add_plain] at hx32_4|simp only [add_at] at hx32_4|simp only [Addr.add,Nat.zero_add] at hx32_4|skip)
          (first|simp only [add_plain] at hx32_5|simp only [add_at] at hx32_5|simp only [Addr.add,Nat.zero_add] at hx32_5|skip)
          (first|simp only [add_plain] at hx32_6|simp only [add_at] at hx32_6|simp only [Addr.add,Nat.zero_add] at hx32_6|skip)
          (first|simp only [add_plain] at hx32_7|simp only [add_at] at hx32_7|simp only [Addr.add,Nat.zero_add] at hx32_7|skip)
          (first|simp only [add_plain] at hx32_8|simp only [add_at] at hx32_8|simp only [Addr.add,Nat.zero_add] at hx32_8|skip)
          (first|simp only [add_plain] at hx32_9|simp only [add_at] at hx32_9|simp only [Addr.add,Nat.zero_add] at hx32_9|skip)
          (first|simp only [add_plain] at hx32_10|simp only [add_at] at hx32_10|simp only [Addr.add,Nat.zero_add] at hx32_10|skip)
          (first|simp only [add_plain] at hx32_11|simp only [add_at] at hx32_11|simp only [Addr.add,Nat.zero_add] at hx32_11|skip)
          replace p32:=eq_true p32
          replace q32:=eq_true q32
          refine start_ (n:=12) (S:=fun w'=>w'.cell? ⟨go34,(t25).toNat*12,none⟩=some (.string ((rd_T31 y30 t25).f0))∧w'.cell? ⟨go34,(t25).toNat*12+1,none⟩=some (.string ((rd_T31 y30 t25).f1))∧w'.cell? ⟨go34,(t25).toNat*12+2,none⟩=some (.int .i64 ((rd_T31 y30 t25).f2.f0))∧w'.cell? ⟨go34,(t25).toNat*12+3,none⟩=some (.int .i64 ((rd_T31 y30 t25).f2.f1))∧w'.cell? ⟨go34,(t25).toNat*12+4,none⟩=some (.int .i64 ((rd_T31 y30 t25).f2.f2))∧w'.cell? ⟨go34,(t25).toNat*12+5,none⟩=some (.int .i64 ((rd_T31 y30 t25).f3.f0))∧w'.cell? ⟨go34,(t25).toNat*12+6,none⟩=some (.int .i64 ((rd_T31 y30 t25).f3.f1))∧w'.cell? ⟨go34,(t25).toNat*12+7,none⟩=some (.int .i64 ((rd_T31 y30 t25).f3.f2))∧w'.cell? ⟨go34,(t25).toNat*12+8,none⟩=some (.int .i64 ((rd_T31 y30 t25).f4.f0))∧w'.cell? ⟨go34,(t25).toNat*12+9,none⟩=some (.int .i64 ((rd_T31 y30 t25).f4.f1))∧w'.cell? ⟨go34,(t25).toNat*12+10,none⟩=some (.int .i64 ((rd_T31 y30 t25).f4.f2))∧w'.cell? ⟨go34,(t25).toNat*12+11,none⟩=some (.int .i64 ((rd_T31 y30 t25).f5))∧w'.cell? ⟨go34,(t25).toNat*12,none⟩=some (.string ((rd_T31 y30 t25).f0))∧w'.cell? ⟨go34,(t25).toNat*12+1,none⟩=some (.string ((rd_T31 y30 t25).f1))∧w'.cell? ⟨go34,(t25).toNat*12+2,none⟩=some (.int .i64 ((rd_T31 y30 t25).f2.f0))∧w'.cell? ⟨go34,(t25).toNat*12+3,none⟩=some (.int .i64 ((rd_T31 y30 t25).f2.f1))∧w'.cell? ⟨go34,(t25).toNat*12+4,none⟩=some (.int .i64 ((rd_T31 y30 t25).f2.f2))∧w'.cell? ⟨go34,(t25).toNat*12+5,none⟩=some (.int .i64 ((rd_T31 y30 t25).f3.f0))∧w'.cell? ⟨go34,(t25).toNat*12+6,none⟩=some (.int .i64 ((rd_T31 y30 t25).f3.f1))∧w'.cell? ⟨go34,(t25).toNat*12+7,none⟩=some (.int .i64 ((rd_T31 y30 t25).f3.f2))∧w'.cell? ⟨go34,(t25).toNat*12+8,none⟩=some (.int .i64 ((rd_T31 y30 t25).f4.f0))∧w'.cell? ⟨go34,(t25).toNat*12+9,none⟩=some (.int .i64 ((rd_T31 y30 t25).f4.f1))∧w'.cell? ⟨go34,(t25).toNat*12+10,none⟩=some (.int .i64 ((rd_T31 y30 t25).f4.f2))∧w'.cell? ⟨go34,(t25).toNat*12+11,none⟩=some (.int .i64 ((rd_T31 y30 t25).f5))) (ds:=[]) (bt_ 12 0) (by kernel_rfl) rfl rfl ⟨hx31_0,hx31_1,hx31_2,hx31_3,hx31_4,hx31_5,hx31_6,hx31_7,hx31_8,hx31_9,hx31_10,hx31_11,hx32_0,hx32_1,hx32_2,hx32_3,hx32_4,hx32_5,hx32_6,hx32_7,hx32_8,hx32_9,hx32_10,hx32_11⟩ (fun hHeld=> ?_);refine with_tabW r10_Admit.tab12 r10_Admit.bits12 (fun HT_ HW_=> ?_)
          generalize w41.drew=w42 at HO_7 HO_8 BK1 BK2 HB HQ40 hx31_0 hx31_1 hx31_10 hx31_11 hx31_2 hx31_3 hx31_4 hx31_5 hx31_6 hx31_7 hx31_8 hx31_9 hx32_0 hx32_1 hx32_10 hx32_11 hx32_2 hx32_3 hx32_4 hx32_5 hx32_6 hx32_7 hx32_8 hx32_9 hHeld ⊢
          refine pu_ (i:=0) (N:=some 48) (bt_ 12 1) HT_ ?_
          refine pu_ (i:=1) (N:=some 49) (bt_ 12 3) HT_ ?_
          refine pu_ (i:=2) (N:=some 50) (bt_ 12 7) HT_ ?_
          refine pu_ (i:=3) (N:=some 51) (bt_ 12 15) HT_ ?_
          refine pu_ (i:=5) (N:=some 53) (bt_ 12 47) HT_ ?_
          refine pu_ (i:=6) (N:=some 54) (bt_ 12 111) HT_ ?_
          refine pu_ (i:=7) (N:=some 55) (bt_ 12 239) HT_ ?_
          refine pu_ (i:=8) (N:=some 56) (bt_ 12 495) HT_ ?_
          refine tk_ (i:=4) (N:=some 52) (bt_ 12 511) HT_ HW_ hHeld ?_
          refine tk_ (i:=9) (N:=some 57) (bt_ 12 1023) HT_ HW_ hHeld ?_
          refine one_ (i:=10) (N:=some 58) (bt_ 12 2047) rfl rfl (one_of HT_.out (by kernel_rfl)) (by decide) (fun K hK=> ?_)
          refine goes_ Try.func34 (by kernel_rfl) rfl #[.agg #[.int .i64 ((rd_T31 y30 t25).f4.f0), .int .i64 ((rd_T31 y30 t25).f4.f1), .int .i64 ((rd_T31 y30 t25).f4.f2)], .agg #[.int .i64 ((rd_T31 y30 t25).f2.f0), .int .i64 ((rd_T31 y30 t25).f2.f1), .int .i64 ((rd_T31 y30 t25).f2.f2)]] (by rfl) rfl rfl zs_ ?_
          with_reducible refine (r10_Le.calls ((rd_T31 y30 t25).f4.f0) ((rd_T31 y30 t25).f4.f1) ((rd_T31 y30 t25).f4.f2) ((rd_T31 y30 t25).f2.f0) ((rd_T31 y30 t25).f2.f1) ((rd_T31 y30 t25).f2.f2) true _ A35.out).mono ?_
          rintro e w43 ⟨rfl,hb⟩
          have HS0_:=zh_ hb (hHeld.1)
          have HS1_:=zh_ hb (hHeld.2.1)
          have HS2_:=zh_ hb (hHeld.2.2.1)
          have HS3_:=zh_ hb (hHeld.2.2.2.1)
          have HS4_:=zh_ hb (hHeld.2.2.2.2.1)
          have HS5_:=zh_ hb (hHeld.2.2.2.2.2.1)
          have HS6_:=zh_ hb (hHeld.2.2.2.2.2.2.1)
          have HS7_:=zh_ hb (hHeld.2.2.2.2.2.2.2.1)
          have HS8_:=zh_ hb (hHeld.2.2.2.2.2.2.2.2.1)
          have HS9_:=zh_ hb (hHeld.2.2.2.2.2.2.2.2.2.1)
          have HS10_:=zh_ hb (hHeld.2.2.2.2.2.2.2.2.2.2.1)
          have HS11_:=zh_ hb (hHeld.2.2.2.2.2.2.2.2.2.2.2.1)
          have HS12_:=zh_ hb (hHeld.2.2.2.2.2.2.2.2.2.2.2.2.1)
          have HS13_:=zh_ hb (hHeld.2.2.2.2.2.2.2.2.2.2.2.2.2.1)
          have HS14_:=zh_ hb (hHeld.2.2.2.2.2.2.2.2.2.2.2.2.2.2.1)
          have HS15_:=zh_ hb (hHeld.2.2.2.2.2.2.2.2.2.2.2.2.2.2.2.1)
          have HS16_:=zh_ hb (hHeld.2.2.2.2.2.2.2.2.2.2.2.2.2.2.2.2.1)
          have HS17_:=zh_ hb (hHeld.2.2.2.2.2.2.2.2.2.2.2.2.2.2.2.2.2.1)
          have HS18_:=zh_ hb (hHeld.2.2.2.2.2.2.2.2.2.2.2.2.2.2.2.2.2.2.1)
          have HS19_:=zh_ hb (hHeld.2.2.2.2.2.2.2.2.2.2.2.2.2.2.2.2.2.2.2.1)
          have HS20_:=zh_ hb (hHeld.2.2.2.2.2.2.2.2.2.2.2.2.2.2.2.2.2.2.2.2.1)
          have HS21_:=zh_ hb (hHeld.2.2.2.2.2.2.2.2.2.2.2.2.2.2.2.2.2.2.2.2.2.1)
          have HS22_:=zh_ hb (hHeld.2.2.2.2.2.2.2.2.2.2.2.2.2.2.2.2.2.2.2.2.2.2.1)
          have HS23_:=zh_ hb (hHeld.2.2.2.2.2.2.2.2.2.2.2.2.2.2.2.2.2.2.2.2.2.2.2)
          refine ⟨_,rfl, ?_⟩
          have n0_:=am_ (Kd.R_below (zr_ HO_7) hb)
          have n1_:=am_ (Kd.R_below (zr_ HO_8) hb)
          have n2_:=am_ (blk_below (zb_ BK1) hb)
          have n3_:=am_ (blk_below (zb_ BK2) hb)
          have n4_:=am_ (below_step (zl2_ HB GE1 GE2) hb)
          clear HO_7
          clear HO_8
          clear BK1
          clear BK2
          clear HB
          have HO_7:=n0_
          have HO_8:=n1_
          have BK1:=n2_
          have BK2:=n3_
          have HB:=n4_
          clear n0_ n1_ n2_ n3_ n4_
          (try clear hb)
          (try clear hb2)
          (try clear hk)
          (try clear hi)
          refine hK.out _ _ ⟨HS0_,HS1_,HS2_,HS3_,HS4_,HS5_,HS6_,HS7_,HS8_,HS9_,HS10_,HS11_,HS12_,HS13_,HS14_,HS15_,HS16_,HS17_,HS18_,HS19_,HS20_,HS21_,HS22_,HS23_⟩ (fun hHeld=> ?_)
          clear hK K
          refine no_ (N:=some 58) ?_
          refine pu_ (i:=11) (N:=some 59) (bt_ 12 4095) HT_ ?_
          refine done_ (done_of HT_.out (by kernel_rfl)) ?_
          try go_wp2
          go_roundg k1
          case measure=>have:=HK1.out;omega
          case rel=>exact ⟨(y30),(wrap64 (x9_1+1)),(x3001_1),(by first|rfl|(simp;done)|(simp [*];done)),H',⟨by have:=HK1.out;omega⟩,⟨by (with_reducible repeat (first|apply Kd.R_alloc|apply Kd.R_drewN|apply Kd.R_drew));exact HO_7.out⟩,⟨by (with_reducible repeat (first|apply Kd.R_alloc|apply Kd.R_drewN|apply Kd.R_drew));exact HO_8.out⟩,⟨by refine zk_ ?_;exact BK1.out⟩,⟨by refine zk_ ?_;exact BK2.out⟩,⟨zl2_ HB GE1 GE2⟩⟩
         ·replace c36:=Bool.eq_false_iff.mpr c36
          subst c36
          have H1:((r10_no.f 12).bind fun bt34=>(some (bt34.1,bt34.2)))=some (r1,r2):=by rw [if_neg (show¬(false=true) by decide)] at H;exact H
          clear H
          have H:=H1
          clear H1
          replace H:=Option.bind_eq_some_iff.mp H
          obtain ⟨⟨t34,t37⟩,A440,H⟩:=H
          replace H:(some (t34,t37))=some (r1,r2):=H
          have A44:=Aside0.mk A440
          clear A440
          simp only [Option.some.injEq,Prod.mk.injEq] at H
          obtain ⟨rfl,rfl⟩:=H
          have p24:0≤(x9_1:Int):=of_decide_eq_true zq_
          have q24:x9_1<(t3.length:Int):=of_decide_eq_true zq_
          obtain ⟨ad24,e24,hx24_0⟩:=Kd.at_string (Kd.R_reads' HO_7.out).2.2 x9_1 p24 q24
          cases e24
          replace p24:=eq_true p24
          replace q24:=eq_true q24
          obtain ⟨Ao45,co45,eo45⟩:=Kd.R_slice HO_8.out
          subst eo45
          try go_wp2_with ((with_reducible refine gate_callee (f:=50) rfl ?_);refine goesL_ (some 36) rfl rfl Try.func50 (by kernel_rfl) rfl #[.slice Ao45 x8_1.length co45, .string (rdOf ByteArray.empty t3 x9_1)] rfl zs_ ?_;(with_reducible refine (r10_Find.calls k1 _ _ x8_1 (rdOf ByteArray.empty t3 x9_1) t25 _ ?side1 ?side2 A30.out).mono ?_);(case side1=>repeat (first|exact (Kd.R_reads' HO_8.out).2.2|(with_reducible refine Kd.C_alloc ?_ _)|(with_reducible refine Kd.C_drewN ?_ _)|(with_reducible refine Kd.C_drew ?_)));(case side2=>exact (Kd.R_reads' HO_8.out).2.1);rintro e w' ⟨rfl,⟨nd,rfl⟩⟩;refine ⟨_,rfl, ?_⟩;(try (rw [drewN_self wr];generalize hq_:World.drewN wr _=wr;have n0_:Aside0 (Kd.R Kd.string 9 wr w.heap.size (fun _=>True) (.slice (some ad24) t3.length co26) t3):=⟨by rw [←hq_];exact (zr_ HO_7)⟩;have n1_:Aside0 (Kd.R k31 31 wr w.heap.size (fun _=>True) (.slice Ao45 x8_1.length co45) x8_1):=⟨by rw [←hq_];exact (zr_ HO_8)⟩;have n2_:Aside0 (wr.heap[gb1]?=some (.cells #[.int .i64 a2_0, .int .i64 a2_1, .int .i64 a2_2] 27 (0,0))):=⟨by rw [←hq_];exact (zb_ BK1)⟩;have n3_:Aside0 (wr.heap[gb2]?=some (.cells #[.slice none 0 0, .int .i64 x3001_1] 67 (0,0))):=⟨by rw [←hq_];exact (zb_ BK2)⟩;have n4_:Aside0 (Below w.heap.size w wr):=⟨by rw [←hq_];exact (zl2_ HB GE1 GE2)⟩;clear HO_7 HO_8 BK1 BK2 HB hq_;have HO_7:=n0_;have HO_8:=n1_;have BK1:=n2_;have BK2:=n3_;have HB:=n4_;clear n0_ n1_ n2_ n3_ n4_)))
          have n0_:=am_ (Kd.R_drew HO_7.out)
          have n1_:=am_ (Kd.R_drew HO_8.out)
          have n2_:=am_ (blk_drew BK1.out)
          have n3_:=am_ (blk_drew BK2.out)
          have n4_:=am_ (below_drew1 HB.out)
          clear HO_7
          clear HO_8
          clear BK1
          clear BK2
          clear HB
          have HO_7:=n0_
          have HO_8:=n1_
          have BK1:=n2_
          have BK2:=n3_
          have HB:=n4_
          clear n0_ n1_ n2_ n3_ n4_
          have p26:0≤(t25:Int):=of_decide_eq_true zq_
          have q26:t25<(x8_1.length:Int):=of_decide_eq_true zq_
          obtain ⟨ad26,e26,hx26_0,hx26_1,hx26_2,hx26_3,hx26_4,hx26_5,hx26_6,hx26_7,hx26_8,hx26_9,hx26_10,hx26_11⟩:=at_T31 (Kd.R_reads' HO_8.out).2.2 t25 p26 q26
          cases e26
          replace p26:=eq_true p26
          replace q26:=eq_true q26
          refine start_ (n:=12) (S:=fun w'=>w'.cell? ⟨gb1,0,none⟩=some (.int .i64 a2_0)∧w'.cell? ⟨gb1,1,none⟩=some (.int .i64 a2_1)∧w'.cell? ⟨gb1,2,none⟩=some (.int .i64 a2_2)∧w'.cell? (ad26.add ((t25).toNat*12))=some (.string ((rd_T31 x8_1 t25).f0))∧w'.cell? ⟨(ad26.add ((t25).toNat*12)).block,(ad26.add ((t25).toNat*12)).off+1,none⟩=some (.string ((rd_T31 x8_1 t25).f1))∧w'.cell? ⟨(ad26.add ((t25).toNat*12)).block,(ad26.add ((t25).toNat*12)).off+2,none⟩=some (.int .i64 ((rd_T31 x8_1 t25).f2.f0))∧w'.cell? ⟨(ad26.add ((t25).toNat*12)).block,(ad26.add ((t25).toNat*12)).off+3,none⟩=some (.int .i64 ((rd_T31 x8_1 t25).f2.f1))∧w'.cell? ⟨(ad26.add ((t25).toNat*12)).block,(ad26.add ((t25).toNat*12)).off+4,none⟩=some (.int .i64 ((rd_T31 x8_1 t25).f2.f2))∧w'.cell? ⟨(ad26.add ((t25).toNat*12)).block,(ad26.add ((t25).toNat*12)).off+5,none⟩=some (.int .i64 ((rd_T31 x8_1 t25).f3.f0))∧w'.cell? ⟨(ad26.add ((t25).toNat*12)).block,(ad26.add ((t25).toNat*12)).off+6,none⟩=some (.int .i64 ((rd_T31 x8_1 t25).f3.f1))∧w'.cell? ⟨(ad26.add ((t25).toNat*12)).block,(ad26.add ((t25).toNat*12)).off+7,none⟩=some (.int .i64 ((rd_T31 x8_1 t25).f3.f2))∧w'.cell? ⟨(ad26.add ((t25).toNat*12)).block,(ad26.add ((t25).toNat*12)).off+8,none⟩=some (.int .i64 ((rd_T31 x8_1 t25).f4.f0))∧w'.cell? ⟨(ad26.add ((t25).toNat*12)).block,(ad26.add ((t25).toNat*12)).off+9,none⟩=some (.int .i64 ((rd_T31 x8_1 t25).f4.f1))∧w'.cell? ⟨(ad26.add ((t25).toNat*12)).block,(ad26.add ((t25).toNat*12)).off+10,none⟩=some (.int .i64 ((rd_T31 x8_1 t25).f4.f2))∧w'.cell? ⟨(ad26.add ((t25).toNat*12)).block,(ad26.add ((t25).toNat*12)).off+11,none⟩=some (.int .i64 ((rd_T31 x8_1 t25).f5))) (ds:=[11]) (bt_ 12 0) (by kernel_rfl) rfl rfl ⟨(blk_cell BK1.out 0).trans rfl,(blk_cell BK1.out 1).trans rfl,(blk_cell BK1.out 2).trans rfl,hx26_0,hx26_1,hx26_2,hx26_3,hx26_4,hx26_5,hx26_6,hx26_7,hx26_8,hx26_9,hx26_10,hx26_11⟩ (fun hHeld=> ?_);refine with_tabW r10_Admit.tab11 r10_Admit.bits11 (fun HT_ HW_=> ?_)
          generalize wr.drew=w46 at HO_7 HO_8 BK1 BK2 HB hx26_0 hx26_1 hx26_10 hx26_11 hx26_2 hx26_3 hx26_4 hx26_5 hx26_6 hx26_7 hx26_8 hx26_9 hHeld ⊢
          refine pu_ (i:=0) (N:=some 37) (bt_ 12 1) HT_ ?_
          refine pu_ (i:=1) (N:=some 38) (bt_ 12 3) HT_ ?_
          refine pu_ (i:=2) (N:=some 39) (bt_ 12 7) HT_ ?_
          refine pu_ (i:=3) (N:=some 40) (bt_ 12 15) HT_ ?_
          refine pu_ (i:=4) (N:=some 41) (bt_ 12 31) HT_ ?_
          refine pu_ (i:=5) (N:=some 42) (bt_ 12 63) HT_ ?_
          refine tk_ (i:=6) (N:=some 43) (bt_ 12 127) HT_ HW_ hHeld ?_
          refine tk_ (i:=7) (N:=some 44) (bt_ 12 255) HT_ HW_ hHeld ?_
          refine one_ (i:=8) (N:=some 45) (bt_ 12 511) rfl rfl (one_of HT_.out (by kernel_rfl)) (by decide) (fun K hK=> ?_)
          refine goes_ Try.func63 (by kernel_rfl) rfl #[.agg #[.int .i64 ((rd_T31 x8_1 t25).f4.f0), .int .i64 ((rd_T31 x8_1 t25).f4.f1), .int .i64 ((rd_T31 x8_1 t25).f4.f2)], .agg #[.int .i64 a2_0, .int .i64 a2_1, .int .i64 a2_2]] (by rfl) rfl rfl zs_ ?_
          with_reducible refine (r10_Add.calls ((rd_T31 x8_1 t25).f4.f0) ((rd_T31 x8_1 t25).f4.f1) ((rd_T31 x8_1 t25).f4.f2) a2_0 a2_1 a2_2 t27 t28 t29 _ A33.out).mono ?_
          rintro e w47 ⟨rfl,hb⟩
          have HS3_:=zh_ hb (hHeld.2.2.2.1)
          have HS4_:=zh_ hb (hHeld.2.2.2.2.1)
          have HS5_:=zh_ hb (hHeld.2.2.2.2.2.1)
          have HS6_:=zh_ hb (hHeld.2.2.2.2.2.2.1)
          have HS7_:=zh_ hb (hHeld.2.2.2.2.2.2.2.1)
          have HS8_:=zh_ hb (hHeld.2.2.2.2.2.2.2.2.1)
          have HS9_:=zh_ hb (hHeld.2.2.2.2.2.2.2.2.2.1)
          have HS10_:=zh_ hb (hHeld.2.2.2.2.2.2.2.2.2.2.1)
          have HS11_:=zh_ hb (hHeld.2.2.2.2.2.2.2.2.2.2.2.1)
          have HS12_:=zh_ hb (hHeld.2.2.2.2.2.2.2.2.2.2.2.2.1)
          have HS13_:=zh_ hb (hHeld.2.2.2.2.2.2.2.2.2.2.2.2.2.1)
          have HS14_:=zh_ hb (hHeld.2.2.2.2.2.2.2.2.2.2.2.2.2.2)
          refine ⟨_,rfl, ?_⟩
          have n0_:=am_ (Kd.R_below (zr_ HO_7) hb)
          have n1_:=am_ (Kd.R_below (zr_ HO_8) hb)
          have n2_:=am_ (blk_below (zb_ BK1) hb)
          have n3_:=am_ (blk_below (zb_ BK2) hb)
          have n4_:=am_ (below_step (zl2_ HB GE1 GE2) hb)
          clear HO_7
          clear HO_8
          clear BK1
          clear BK2
          clear HB
          have HO_7:=n0_
          have HO_8:=n1_
          have BK1:=n2_
          have BK2:=n3_
          have HB:=n4_
          clear n0_ n1_ n2_ n3_ n4_
          (try clear hb)
          (try clear hb2)
          (try clear hk)
          (try clear hi)
          have p34:0≤(t25:Int):=of_decide_eq_true zq_
          have q34:(t25:Int)<((x8_1.length:Int):Int):=of_decide_eq_true zq_
          obtain ⟨go34,co34,eo34,gb34,gl34,cl34,HG34⟩:=Kd.R_form HO_8.out (by omega)
          (first|cases eo34|(injection eo34 with ea_ en_ ec_;(first|subst ea_|(injection ea_ with ea_;subst ea_));subst ec_;clear en_))
          have GB34:=Aside0.mk gb34
          have GG34:=Aside0.mk HG34
          clear gb34 gl34 HG34
          (first|simp only [add_plain] at hx26_0|skip)
          (first|simp only [add_plain] at hx26_1|skip)
          (first|simp only [add_plain] at hx26_2|skip)
          (first|simp only [add_plain] at hx26_3|skip)
          (first|simp only [add_plain] at hx26_4|skip)
          (first|simp only [add_plain] at hx26_5|skip)
          (first|simp only [add_plain] at hx26_6|skip)
          (first|simp only [add_plain] at hx26_7|skip)
          (first|simp only [add_plain] at hx26_8|skip)
          (first|simp only [add_plain] at hx26_9|skip)
          (first|simp only [add_plain] at hx26_10|skip)
          (first|simp only [add_plain] at hx26_11|skip)
          obtain ⟨ce34,hcl34,hM34,hcc34,hfr34⟩:=Kd.R_elem HO_8.out z31 (t25:Int) p34 q34
          obtain rfl:=k31_openM hM34
          have hx34_0:World.cell? _ ⟨go34,(t25:Int).toNat*12,none⟩=some (.string ((rd_T31 x8_1 t25).f0)):=hcc34 0 _ rfl
          have hx34_1:World.cell? _ ⟨go34,(t25:Int).toNat*12+1,none⟩=some (.string ((rd_T31 x8_1 t25).f1)):=hcc34 1 _ rfl
          have hx34_2:World.cell? _ ⟨go34,(t25:Int).toNat*12+2,none⟩=some (.int .i64 ((rd_T31 x8_1 t25).f2.f0)):=hcc34 2 _ rfl
          have hx34_3:World.cell? _ ⟨go34,(t25:Int).toNat*12+3,none⟩=some (.int .i64 ((rd_T31 x8_1 t25).f2.f1)):=hcc34 3 _ rfl
          have hx34_4:World.cell? _ ⟨go34,(t25:Int).toNat*12+4,none⟩=some (.int .i64 ((rd_T31 x8_1 t25).f2.f2)):=hcc34 4 _ rfl
          have hx34_5:World.cell? _ ⟨go34,(t25:Int).toNat*12+5,none⟩=some (.int .i64 ((rd_T31 x8_1 t25).f3.f0)):=hcc34 5 _ rfl
          have hx34_6:World.cell? _ ⟨go34,(t25:Int).toNat*12+6,none⟩=some (.int .i64 ((rd_T31 x8_1 t25).f3.f1)):=hcc34 6 _ rfl
          have hx34_7:World.cell? _ ⟨go34,(t25:Int).toNat*12+7,none⟩=some (.int .i64 ((rd_T31 x8_1 t25).f3.f2)):=hcc34 7 _ rfl
          have hx34_8:World.cell? _ ⟨go34,(t25:Int).toNat*12+8,none⟩=some (.int .i64 ((rd_T31 x8_1 t25).f4.f0)):=hcc34 8 _ rfl
          have hx34_9:World.cell? _ ⟨go34,(t25:Int).toNat*12+9,none⟩=some (.int .i64 ((rd_T31 x8_1 t25).f4.f1)):=hcc34 9 _ rfl
          have hx34_10:World.cell? _ ⟨go34,(t25:Int).toNat*12+10,none⟩=some (.int .i64 ((rd_T31 x8_1 t25).f4.f2)):=hcc34 10 _ rfl
          have hx34_11:World.cell? _ ⟨go34,(t25:Int).toNat*12+11,none⟩=some (.int .i64 ((rd_T31 x8_1 t25).f5)):=hcc34 11 _ rfl
          have hf34_0:World.frozen? _ ⟨go34,(t25:Int).toNat*12,none⟩=false:=hfr34 0
          have hf34_1:World.frozen? _ ⟨go34,(t25:Int).toNat*12+1,none⟩=false:=hfr34 1
          have hf34_2:World.frozen? _ ⟨go34,(t25:Int).toNat*12+2,none⟩=false:=hfr34 2
          have hf34_3:World.frozen? _ ⟨go34,(t25:Int).toNat*12+3,none⟩=false:=hfr34 3
          have hf34_4:World.frozen? _ ⟨go34,(t25:Int).toNat*12+4,none⟩=false:=hfr34 4
          have hf34_5:World.frozen? _ ⟨go34,(t25:Int).toNat*12+5,none⟩=false:=hfr34 5
          have hf34_6:World.frozen? _ ⟨go34,(t25:Int).toNat*12+6,none⟩=false:=hfr34 6
          have hf34_7:World.frozen? _ ⟨go34,(t25:Int).toNat*12+7,none⟩=false:=hfr34 7
          have hf34_8:World.frozen? _ ⟨go34,(t25:Int).toNat*12+8,none⟩=false:=hfr34 8
          have hf34_9:World.frozen? _ ⟨go34,(t25:Int).toNat*12+9,none⟩=false:=hfr34 9
          have hf34_10:World.frozen? _ ⟨go34,(t25:Int).toNat*12+10,none⟩=false:=hfr34 10
          have hf34_11:World.frozen? _ ⟨go34,(t25:Int).toNat*12+11,none⟩=false:=hfr34 11
          clear hcl34 hcc34 hfr34 hM34
          replace p34:=eq_true p34
          replace q34:=eq_true q34
          obtain ⟨ce48,hcl48,hM48,hcc48,hfr48⟩:=Kd.R_elem HO_8.out z31 (t25:Int) (of_decide_eq_true zq_) (by have h_:(t25:Int)<((x8_1.length:Int):Int):=of_decide_eq_true zq_;first|exact h_|(have e_:=(Kd.R_reads' HO_8.out).1;omega)|simpa using h_)
          obtain rfl:=k31_openM hM48
          have HP48:=(Kd.R_seg HO_8.out (t25:Int) (of_decide_eq_true zq_) (by have h_:(t25:Int)<((x8_1.length:Int):Int):=of_decide_eq_true zq_;first|exact h_|(have e_:=(Kd.R_reads' HO_8.out).1;omega)|simpa using h_) (seg:=[.int .i64 t27, .int .i64 t28, .int .i64 t29]) (j:=8) hcl48 hcc48 (show 11≤12 from by decide) (x':=(⟨(rd_T31 x8_1 t25).f0,(rd_T31 x8_1 t25).f1,(⟨(rd_T31 x8_1 t25).f2.f0,(rd_T31 x8_1 t25).f2.f1,(rd_T31 x8_1 t25).f2.f2⟩:S27),(⟨(rd_T31 x8_1 t25).f3.f0,(rd_T31 x8_1 t25).f3.f1,(rd_T31 x8_1 t25).f3.f2⟩:S27),(⟨t27,t28,t29⟩:S27),(rd_T31 x8_1 t25).f5⟩:S31)) (k31_mkM _ _ _ (⟨(rd_T31 x8_1 t25).f0,(rd_T31 x8_1 t25).f1,(⟨(rd_T31 x8_1 t25).f2.f0,(rd_T31 x8_1 t25).f2.f1,(rd_T31 x8_1 t25).f2.f2⟩:S27),(⟨(rd_T31 x8_1 t25).f3.f0,(rd_T31 x8_1 t25).f3.f1,(rd_T31 x8_1 t25).f3.f2⟩:S27),(⟨t27,t28,t29⟩:S27),(rd_T31 x8_1 t25).f5⟩:S31)) (fun _ hk=>hk)).1
          rw [←Ny30.out] at HP48
          have HQ48:=Aside0.mk HP48
          clear hcl48 hcc48 hfr48 hM48 HP48
          refine hK.out _ _ ⟨(blk_cell BK1.out 0).trans rfl,(blk_cell BK1.out 1).trans rfl,(blk_cell BK1.out 2).trans rfl,HS3_,HS4_,HS5_,HS6_,HS7_,HS8_,HS9_,HS10_,HS11_,HS12_,HS13_,HS14_⟩ (fun hHeld=> ?_)
          clear hK K
          refine no_ (N:=some 45) ?_
          refine pu_ (i:=9) (N:=some 46) (bt_ 12 1023) HT_ ?_
          refine pu_ (i:=10) (N:=some 47) (bt_ 12 2047) HT_ ?_
          refine last_ (i:=11) (N:=none) (bt_ 12 4095) rfl rfl (one_of HT_.out (by kernel_rfl)) (by decide) (fun K hK=> ?_)
          refine skip_ (w1:= ?_) (by rfl) rfl ?_ ?_
          rotate_left
          ·go_simp
           rfl
          refine hK.out _ _ ?_
          clear hK K
          refine done_ (done_of HT_.out (by kernel_rfl)) ?_
          have n0_:Aside0 (Kd.R Kd.string 9 (((w47.setCell ⟨go34,(t25:Int).toNat*12+8,none⟩ (.int .i64 t27)).setCell ⟨go34,(t25:Int).toNat*12+9,none⟩ (.int .i64 t28)).setCell ⟨go34,(t25:Int).toNat*12+10,none⟩ (.int .i64 t29)) w.heap.size (fun _=>True) (.slice (some ad24) t3.length co26) t3):=⟨by (with_reducible repeat (first|apply Kd.R_alloc|apply Kd.R_drewN|apply Kd.R_drew));exact Kd.R_mono (Kd.R_far (p:=⟨go34,(t25:Int).toNat*12+10,none⟩) (Kd.R_far (p:=⟨go34,(t25:Int).toNat*12+9,none⟩) (Kd.R_far (p:=⟨go34,(t25:Int).toNat*12+8,none⟩) (Kd.R_types HO_7.out GG34.out (by decide)) (fun _ hk=>hk.2) (.int .i64 t27)) (fun _ hk=>hk.2) (.int .i64 t28)) (fun _ hk=>hk.2) (.int .i64 t29)) (fun _ hk=>trivial)⟩
          have n1_:Aside0 (Kd.R k31 31 (((w47.setCell ⟨go34,(t25:Int).toNat*12+8,none⟩ (.int .i64 t27)).setCell ⟨go34,(t25:Int).toNat*12+9,none⟩ (.int .i64 t28)).setCell ⟨go34,(t25:Int).toNat*12+10,none⟩ (.int .i64 t29)) w.heap.size (fun _=>True) (.slice (some ⟨go34,0,none⟩) x8_1.length co45) y30):=⟨by (with_reducible repeat (first|apply Kd.R_alloc|apply Kd.R_drewN|apply Kd.R_drew));exact HQ48.out⟩
          have n2_:Aside0 ((((w47.setCell ⟨go34,(t25:Int).toNat*12+8,none⟩ (.int .i64 t27)).setCell ⟨go34,(t25:Int).toNat*12+9,none⟩ (.int .i64 t28)).setCell ⟨go34,(t25:Int).toNat*12+10,none⟩ (.int .i64 t29)).heap[gb1]?=some (.cells #[.int .i64 a2_0, .int .i64 a2_1, .int .i64 a2_2] 27 (0,0))):=⟨by refine zk_ ?_;refine blk_far ?_ (by have h_:=Kd.R_ne HO_8.out BK1.out (by decide);intro e_;exact h_ (by rw [e_];rfl)) _;refine zk_ ?_;refine blk_far ?_ (by have h_:=Kd.R_ne HO_8.out BK1.out (by decide);intro e_;exact h_ (by rw [e_];rfl)) _;refine zk_ ?_;refine blk_far ?_ (by have h_:=Kd.R_ne HO_8.out BK1.out (by decide);intro e_;exact h_ (by rw [e_];rfl)) _;refine zk_ ?_;exact BK1.out⟩
          have n3_:Aside0 ((((w47.setCell ⟨go34,(t25:Int).toNat*12+8,none⟩ (.int .i64 t27)).setCell ⟨go34,(t25:Int).toNat*12+9,none⟩ (.int .i64 t28)).setCell ⟨go34,(t25:Int).toNat*12+10,none⟩ (.int .i64 t29)).heap[gb2]?=some (.cells #[.slice none 0 0, .int .i64 x3001_1] 67 (0,0))):=⟨by refine zk_ ?_;refine blk_far ?_ (by have h_:=Kd.R_ne HO_8.out BK2.out (by decide);intro e_;exact h_ (by rw [e_];rfl)) _;refine zk_ ?_;refine blk_far ?_ (by have h_:=Kd.R_ne HO_8.out BK2.out (by decide);intro e_;exact h_ (by rw [e_];rfl)) _;refine zk_ ?_;refine blk_far ?_ (by have h_:=Kd.R_ne HO_8.out BK2.out (by decide);intro e_;exact h_ (by rw [e_];rfl)) _;refine zk_ ?_;exact BK2.out⟩
          have n4_:Aside0 (Below w.heap.size w (((w47.setCell ⟨go34,(t25:Int).toNat*12+8,none⟩ (.int .i64 t27)).setCell ⟨go34,(t25:Int).toNat*12+9,none⟩ (.int .i64 t28)).setCell ⟨go34,(t25:Int).toNat*12+10,none⟩ (.int .i64 t29))):=⟨by repeat (first|(with_reducible first|exact HB.out|apply below_alloc|apply pw_below_drewN|apply below_drew1|refine below_set ?_ GB34.out|refine below_set ?_ GB34.out|refine below_set ?_ GB34.out|refine below_set ?_ GE1.out|refine below_set ?_ GE2.out)|exact HB.out)⟩
          (try clear HO_7)
          (try clear HO_8)
          (try clear BK1)
          (try clear BK2)
          (try clear HB)
          generalize (((w47.setCell ⟨go34,(t25:Int).toNat*12+8,none⟩ (.int .i64 t27)).setCell ⟨go34,(t25:Int).toNat*12+9,none⟩ (.int .i64 t28)).setCell ⟨go34,(t25:Int).toNat*12+10,none⟩ (.int .i64 t29))=w49 at n0_ n1_ n2_ n3_ n4_ ⊢
          have HO_7:=n0_
          have HO_8:=n1_
          have BK1:=n2_
          have BK2:=n3_
          have HB:=n4_
          clear n0_ n1_ n2_ n3_ n4_
          try go_wp2
          have n0_:=am_ (Kd.R_drew HO_7.out)
          have n1_:=am_ (Kd.R_drew HO_8.out)
          have n2_:=am_ (blk_drew BK1.out)
          have n3_:=am_ (blk_drew BK2.out)
          have n4_:=am_ (below_drew1 HB.out)
          clear HO_7
          clear HO_8
          clear BK1
          clear BK2
          clear HB
          have HO_7:=n0_
          have HO_8:=n1_
          have BK1:=n2_
          have BK2:=n3_
          have HB:=n4_
          clear n0_ n1_ n2_ n3_ n4_
          have p31:0≤(t25:Int):=of_decide_eq_true zq_
          have q31:t25<(y30.length:Int):=(by have h_:(t25:Int)<((x8_1.length:Int):Int):=of_decide_eq_true zq_;first|(have e_:=(Kd.R_reads' HO_8.out).1;omega)|simpa only [Ny30.out,List.length_set] using h_)
          have ql31:((t25:Int)<((x8_1.length:Int):Int))=True:=eq_true (of_decide_eq_true zq_)
          obtain ⟨ad31,e31,hx31_0,hx31_1,hx31_2,hx31_3,hx31_4,hx31_5,hx31_6,hx31_7,hx31_8,hx31_9,hx31_10,hx31_11⟩:=at_T31 (Kd.R_reads' HO_8.out).2.2 t25 p31 q31
          obtain rfl:(⟨go34,0,none⟩:Addr)=ad31:=(by injection e31)
          (first|simp only [add_plain] at hx31_0|simp only [add_at] at hx31_0|simp only [Addr.add,Nat.zero_add] at hx31_0|skip)
          (first|simp only [add_plain] at hx31_1|simp only [add_at] at hx31_1|simp only [Addr.add,Nat.zero_add] at hx31_1|skip)
          (first|simp only [add_plain] at hx31_2|simp only [add_at] at hx31_2|simp only [Addr.add,Nat.zero_add] at hx31_2|skip)
          (first|simp only [add_plain] at hx31_3|simp only [add_at] at hx31_3|simp only [Addr.add,Nat.zero_add] at hx31_3|skip)
          (first|simp only [add_plain] at hx31_4|simp only [add_at] at hx31_4|simp only [Addr.add,Nat.zero_add] at hx31_4|skip)
          (first|simp only [add_plain] at hx31_5|simp only [add_at] at hx31_5|simp only [Addr.add,Nat.zero_add] at hx31_5|skip)
          (first|simp only [add_plain] at hx31_6|simp only [add_at] at hx31_6|simp only [Addr.add,Nat.zero_add] at hx31_6|skip)
          (first|simp only [add_plain] at hx31_7|simp only [add_at] at hx31_7|simp only [Addr.add,Nat.zero_add] at hx31_7|skip)
          (first|simp only [add_plain] at hx31_8|simp only [add_at] at hx31_8|simp only [Addr.add,Nat.zero_add] at hx31_8|skip)
          (first|simp only [add_plain] at hx31_9|simp only [add_at] at hx31_9|simp only [Addr.add,Nat.zero_add] at hx31_9|skip)
          (first|simp only [add_plain] at hx31_10|simp only [add_at] at hx31_10|simp only [Addr.add,Nat.zero_add] at hx31_10|skip)
          (first|simp only [add_plain] at hx31_11|simp only [add_at] at hx31_11|simp only [Addr.add,Nat.zero_add] at hx31_11|skip)
          replace p31:=eq_true p31
          replace q31:=eq_true q31
          have p32:0≤(t25:Int):=of_decide_eq_true zq_
          have q32:t25<(y30.length:Int):=(by have h_:(t25:Int)<((x8_1.length:Int):Int):=of_decide_eq_true zq_;first|(have e_:=(Kd.R_reads' HO_8.out).1;omega)|simpa only [Ny30.out,List.length_set] using h_)
          have ql32:((t25:Int)<((x8_1.length:Int):Int))=True:=eq_true (of_decide_eq_true zq_)
          obtain ⟨ad32,e32,hx32_0,hx32_1,hx32_2,hx32_3,hx32_4,hx32_5,hx32_6,hx32_7,hx32_8,hx32_9,hx32_10,hx32_11⟩:=at_T31 (Kd.R_reads' HO_8.out).2.2 t25 p32 q32
          obtain rfl:(⟨go34,0,none⟩:Addr)=ad32:=(by injection e32)
          (first|simp only [add_plain] at hx32_0|simp only [add_at] at hx32_0|simp only [Addr.add,Nat.zero_add] at hx32_0|skip)
          (first|simp only [add_plain] at hx32_1|simp only [add_at] at hx32_1|simp only [Addr.add,Nat.zero_add] at hx32_1|skip)
          (first|simp only [add_plain] at hx32_2|simp only [add_at] at hx32_2|simp only [Addr.add,Nat.zero_add] at hx32_2|skip)
          (first|simp only [add_plain] at hx32_3|simp only [add_at] at hx32_3|simp only [Addr.add,Nat.zero_add] at hx32_3|skip)
          (first|simp only [add_plain] at hx32_4|simp only [add_at] at hx32_4|simp only [Addr.add,Nat.zero_add] at hx32_4|skip)
          (first|simp only [add_plain] at hx32_5|simp only [add_at] at hx32_5|simp only [Addr.add,Nat.zero_add] at hx32_5|skip)
          (first|simp only [add_plain] at hx32_6|simp only [add_at] at hx32_6|simp only [Addr.add,Nat.zero_add] at hx32_6|skip)
          (first|simp only [add_plain] at hx32_7|simp only [add_at] at hx32_7|simp only [Addr.add,Nat.zero_add] at hx32_7|skip)
          (first|simp only [add_plain] at hx32_8|simp only [add_at] at hx32_8|simp only [Addr.add,Nat.zero_add] at hx32_8|skip)
          (first|simp only [add_plain] at hx32_9|simp only [add_at] at hx32_9|simp only [Addr.add,Nat.zero_add] at hx32_9|skip)
          (first|simp only [add_plain] at hx32_10|simp only [add_at] at hx32_10|simp only [Addr.add,Nat.zero_add] at hx32_10|skip)
          (first|simp only [add_plain] at hx32_11|simp only [add_at] at hx32_11|simp only [Addr.add,Nat.zero_add] at hx32_11|skip)
          replace p32:=eq_true p32
          replace q32:=eq_true q32
          refine start_ (n:=12) (S:=fun w'=>w'.cell? ⟨go34,(t25).toNat*12,none⟩=some (.string ((rd_T31 y30 t25).f0))∧w'.cell? ⟨go34,(t25).toNat*12+1,none⟩=some (.string ((rd_T31 y30 t25).f1))∧w'.cell? ⟨go34,(t25).toNat*12+2,none⟩=some (.int .i64 ((rd_T31 y30 t25).f2.f0))∧w'.cell? ⟨go34,(t25).toNat*12+3,none⟩=some (.int .i64 ((rd_T31 y30 t25).f2.f1))∧w'.cell? ⟨go34,(t25).toNat*12+4,none⟩=some (.int .i64 ((rd_T31 y30 t25).f2.f2))∧w'.cell? ⟨go34,(t25).toNat*12+5,none⟩=some (.int .i64 ((rd_T31 y30 t25).f3.f0))∧w'.cell? ⟨go34,(t25).toNat*12+6,none⟩=some (.int .i64 ((rd_T31 y30 t25).f3.f1))∧w'.cell? ⟨go34,(t25).toNat*12+7,none⟩=some (.int .i64 ((rd_T31 y30 t25).f3.f2))∧w'.cell? ⟨go34,(t25).toNat*12+8,none⟩=some (.int .i64 ((rd_T31 y30 t25).f4.f0))∧w'.cell? ⟨go34,(t25).toNat*12+9,none⟩=some (.int .i64 ((rd_T31 y30 t25).f4.f1))∧w'.cell? ⟨go34,(t25).toNat*12+10,none⟩=some (.int .i64 ((rd_T31 y30 t25).f4.f2))∧w'.cell? ⟨go34,(t25).toNat*12+11,none⟩=some (.int .i64 ((rd_T31 y30 t25).f5))∧w'.cell? ⟨go34,(t25).toNat*12,none⟩=some (.string ((rd_T31 y30 t25).f0))∧w'.cell? ⟨go34,(t25).toNat*12+1,none⟩=some (.string ((rd_T31 y30 t25).f1))∧w'.cell? ⟨go34,(t25).toNat*12+2,none⟩=some (.int .i64 ((rd_T31 y30 t25).f2.f0))∧w'.cell? ⟨go34,(t25).toNat*12+3,none⟩=some (.int .i64 ((rd_T31 y30 t25).f2.f1))∧w'.cell? ⟨go34,(t25).toNat*12+4,none⟩=some (.int .i64 ((rd_T31 y30 t25).f2.f2))∧w'.cell? ⟨go34,(t25).toNat*12+5,none⟩=some (.int .i64 ((rd_T31 y30 t25).f3.f0))∧w'.cell? ⟨go34,(t25).toNat*12+6,none⟩=some (.int .i64 ((rd_T31 y30 t25).f3.f1))∧w'.cell? ⟨go34,(t25).toNat*12+7,none⟩=some (.int .i64 ((rd_T31 y30 t25).f3.f2))∧w'.cell? ⟨go34,(t25).toNat*12+8,none⟩=some (.int .i64 ((rd_T31 y30 t25).f4.f0))∧w'.cell? ⟨go34,(t25).toNat*12+9,none⟩=some (.int .i64 ((rd_T31 y30 t25).f4.f1))∧w'.cell? ⟨go34,(t25).toNat*12+10,none⟩=some (.int .i64 ((rd_T31 y30 t25).f4.f2))∧w'.cell? ⟨go34,(t25).toNat*12+11,none⟩=some (.int .i64 ((rd_T31 y30 t25).f5))) (ds:=[]) (bt_ 12 0) (by kernel_rfl) rfl rfl ⟨hx31_0,hx31_1,hx31_2,hx31_3,hx31_4,hx31_5,hx31_6,hx31_7,hx31_8,hx31_9,hx31_10,hx31_11,hx32_0,hx32_1,hx32_2,hx32_3,hx32_4,hx32_5,hx32_6,hx32_7,hx32_8,hx32_9,hx32_10,hx32_11⟩ (fun hHeld=> ?_);refine with_tabW r10_Admit.tab12 r10_Admit.bits12 (fun HT_ HW_=> ?_)
          generalize w49.drew=w50 at HO_7 HO_8 BK1 BK2 HB hx31_0 hx31_1 hx31_10 hx31_11 hx31_2 hx31_3 hx31_4 hx31_5 hx31_6 hx31_7 hx31_8 hx31_9 hx32_0 hx32_1 hx32_10 hx32_11 hx32_2 hx32_3 hx32_4 hx32_5 hx32_6 hx32_7 hx32_8 hx32_9 hHeld ⊢
          refine pu_ (i:=0) (N:=some 48) (bt_ 12 1) HT_ ?_
          refine pu_ (i:=1) (N:=some 49) (bt_ 12 3) HT_ ?_
          refine pu_ (i:=2) (N:=some 50) (bt_ 12 7) HT_ ?_
          refine pu_ (i:=3) (N:=some 51) (bt_ 12 15) HT_ ?_
          refine pu_ (i:=5) (N:=some 53) (bt_ 12 47) HT_ ?_
          refine pu_ (i:=6) (N:=some 54) (bt_ 12 111) HT_ ?_
          refine pu_ (i:=7) (N:=some 55) (bt_ 12 239) HT_ ?_
          refine pu_ (i:=8) (N:=some 56) (bt_ 12 495) HT_ ?_
          refine tk_ (i:=4) (N:=some 52) (bt_ 12 511) HT_ HW_ hHeld ?_
          refine tk_ (i:=9) (N:=some 57) (bt_ 12 1023) HT_ HW_ hHeld ?_
          refine one_ (i:=10) (N:=some 58) (bt_ 12 2047) rfl rfl (one_of HT_.out (by kernel_rfl)) (by decide) (fun K hK=> ?_)
          refine goes_ Try.func34 (by kernel_rfl) rfl #[.agg #[.int .i64 ((rd_T31 y30 t25).f4.f0), .int .i64 ((rd_T31 y30 t25).f4.f1), .int .i64 ((rd_T31 y30 t25).f4.f2)], .agg #[.int .i64 ((rd_T31 y30 t25).f2.f0), .int .i64 ((rd_T31 y30 t25).f2.f1), .int .i64 ((rd_T31 y30 t25).f2.f2)]] (by rfl) rfl rfl zs_ ?_
          with_reducible refine (r10_Le.calls ((rd_T31 y30 t25).f4.f0) ((rd_T31 y30 t25).f4.f1) ((rd_T31 y30 t25).f4.f2) ((rd_T31 y30 t25).f2.f0) ((rd_T31 y30 t25).f2.f1) ((rd_T31 y30 t25).f2.f2) false _ A35.out).mono ?_
          rintro e w51 ⟨rfl,hb⟩
          have HS0_:=zh_ hb (hHeld.1)
          have HS1_:=zh_ hb (hHeld.2.1)
          have HS2_:=zh_ hb (hHeld.2.2.1)
          have HS3_:=zh_ hb (hHeld.2.2.2.1)
          have HS4_:=zh_ hb (hHeld.2.2.2.2.1)
          have HS5_:=zh_ hb (hHeld.2.2.2.2.2.1)
          have HS6_:=zh_ hb (hHeld.2.2.2.2.2.2.1)
          have HS7_:=zh_ hb (hHeld.2.2.2.2.2.2.2.1)
          have HS8_:=zh_ hb (hHeld.2.2.2.2.2.2.2.2.1)
          have HS9_:=zh_ hb (hHeld.2.2.2.2.2.2.2.2.2.1)
          have HS10_:=zh_ hb (hHeld.2.2.2.2.2.2.2.2.2.2.1)
          have HS11_:=zh_ hb (hHeld.2.2.2.2.2.2.2.2.2.2.2.1)
          have HS12_:=zh_ hb (hHeld.2.2.2.2.2.2.2.2.2.2.2.2.1)
          have HS13_:=zh_ hb (hHeld.2.2.2.2.2.2.2.2.2.2.2.2.2.1)
          have HS14_:=zh_ hb (hHeld.2.2.2.2.2.2.2.2.2.2.2.2.2.2.1)
          have HS15_:=zh_ hb (hHeld.2.2.2.2.2.2.2.2.2.2.2.2.2.2.2.1)
          have HS16_:=zh_ hb (hHeld.2.2.2.2.2.2.2.2.2.2.2.2.2.2.2.2.1)
          have HS17_:=zh_ hb (hHeld.2.2.2.2.2.2.2.2.2.2.2.2.2.2.2.2.2.1)
          have HS18_:=zh_ hb (hHeld.2.2.2.2.2.2.2.2.2.2.2.2.2.2.2.2.2.2.1)
          have HS19_:=zh_ hb (hHeld.2.2.2.2.2.2.2.2.2.2.2.2.2.2.2.2.2.2.2.1)
          have HS20_:=zh_ hb (hHeld.2.2.2.2.2.2.2.2.2.2.2.2.2.2.2.2.2.2.2.2.1)
          have HS21_:=zh_ hb (hHeld.2.2.2.2.2.2.2.2.2.2.2.2.2.2.2.2.2.2.2.2.2.1)
          have HS22_:=zh_ hb (hHeld.2.2.2.2.2.2.2.2.2.2.2.2.2.2.2.2.2.2.2.2.2.2.1)
          have HS23_:=zh_ hb (hHeld.2.2.2.2.2.2.2.2.2.2.2.2.2.2.2.2.2.2.2.2.2.2.2)
          refine ⟨_,rfl, ?_⟩
          have n0_:=am_ (Kd.R_below (zr_ HO_7) hb)
          have n1_:=am_ (Kd.R_below (zr_ HO_8) hb)
          have n2_:=am_ (blk_below (zb_ BK1) hb)
          have n3_:=am_ (blk_below (zb_ BK2) hb)
          have n4_:=am_ (below_step (zl2_ HB GE1 GE2) hb)
          clear HO_7
          clear HO_8
          clear BK1
          clear BK2
          clear HB
          have HO_7:=n0_
          have HO_8:=n1_
          have BK1:=n2_
          have BK2:=n3_
          have HB:=n4_
          clear n0_ n1_ n2_ n3_ n4_
          (try clear hb)
          (try clear hb2)
          (try clear hk)
          (try clear hi)
          refine hK.out _ _ ⟨HS0_,HS1_,HS2_,HS3_,HS4_,HS5_,HS6_,HS7_,HS8_,HS9_,HS10_,HS11_,HS12_,HS13_,HS14_,HS15_,HS16_,HS17_,HS18_,HS19_,HS20_,HS21_,HS22_,HS23_⟩ (fun hHeld=> ?_)
          clear hK K
          refine no_ (N:=some 58) ?_
          refine pu_ (i:=11) (N:=some 59) (bt_ 12 4095) HT_ ?_
          refine done_ (done_of HT_.out (by kernel_rfl)) ?_
          try go_wp2_with ((with_reducible refine gate_callee (f:=113) rfl ?_);refine goesL_ (some 60) rfl rfl Try.func113 (by kernel_rfl) rfl #[.int .i64 12] rfl zs_ ?_;(with_reducible refine (r10_no.calls 12 t34 t37 _ A44.out).mono ?_);rintro e w52 ⟨v35,rfl,ho0,hb⟩;refine ⟨_,rfl, ?_⟩;have n0_:=am_ (Kd.R_below (zr_ HO_7) hb);have n1_:=am_ (Kd.R_elder' (zr_ HO_8) (Kd.R_base ho0) hb);have n2_:=am_ (Kd.R_lower (Kd.R_new' ho0 (Kd.R_lt (zr_ HO_8))) (below_size (zl2_ HB GE1 GE2)));have n3_:=am_ (blk_below (zb_ BK1) hb);have n4_:=am_ (blk_below (zb_ BK2) hb);have n5_:=am_ (below_step (zl2_ HB GE1 GE2) hb);clear HO_7;clear HO_8;clear BK1;clear BK2;clear HB;have HO_7:=n0_;have HO_8:=n1_;have HO36:=n2_;have BK1:=n3_;have BK2:=n4_;have HB:=n5_;clear n0_ n1_ n2_ n3_ n4_ n5_;(try clear hb);(try clear hb2);(try clear hk);(try clear hi);(try clear ho0);obtain ⟨Ao53,co53,eo53⟩:=Kd.R_slice HO36.out;subst eo53;have hnb54:=NB2_1.out;have hnc54:=NB1_2.out;have hcz55_0:w52.cell? ⟨gb2,0,none⟩=some (.slice none 0 0):=(blk_cell BK2.out 0).trans rfl;have hcz55_1:w52.cell? ⟨gb2,1,none⟩=some (.int .i64 x3001_1):=(blk_cell BK2.out 1).trans rfl;have hfz55_0:=blk_frozen BK2.out 0;have hfz55_1:=blk_frozen BK2.out 1)
          refine bodyPost_ret (results_cell_row rfl _ _ gb2 67 #[.slice Ao53 t34.length co53, .int .i64 t37] (0,0) _ rfl (by refine zk_ ?_;refine blk_put (cs:=#[.slice Ao53 t34.length co53, .int .i64 x3001_1]) ?_ 1 _ rfl;refine zk_ ?_;refine blk_put (cs:=#[.slice none 0 0, .int .i64 x3001_1]) ?_ 0 _ rfl;refine zk_ ?_;exact BK2.out) Try.underlying67 rfl (by kernel_rfl)) rfl ?_
          exact ⟨_,by first|rfl|(simp [errW_none,errW_some]<;>rfl)|(simp [*,errW_none,errW_some]<;>rfl),by (with_reducible repeat (first|apply Kd.R_alloc|apply Kd.R_drewN|apply Kd.R_drew));exact Kd.R_mono (Kd.R_far (p:=⟨gb2,1,none⟩) (Kd.R_far (p:=⟨gb2,0,none⟩) (Kd.R_types HO36.out BK2.out (by decide)) (fun _ hk=>hk.2) (.slice Ao53 t34.length co53)) (fun _ hk=>hk.2) (.int .i64 t37)) (fun _ hk=>trivial),zl2_ HB GE1 GE2⟩
        ·rw [if_neg c32] at H
         exact absurd H (by simp)
       ·rw [if_neg c31] at H
        exact absurd H (by simp)
      ·rw [if_neg c29] at H
       exact absurd H (by simp)
     ·rw [if_neg c28] at H
      have c28b0:decide (x9_1<(t3.length:Int))=false:=decide_eq_false c28
      clear c28
      replace H:=Option.bind_eq_some_iff.mp H
      obtain ⟨t18,A560,H⟩:=H
      replace H:(if 0≤t18 then (if t18<(x8_1.length:Int) then ((r10_Add.f ((rd_T31 x8_1 t18).f3.f0) ((rd_T31 x8_1 t18).f3.f1) ((rd_T31 x8_1 t18).f3.f2) a2_0 a2_1 a2_2).bind fun bt20=>(some ((x8_1.set (t18:Int).toNat (⟨(rd_T31 x8_1 t18).f0,(rd_T31 x8_1 t18).f1,(⟨(rd_T31 x8_1 t18).f2.f0,(rd_T31 x8_1 t18).f2.f1,(rd_T31 x8_1 t18).f2.f2⟩:S27),(⟨bt20.1,bt20.2.1,bt20.2.2⟩:S27),(⟨(rd_T31 x8_1 t18).f4.f0,(rd_T31 x8_1 t18).f4.f1,(rd_T31 x8_1 t18).f4.f2⟩:S27),(rd_T31 x8_1 t18).f5⟩:S31)),0))) else (none)) else (none))=some (r1,r2):=H
      have A56:=Aside0.mk A560
      clear A560
      by_cases c57:0≤t18
      ·rw [if_pos c57] at H
       have c57b0:decide (0≤t18)=true:=decide_eq_true c57
       clear c57
       by_cases c58:t18<(x8_1.length:Int)
       ·rw [if_pos c58] at H
        have c58b0:decide (t18<(x8_1.length:Int))=true:=decide_eq_true c58
        clear c58
        replace H:=Option.bind_eq_some_iff.mp H
        obtain ⟨⟨t20,t21,t22⟩,A590,H⟩:=H
        replace H:(some ((x8_1.set (t18:Int).toNat (⟨(rd_T31 x8_1 t18).f0,(rd_T31 x8_1 t18).f1,(⟨(rd_T31 x8_1 t18).f2.f0,(rd_T31 x8_1 t18).f2.f1,(rd_T31 x8_1 t18).f2.f2⟩:S27),(⟨t20,t21,t22⟩:S27),(⟨(rd_T31 x8_1 t18).f4.f0,(rd_T31 x8_1 t18).f4.f1,(rd_T31 x8_1 t18).f4.f2⟩:S27),(rd_T31 x8_1 t18).f5⟩:S31)),0))=some (r1,r2):=H
        have A59:=Aside0.mk A590
        clear A590
        obtain ⟨y23,hy23⟩: ∃y_:List (S31),y_=(x8_1.set (t18:Int).toNat (⟨(rd_T31 x8_1 t18).f0,(rd_T31 x8_1 t18).f1,(⟨(rd_T31 x8_1 t18).f2.f0,(rd_T31 x8_1 t18).f2.f1,(rd_T31 x8_1 t18).f2.f2⟩:S27),(⟨t20,t21,t22⟩:S27),(⟨(rd_T31 x8_1 t18).f4.f0,(rd_T31 x8_1 t18).f4.f1,(rd_T31 x8_1 t18).f4.f2⟩:S27),(rd_T31 x8_1 t18).f5⟩:S31)):=⟨_,rfl⟩
        replace H:(some (y23,0))=some (r1,r2):=by first|(rw [hy23];with_reducible exact H)|(have H2_:=(Option.bind_some _ _).symm.trans H;rw [hy23];with_reducible exact H2_)|(have H2_:=(Option.bind_some _ _).symm.trans H;with_reducible exact H2_)|with_reducible exact H|(rw [hy23];exact H)|exact H
        have Ny23:=Aside0.mk hy23
        clear hy23
        simp only [Option.some.injEq,Prod.mk.injEq] at H
        obtain ⟨rfl,rfl⟩:=H
        obtain ⟨Ao61,co61,eo61⟩:=Kd.R_slice HO_8.out
        subst eo61
        try go_wp2_with ((with_reducible refine gate_callee (f:=50) rfl ?_);refine goesL_ (some 63) rfl rfl Try.func50 (by kernel_rfl) rfl #[.slice Ao61 x8_1.length co61, .string a1] rfl zs_ ?_;(with_reducible refine (r10_Find.calls k1 _ _ x8_1 a1 t18 _ ?side1 ?side2 A56.out).mono ?_);(case side1=>repeat (first|exact (Kd.R_reads' HO_8.out).2.2|(with_reducible refine Kd.C_alloc ?_ _)|(with_reducible refine Kd.C_drewN ?_ _)|(with_reducible refine Kd.C_drew ?_)));(case side2=>exact (Kd.R_reads' HO_8.out).2.1);rintro e w' ⟨rfl,⟨nd,rfl⟩⟩;refine ⟨_,rfl, ?_⟩;(try (rw [drewN_self wr];generalize hq_:World.drewN wr _=wr;have n0_:Aside0 (Kd.R Kd.string 9 wr w.heap.size (fun _=>True) (.slice Ao26 t3.length co26) t3):=⟨by rw [←hq_];exact (zr_ HO_7)⟩;have n1_:Aside0 (Kd.R k31 31 wr w.heap.size (fun _=>True) (.slice Ao61 x8_1.length co61) x8_1):=⟨by rw [←hq_];exact (zr_ HO_8)⟩;have n2_:Aside0 (wr.heap[gb1]?=some (.cells #[.int .i64 a2_0, .int .i64 a2_1, .int .i64 a2_2] 27 (0,0))):=⟨by rw [←hq_];exact (zb_ BK1)⟩;have n3_:Aside0 (wr.heap[gb2]?=some (.cells #[.slice none 0 0, .int .i64 x3001_1] 67 (0,0))):=⟨by rw [←hq_];exact (zb_ BK2)⟩;have n4_:Aside0 (Below w.heap.size w wr):=⟨by rw [←hq_];exact (zl2_ HB GE1 GE2)⟩;clear HO_7 HO_8 BK1 BK2 HB hq_;have HO_7:=n0_;have HO_8:=n1_;have BK1:=n2_;have BK2:=n3_;have HB:=n4_;clear n0_ n1_ n2_ n3_ n4_)))
        have n0_:=am_ (Kd.R_drew HO_7.out)
        have n1_:=am_ (Kd.R_drew HO_8.out)
        have n2_:=am_ (blk_drew BK1.out)
        have n3_:=am_ (blk_drew BK2.out)
        have n4_:=am_ (below_drew1 HB.out)
        clear HO_7
        clear HO_8
        clear BK1
        clear BK2
        clear HB
        have HO_7:=n0_
        have HO_8:=n1_
        have BK1:=n2_
        have BK2:=n3_
        have HB:=n4_
        clear n0_ n1_ n2_ n3_ n4_
        have p19:0≤(t18:Int):=of_decide_eq_true zq_
        have q19:t18<(x8_1.length:Int):=of_decide_eq_true zq_
        obtain ⟨ad19,e19,hx19_0,hx19_1,hx19_2,hx19_3,hx19_4,hx19_5,hx19_6,hx19_7,hx19_8,hx19_9,hx19_10,hx19_11⟩:=at_T31 (Kd.R_reads' HO_8.out).2.2 t18 p19 q19
        cases e19
        replace p19:=eq_true p19
        replace q19:=eq_true q19
        refine start_ (n:=12) (S:=fun w'=>w'.cell? ⟨gb1,0,none⟩=some (.int .i64 a2_0)∧w'.cell? ⟨gb1,1,none⟩=some (.int .i64 a2_1)∧w'.cell? ⟨gb1,2,none⟩=some (.int .i64 a2_2)∧w'.cell? (ad19.add ((t18).toNat*12))=some (.string ((rd_T31 x8_1 t18).f0))∧w'.cell? ⟨(ad19.add ((t18).toNat*12)).block,(ad19.add ((t18).toNat*12)).off+1,none⟩=some (.string ((rd_T31 x8_1 t18).f1))∧w'.cell? ⟨(ad19.add ((t18).toNat*12)).block,(ad19.add ((t18).toNat*12)).off+2,none⟩=some (.int .i64 ((rd_T31 x8_1 t18).f2.f0))∧w'.cell? ⟨(ad19.add ((t18).toNat*12)).block,(ad19.add ((t18).toNat*12)).off+3,none⟩=some (.int .i64 ((rd_T31 x8_1 t18).f2.f1))∧w'.cell? ⟨(ad19.add ((t18).toNat*12)).block,(ad19.add ((t18).toNat*12)).off+4,none⟩=some (.int .i64 ((rd_T31 x8_1 t18).f2.f2))∧w'.cell? ⟨(ad19.add ((t18).toNat*12)).block,(ad19.add ((t18).toNat*12)).off+5,none⟩=some (.int .i64 ((rd_T31 x8_1 t18).f3.f0))∧w'.cell? ⟨(ad19.add ((t18).toNat*12)).block,(ad19.add ((t18).toNat*12)).off+6,none⟩=some (.int .i64 ((rd_T31 x8_1 t18).f3.f1))∧w'.cell? ⟨(ad19.add ((t18).toNat*12)).block,(ad19.add ((t18).toNat*12)).off+7,none⟩=some (.int .i64 ((rd_T31 x8_1 t18).f3.f2))∧w'.cell? ⟨(ad19.add ((t18).toNat*12)).block,(ad19.add ((t18).toNat*12)).off+8,none⟩=some (.int .i64 ((rd_T31 x8_1 t18).f4.f0))∧w'.cell? ⟨(ad19.add ((t18).toNat*12)).block,(ad19.add ((t18).toNat*12)).off+9,none⟩=some (.int .i64 ((rd_T31 x8_1 t18).f4.f1))∧w'.cell? ⟨(ad19.add ((t18).toNat*12)).block,(ad19.add ((t18).toNat*12)).off+10,none⟩=some (.int .i64 ((rd_T31 x8_1 t18).f4.f2))∧w'.cell? ⟨(ad19.add ((t18).toNat*12)).block,(ad19.add ((t18).toNat*12)).off+11,none⟩=some (.int .i64 ((rd_T31 x8_1 t18).f5))) (ds:=[11]) (bt_ 12 0) (by kernel_rfl) rfl rfl ⟨(blk_cell BK1.out 0).trans rfl,(blk_cell BK1.out 1).trans rfl,(blk_cell BK1.out 2).trans rfl,hx19_0,hx19_1,hx19_2,hx19_3,hx19_4,hx19_5,hx19_6,hx19_7,hx19_8,hx19_9,hx19_10,hx19_11⟩ (fun hHeld=> ?_);refine with_tabW r10_Admit.tab15 r10_Admit.bits15 (fun HT_ HW_=> ?_)
        generalize wr.drew=w62 at HO_7 HO_8 BK1 BK2 HB hx19_0 hx19_1 hx19_10 hx19_11 hx19_2 hx19_3 hx19_4 hx19_5 hx19_6 hx19_7 hx19_8 hx19_9 hHeld ⊢
        refine pu_ (i:=0) (N:=some 64) (bt_ 12 1) HT_ ?_
        refine pu_ (i:=1) (N:=some 65) (bt_ 12 3) HT_ ?_
        refine pu_ (i:=2) (N:=some 66) (bt_ 12 7) HT_ ?_
        refine pu_ (i:=3) (N:=some 67) (bt_ 12 15) HT_ ?_
        refine pu_ (i:=4) (N:=some 68) (bt_ 12 31) HT_ ?_
        refine pu_ (i:=5) (N:=some 69) (bt_ 12 63) HT_ ?_
        refine tk_ (i:=6) (N:=some 70) (bt_ 12 127) HT_ HW_ hHeld ?_
        refine tk_ (i:=7) (N:=some 71) (bt_ 12 255) HT_ HW_ hHeld ?_
        refine one_ (i:=8) (N:=some 72) (bt_ 12 511) rfl rfl (one_of HT_.out (by kernel_rfl)) (by decide) (fun K hK=> ?_)
        refine goes_ Try.func63 (by kernel_rfl) rfl #[.agg #[.int .i64 ((rd_T31 x8_1 t18).f3.f0), .int .i64 ((rd_T31 x8_1 t18).f3.f1), .int .i64 ((rd_T31 x8_1 t18).f3.f2)], .agg #[.int .i64 a2_0, .int .i64 a2_1, .int .i64 a2_2]] (by rfl) rfl rfl zs_ ?_
        with_reducible refine (r10_Add.calls ((rd_T31 x8_1 t18).f3.f0) ((rd_T31 x8_1 t18).f3.f1) ((rd_T31 x8_1 t18).f3.f2) a2_0 a2_1 a2_2 t20 t21 t22 _ A59.out).mono ?_
        rintro e w63 ⟨rfl,hb⟩
        have HS3_:=zh_ hb (hHeld.2.2.2.1)
        have HS4_:=zh_ hb (hHeld.2.2.2.2.1)
        have HS5_:=zh_ hb (hHeld.2.2.2.2.2.1)
        have HS6_:=zh_ hb (hHeld.2.2.2.2.2.2.1)
        have HS7_:=zh_ hb (hHeld.2.2.2.2.2.2.2.1)
        have HS8_:=zh_ hb (hHeld.2.2.2.2.2.2.2.2.1)
        have HS9_:=zh_ hb (hHeld.2.2.2.2.2.2.2.2.2.1)
        have HS10_:=zh_ hb (hHeld.2.2.2.2.2.2.2.2.2.2.1)
        have HS11_:=zh_ hb (hHeld.2.2.2.2.2.2.2.2.2.2.2.1)
        have HS12_:=zh_ hb (hHeld.2.2.2.2.2.2.2.2.2.2.2.2.1)
        have HS13_:=zh_ hb (hHeld.2.2.2.2.2.2.2.2.2.2.2.2.2.1)
        have HS14_:=zh_ hb (hHeld.2.2.2.2.2.2.2.2.2.2.2.2.2.2)
        refine ⟨_,rfl, ?_⟩
        have n0_:=am_ (Kd.R_below (zr_ HO_7) hb)
        have n1_:=am_ (Kd.R_below (zr_ HO_8) hb)
        have n2_:=am_ (blk_below (zb_ BK1) hb)
        have n3_:=am_ (blk_below (zb_ BK2) hb)
        have n4_:=am_ (below_step (zl2_ HB GE1 GE2) hb)
        clear HO_7
        clear HO_8
        clear BK1
        clear BK2
        clear HB
        have HO_7:=n0_
        have HO_8:=n1_
        have BK1:=n2_
        have BK2:=n3_
        have HB:=n4_
        clear n0_ n1_ n2_ n3_ n4_
        (try clear hb)
        (try clear hb2)
        (try clear hk)
        (try clear hi)
        have p60:0≤(t18:Int):=of_decide_eq_true zq_
        have q60:(t18:Int)<((x8_1.length:Int):Int):=of_decide_eq_true zq_
        obtain ⟨go60,co60,eo60,gb60,gl60,cl60,HG60⟩:=Kd.R_form HO_8.out (by omega)
        (first|cases eo60|(injection eo60 with ea_ en_ ec_;(first|subst ea_|(injection ea_ with ea_;subst ea_));subst ec_;clear en_))
        have GB60:=Aside0.mk gb60
        have GG60:=Aside0.mk HG60
        clear gb60 gl60 HG60
        (first|simp only [add_plain] at hx19_0|skip)
        (first|simp only [add_plain] at hx19_1|skip)
        (first|simp only [add_plain] at hx19_2|skip)
        (first|simp only [add_plain] at hx19_3|skip)
        (first|simp only [add_plain] at hx19_4|skip)
        (first|simp only [add_plain] at hx19_5|skip)
        (first|simp only [add_plain] at hx19_6|skip)
        (first|simp only [add_plain] at hx19_7|skip)
        (first|simp only [add_plain] at hx19_8|skip)
        (first|simp only [add_plain] at hx19_9|skip)
        (first|simp only [add_plain] at hx19_10|skip)
        (first|simp only [add_plain] at hx19_11|skip)
        obtain ⟨ce60,hcl60,hM60,hcc60,hfr60⟩:=Kd.R_elem HO_8.out z31 (t18:Int) p60 q60
        obtain rfl:=k31_openM hM60
        have hx60_0:World.cell? _ ⟨go60,(t18:Int).toNat*12,none⟩=some (.string ((rd_T31 x8_1 t18).f0)):=hcc60 0 _ rfl
        have hx60_1:World.cell? _ ⟨go60,(t18:Int).toNat*12+1,none⟩=some (.string ((rd_T31 x8_1 t18).f1)):=hcc60 1 _ rfl
        have hx60_2:World.cell? _ ⟨go60,(t18:Int).toNat*12+2,none⟩=some (.int .i64 ((rd_T31 x8_1 t18).f2.f0)):=hcc60 2 _ rfl
        have hx60_3:World.cell? _ ⟨go60,(t18:Int).toNat*12+3,none⟩=some (.int .i64 ((rd_T31 x8_1 t18).f2.f1)):=hcc60 3 _ rfl
        have hx60_4:World.cell? _ ⟨go60,(t18:Int).toNat*12+4,none⟩=some (.int .i64 ((rd_T31 x8_1 t18).f2.f2)):=hcc60 4 _ rfl
        have hx60_5:World.cell? _ ⟨go60,(t18:Int).toNat*12+5,none⟩=some (.int .i64 ((rd_T31 x8_1 t18).f3.f0)):=hcc60 5 _ rfl
        have hx60_6:World.cell? _ ⟨go60,(t18:Int).toNat*12+6,none⟩=some (.int .i64 ((rd_T31 x8_1 t18).f3.f1)):=hcc60 6 _ rfl
        have hx60_7:World.cell? _ ⟨go60,(t18:Int).toNat*12+7,none⟩=some (.int .i64 ((rd_T31 x8_1 t18).f3.f2)):=hcc60 7 _ rfl
        have hx60_8:World.cell? _ ⟨go60,(t18:Int).toNat*12+8,none⟩=some (.int .i64 ((rd_T31 x8_1 t18).f4.f0)):=hcc60 8 _ rfl
        have hx60_9:World.cell? _ ⟨go60,(t18:Int).toNat*12+9,none⟩=some (.int .i64 ((rd_T31 x8_1 t18).f4.f1)):=hcc60 9 _ rfl
        have hx60_10:World.cell? _ ⟨go60,(t18:Int).toNat*12+10,none⟩=some (.int .i64 ((rd_T31 x8_1 t18).f4.f2)):=hcc60 10 _ rfl
        have hx60_11:World.cell? _ ⟨go60,(t18:Int).toNat*12+11,none⟩=some (.int .i64 ((rd_T31 x8_1 t18).f5)):=hcc60 11 _ rfl
        have hf60_0:World.frozen? _ ⟨go60,(t18:Int).toNat*12,none⟩=false:=hfr60 0
        have hf60_1:World.frozen? _ ⟨go60,(t18:Int).toNat*12+1,none⟩=false:=hfr60 1
        have hf60_2:World.frozen? _ ⟨go60,(t18:Int).toNat*12+2,none⟩=false:=hfr60 2
        have hf60_3:World.frozen? _ ⟨go60,(t18:Int).toNat*12+3,none⟩=false:=hfr60 3
        have hf60_4:World.frozen? _ ⟨go60,(t18:Int).toNat*12+4,none⟩=false:=hfr60 4
        have hf60_5:World.frozen? _ ⟨go60,(t18:Int).toNat*12+5,none⟩=false:=hfr60 5
        have hf60_6:World.frozen? _ ⟨go60,(t18:Int).toNat*12+6,none⟩=false:=hfr60 6
        have hf60_7:World.frozen? _ ⟨go60,(t18:Int).toNat*12+7,none⟩=false:=hfr60 7
        have hf60_8:World.frozen? _ ⟨go60,(t18:Int).toNat*12+8,none⟩=false:=hfr60 8
        have hf60_9:World.frozen? _ ⟨go60,(t18:Int).toNat*12+9,none⟩=false:=hfr60 9
        have hf60_10:World.frozen? _ ⟨go60,(t18:Int).toNat*12+10,none⟩=false:=hfr60 10
        have hf60_11:World.frozen? _ ⟨go60,(t18:Int).toNat*12+11,none⟩=false:=hfr60 11
        clear hcl60 hcc60 hfr60 hM60
        replace p60:=eq_true p60
        replace q60:=eq_true q60
        obtain ⟨ce64,hcl64,hM64,hcc64,hfr64⟩:=Kd.R_elem HO_8.out z31 (t18:Int) (of_decide_eq_true zq_) (by have h_:(t18:Int)<((x8_1.length:Int):Int):=of_decide_eq_true zq_;first|exact h_|(have e_:=(Kd.R_reads' HO_8.out).1;omega)|simpa using h_)
        obtain rfl:=k31_openM hM64
        have HP64:=(Kd.R_seg HO_8.out (t18:Int) (of_decide_eq_true zq_) (by have h_:(t18:Int)<((x8_1.length:Int):Int):=of_decide_eq_true zq_;first|exact h_|(have e_:=(Kd.R_reads' HO_8.out).1;omega)|simpa using h_) (seg:=[.int .i64 t20, .int .i64 t21, .int .i64 t22]) (j:=5) hcl64 hcc64 (show 8≤12 from by decide) (x':=(⟨(rd_T31 x8_1 t18).f0,(rd_T31 x8_1 t18).f1,(⟨(rd_T31 x8_1 t18).f2.f0,(rd_T31 x8_1 t18).f2.f1,(rd_T31 x8_1 t18).f2.f2⟩:S27),(⟨t20,t21,t22⟩:S27),(⟨(rd_T31 x8_1 t18).f4.f0,(rd_T31 x8_1 t18).f4.f1,(rd_T31 x8_1 t18).f4.f2⟩:S27),(rd_T31 x8_1 t18).f5⟩:S31)) (k31_mkM _ _ _ (⟨(rd_T31 x8_1 t18).f0,(rd_T31 x8_1 t18).f1,(⟨(rd_T31 x8_1 t18).f2.f0,(rd_T31 x8_1 t18).f2.f1,(rd_T31 x8_1 t18).f2.f2⟩:S27),(⟨t20,t21,t22⟩:S27),(⟨(rd_T31 x8_1 t18).f4.f0,(rd_T31 x8_1 t18).f4.f1,(rd_T31 x8_1 t18).f4.f2⟩:S27),(rd_T31 x8_1 t18).f5⟩:S31)) (fun _ hk=>hk)).1
        rw [←Ny23.out] at HP64
        have HQ64:=Aside0.mk HP64
        clear hcl64 hcc64 hfr64 hM64 HP64
        refine hK.out _ _ ⟨(blk_cell BK1.out 0).trans rfl,(blk_cell BK1.out 1).trans rfl,(blk_cell BK1.out 2).trans rfl,HS3_,HS4_,HS5_,HS6_,HS7_,HS8_,HS9_,HS10_,HS11_,HS12_,HS13_,HS14_⟩ (fun hHeld=> ?_)
        clear hK K
        refine no_ (N:=some 72) ?_
        refine pu_ (i:=9) (N:=some 73) (bt_ 12 1023) HT_ ?_
        refine pu_ (i:=10) (N:=some 74) (bt_ 12 2047) HT_ ?_
        refine last_ (i:=11) (N:=none) (bt_ 12 4095) rfl rfl (one_of HT_.out (by kernel_rfl)) (by decide) (fun K hK=> ?_)
        refine skip_ (w1:= ?_) (by rfl) rfl ?_ ?_
        rotate_left
        ·go_simp
         rfl
        refine hK.out _ _ ?_
        clear hK K
        refine done_ (done_of HT_.out (by kernel_rfl)) ?_
        have n0_:Aside0 (Kd.R Kd.string 9 (((w63.setCell ⟨go60,(t18:Int).toNat*12+5,none⟩ (.int .i64 t20)).setCell ⟨go60,(t18:Int).toNat*12+6,none⟩ (.int .i64 t21)).setCell ⟨go60,(t18:Int).toNat*12+7,none⟩ (.int .i64 t22)) w.heap.size (fun _=>True) (.slice Ao26 t3.length co26) t3):=⟨by (with_reducible repeat (first|apply Kd.R_alloc|apply Kd.R_drewN|apply Kd.R_drew));exact Kd.R_mono (Kd.R_far (p:=⟨go60,(t18:Int).toNat*12+7,none⟩) (Kd.R_far (p:=⟨go60,(t18:Int).toNat*12+6,none⟩) (Kd.R_far (p:=⟨go60,(t18:Int).toNat*12+5,none⟩) (Kd.R_types HO_7.out GG60.out (by decide)) (fun _ hk=>hk.2) (.int .i64 t20)) (fun _ hk=>hk.2) (.int .i64 t21)) (fun _ hk=>hk.2) (.int .i64 t22)) (fun _ hk=>trivial)⟩
        have n1_:Aside0 (Kd.R k31 31 (((w63.setCell ⟨go60,(t18:Int).toNat*12+5,none⟩ (.int .i64 t20)).setCell ⟨go60,(t18:Int).toNat*12+6,none⟩ (.int .i64 t21)).setCell ⟨go60,(t18:Int).toNat*12+7,none⟩ (.int .i64 t22)) w.heap.size (fun _=>True) (.slice (some ⟨go60,0,none⟩) x8_1.length co61) y23):=⟨by (with_reducible repeat (first|apply Kd.R_alloc|apply Kd.R_drewN|apply Kd.R_drew));exact HQ64.out⟩
        have n2_:Aside0 ((((w63.setCell ⟨go60,(t18:Int).toNat*12+5,none⟩ (.int .i64 t20)).setCell ⟨go60,(t18:Int).toNat*12+6,none⟩ (.int .i64 t21)).setCell ⟨go60,(t18:Int).toNat*12+7,none⟩ (.int .i64 t22)).heap[gb1]?=some (.cells #[.int .i64 a2_0, .int .i64 a2_1, .int .i64 a2_2] 27 (0,0))):=⟨by refine zk_ ?_;refine blk_far ?_ (by have h_:=Kd.R_ne HO_8.out BK1.out (by decide);intro e_;exact h_ (by rw [e_];rfl)) _;refine zk_ ?_;refine blk_far ?_ (by have h_:=Kd.R_ne HO_8.out BK1.out (by decide);intro e_;exact h_ (by rw [e_];rfl)) _;refine zk_ ?_;refine blk_far ?_ (by have h_:=Kd.R_ne HO_8.out BK1.out (by decide);intro e_;exact h_ (by rw [e_];rfl)) _;refine zk_ ?_;exact BK1.out⟩
        have n3_:Aside0 ((((w63.setCell ⟨go60,(t18:Int).toNat*12+5,none⟩ (.int .i64 t20)).setCell ⟨go60,(t18:Int).toNat*12+6,none⟩ (.int .i64 t21)).setCell ⟨go60,(t18:Int).toNat*12+7,none⟩ (.int .i64 t22)).heap[gb2]?=some (.cells #[.slice none 0 0, .int .i64 x3001_1] 67 (0,0))):=⟨by refine zk_ ?_;refine blk_far ?_ (by have h_:=Kd.R_ne HO_8.out BK2.out (by decide);intro e_;exact h_ (by rw [e_];rfl)) _;refine zk_ ?_;refine blk_far ?_ (by have h_:=Kd.R_ne HO_8.out BK2.out (by decide);intro e_;exact h_ (by rw [e_];rfl)) _;refine zk_ ?_;refine blk_far ?_ (by have h_:=Kd.R_ne HO_8.out BK2.out (by decide);intro e_;exact h_ (by rw [e_];rfl)) _;refine zk_ ?_;exact BK2.out⟩
        have n4_:Aside0 (Below w.heap.size w (((w63.setCell ⟨go60,(t18:Int).toNat*12+5,none⟩ (.int .i64 t20)).setCell ⟨go60,(t18:Int).toNat*12+6,none⟩ (.int .i64 t21)).setCell ⟨go60,(t18:Int).toNat*12+7,none⟩ (.int .i64 t22))):=⟨by repeat (first|(with_reducible first|exact HB.out|apply below_alloc|apply pw_below_drewN|apply below_drew1|refine below_set ?_ GB60.out|refine below_set ?_ GB60.out|refine below_set ?_ GB60.out|refine below_set ?_ GE1.out|refine below_set ?_ GE2.out)|exact HB.out)⟩
        (try clear HO_7)
        (try clear HO_8)
        (try clear BK1)
        (try clear BK2)
        (try clear HB)
        generalize (((w63.setCell ⟨go60,(t18:Int).toNat*12+5,none⟩ (.int .i64 t20)).setCell ⟨go60,(t18:Int).toNat*12+6,none⟩ (.int .i64 t21)).setCell ⟨go60,(t18:Int).toNat*12+7,none⟩ (.int .i64 t22))=w65 at n0_ n1_ n2_ n3_ n4_ ⊢
        have HO_7:=n0_
        have HO_8:=n1_
        have BK1:=n2_
        have BK2:=n3_
        have HB:=n4_
        clear n0_ n1_ n2_ n3_ n4_
        have hnb66:=NB2_1.out
        have hnc66:=NB1_2.out
        have hcz67_0:w65.cell? ⟨gb2,0,none⟩=some (.slice none 0 0):=(blk_cell BK2.out 0).trans rfl
        have hcz67_1:w65.cell? ⟨gb2,1,none⟩=some (.int .i64 x3001_1):=(blk_cell BK2.out 1).trans rfl
        have hfz67_0:=blk_frozen BK2.out 0
        have hfz67_1:=blk_frozen BK2.out 1
        try go_wp2
        refine bodyPost_ret (results_cell_row rfl _ _ gb2 67 #[.slice (some ⟨go60,0,none⟩) x8_1.length co61, .int .i64 0] (0,0) _ rfl (by refine zk_ ?_;refine blk_put (cs:=#[.slice (some ⟨go60,0,none⟩) x8_1.length co61, .int .i64 x3001_1]) ?_ 1 _ rfl;refine zk_ ?_;refine blk_put (cs:=#[.slice none 0 0, .int .i64 x3001_1]) ?_ 0 _ rfl;refine zk_ ?_;exact BK2.out) Try.underlying67 rfl (by kernel_rfl)) rfl ?_
        exact ⟨_,by first|rfl|(simp [errW_none,errW_some]<;>rfl)|(simp [*,errW_none,errW_some]<;>rfl),by (with_reducible repeat (first|apply Kd.R_alloc|apply Kd.R_drewN|apply Kd.R_drew));exact Kd.R_mono (Kd.R_far (p:=⟨gb2,1,none⟩) (Kd.R_far (p:=⟨gb2,0,none⟩) (Kd.R_types HO_8.out BK2.out (by decide)) (fun _ hk=>hk.2) (.slice (some ⟨go60,0,none⟩) x8_1.length co61)) (fun _ hk=>hk.2) (.int .i64 0)) (fun _ hk=>trivial),zl2_ HB GE1 GE2⟩
       ·rw [if_neg c58] at H
        exact absurd H (by simp)
      ·rw [if_neg c57] at H
       exact absurd H (by simp)
 ·replace c6:=Bool.eq_false_iff.mpr c6
  subst c6
  have H1:((r10_no.f 1).bind fun bt7=>(some (bt7.1,bt7.2)))=some (r1,r2):=by rw [if_neg (show¬(false=true) by decide)] at H;exact H
  clear H
  have H:=H1
  clear H1
  replace H:=Option.bind_eq_some_iff.mp H
  obtain ⟨⟨t7,t10⟩,A680,H⟩:=H
  replace H:(some (t7,t10))=some (r1,r2):=H
  have A68:=Aside0.mk A680
  clear A680
  simp only [Option.some.injEq,Prod.mk.injEq] at H
  obtain ⟨rfl,rfl⟩:=H
  go_enter Try.func66,Try.ntmps66
  go_wp2_with (first|((with_reducible refine gate_dst (N:=5) rfl ?_);refine box_event ?hg (N:=5) ?hd (cs:=#[.int .i64 a2_0, .int .i64 a2_1, .int .i64 a2_2]) (t:=27) ?hr ?_;(case hd=>rfl);(case hg=>rfl);(case hr=>first|(go_simp;done)|(go_simp;rfl));intro gb1 hg w69 hbox hb;have n0_:=am_ (below_step (zl0_ HB) hb);have n1_:=am_ (hbox);have n2_:=am_ ((zg0_ HB hg:w.heap.size≤gb1));have n3_:=am_ ((zg0_ HB hg:w.heap.size≤gb1));clear HB;have HB:=n0_;have BK1:=n1_;have GW1:=n2_;have GE1:=n3_;clear n0_ n1_ n2_ n3_;clear hb hbox hg)|((with_reducible refine gate_dst (N:=6) rfl ?_);refine box_event ?hg (N:=6) ?hd (cs:=#[.slice none 0 0, .int .i64 0]) (t:=67) ?hr ?_;(case hd=>rfl);(case hg=>rfl);(case hr=>first|(go_simp;done)|(go_simp;rfl));intro gb2 hg w70 hbox hb;have n0_:=am_ (blk_below (zb_ BK1) hb);have n1_:=am_ (below_step (zl1_ HB GE1) hb);have n2_:=am_ (hbox);have n3_:=am_ ((zg1_ HB GE1 hg:w.heap.size≤gb2));have n4_:=am_ ((zg1_ HB GE1 hg:w.heap.size≤gb2));have n5_:=am_ ((zn_ BK1 hg:gb1≠gb2));have n6_:=am_ ((zm_ BK1 hg:gb2≠gb1));clear BK1;clear HB;have BK1:=n0_;have HB:=n1_;have BK2:=n2_;have GW2:=n3_;have GE2:=n4_;have NB1_2:=n5_;have NB2_1:=n6_;clear n0_ n1_ n2_ n3_ n4_ n5_ n6_;clear hb hbox hg)|((with_reducible refine gate_callee (f:=106) rfl ?_);refine goesL_ (some 14) rfl rfl Try.func106 (by kernel_rfl) rfl #[.slice A0 l0.length c0, .string a1] rfl zs_ ?_;(with_reducible refine (r10_Up.calls k _ _ l0 a1 t3 _ ?side1 ?side2 A4.out).mono ?_);(case side1=>exact zc_ (Kd.C_below HR0.out HB.out));(case side2=>exact HC0.out);rintro e w71 ⟨v4,rfl,ho0,hb⟩;refine ⟨_,rfl, ?_⟩;have n0_:=am_ (Kd.R_lower ho0 (below_size (zl2_ HB GE1 GE2)));have n1_:=am_ (blk_below (zb_ BK1) hb);have n2_:=am_ (blk_below (zb_ BK2) hb);have n3_:=am_ (below_step (zl2_ HB GE1 GE2) hb);clear BK1;clear BK2;clear HB;have HO5:=n0_;have BK1:=n1_;have BK2:=n2_;have HB:=n3_;clear n0_ n1_ n2_ n3_;(try clear hb);(try clear hb2);(try clear hk);(try clear hi);(try clear ho0);have hnb72:=NB1_2.out;have hnc72:=NB2_1.out;have hcz73_0:w71.cell? ⟨gb1,0,none⟩=some (.int .i64 a2_0):=(blk_cell BK1.out 0).trans rfl;have hcz73_1:w71.cell? ⟨gb1,1,none⟩=some (.int .i64 a2_1):=(blk_cell BK1.out 1).trans rfl;have hcz73_2:w71.cell? ⟨gb1,2,none⟩=some (.int .i64 a2_2):=(blk_cell BK1.out 2).trans rfl;have hfz73_0:=blk_frozen BK1.out 0;have hfz73_1:=blk_frozen BK1.out 1;have hfz73_2:=blk_frozen BK1.out 2)|((with_reducible refine gate_callee (f:=65) rfl ?_);refine goesL_ (some 16) rfl rfl Try.func65 (by kernel_rfl) rfl #[.agg #[.int .i64 a2_0, .int .i64 a2_1, .int .i64 a2_2]] rfl zs_ ?_;(with_reducible refine (r10_MayVec.calls a2_0 a2_1 a2_2 false _ A5.out).mono ?_);rintro e w74 ⟨rfl,hb⟩;refine ⟨_,rfl, ?_⟩;have n0_:=am_ (Kd.R_below (zr_ HO5) hb);have n1_:=am_ (blk_below (zb_ BK1) hb);have n2_:=am_ (blk_below (zb_ BK2) hb);have n3_:=am_ (below_step (zl2_ HB GE1 GE2) hb);clear HO5;clear BK1;clear BK2;clear HB;have HO5:=n0_;have BK1:=n1_;have BK2:=n2_;have HB:=n3_;clear n0_ n1_ n2_ n3_;(try clear hb);(try clear hb2);(try clear hk);(try clear hi))|((with_reducible refine gate_callee (f:=113) rfl ?_);refine goesL_ (some 18) rfl rfl Try.func113 (by kernel_rfl) rfl #[.int .i64 1] rfl zs_ ?_;(with_reducible refine (r10_no.calls 1 t7 t10 _ A68.out).mono ?_);rintro e w75 ⟨v8,rfl,ho0,hb⟩;refine ⟨_,rfl, ?_⟩;have n0_:=am_ (Kd.R_below (zr_ HO5) hb);have n1_:=am_ (Kd.R_lower ho0 (below_size (zl2_ HB GE1 GE2)));have n2_:=am_ (blk_below (zb_ BK1) hb);have n3_:=am_ (blk_below (zb_ BK2) hb);have n4_:=am_ (below_step (zl2_ HB GE1 GE2) hb);clear HO5;clear BK1;clear BK2;clear HB;have HO5:=n0_;have HO9:=n1_;have BK1:=n2_;have BK2:=n3_;have HB:=n4_;clear n0_ n1_ n2_ n3_ n4_;(try clear hb);(try clear hb2);(try clear hk);(try clear hi);(try clear ho0);obtain ⟨Ao76,co76,eo76⟩:=Kd.R_slice HO9.out;subst eo76;have hcz77_0:w75.cell? ⟨gb2,0,none⟩=some (.slice none 0 0):=(blk_cell BK2.out 0).trans rfl;have hcz77_1:w75.cell? ⟨gb2,1,none⟩=some (.int .i64 0):=(blk_cell BK2.out 1).trans rfl;have hfz77_0:=blk_frozen BK2.out 0;have hfz77_1:=blk_frozen BK2.out 1))
  refine bodyPost_ret (results_cell_row rfl _ _ gb2 67 #[.slice Ao76 t7.length co76, .int .i64 t10] (0,0) _ rfl (by refine zk_ ?_;refine blk_put (cs:=#[.slice Ao76 t7.length co76, .int .i64 0]) ?_ 1 _ rfl;refine zk_ ?_;refine blk_put (cs:=#[.slice none 0 0, .int .i64 0]) ?_ 0 _ rfl;refine zk_ ?_;exact BK2.out) Try.underlying67 rfl (by kernel_rfl)) rfl ?_
  exact ⟨_,by first|rfl|(simp [errW_none,errW_some]<;>rfl)|(simp [*,errW_none,errW_some]<;>rfl),by (with_reducible repeat (first|apply Kd.R_alloc|apply Kd.R_drewN|apply Kd.R_drew));exact Kd.R_mono (Kd.R_far (p:=⟨gb2,1,none⟩) (Kd.R_far (p:=⟨gb2,0,none⟩) (Kd.R_types HO9.out BK2.out (by decide)) (fun _ hk=>hk.2) (.slice Ao76 t7.length co76)) (fun _ hk=>hk.2) (.int .i64 t10)) (fun _ hk=>trivial),zl2_ HB GE1 GE2⟩

mutual
def law12_Make.l0:Nat→List Int→List (S31)→Int→Option ((List (S31)))
 |0,_,_,_=>none
 |k+1,x0,x3,x4=>if (wrap64 (x4+2))<(x0.length:Int) then (law12_Make.j1 k x0 x3 x4 (decide ((x3.length:Int)<24))) else (law12_Make.j1 k x0 x3 x4 false)
def law12_Make.j1:Nat→List Int→List (S31)→Int→Bool→Option ((List (S31)))
 |0,_,_,_,_=>none
 |k+1,x0,x3,x4,x21=>if x21=true then (if 0≤x4 then (if x4<(x0.length:Int) then (if (x3.length:Int)>0 then (law12_Make.j2 k x0 x3 x4 (wrap64 (rd x0 x4)) (⟨#[]⟩:ByteArray) (decide ((Int.tmod (wrap64 (rd x0 x4)) 3)>0))) else (law12_Make.j2 k x0 x3 x4 (wrap64 (rd x0 x4)) (⟨#[]⟩:ByteArray) false)) else (none)) else (none)) else (some x3)
def law12_Make.j2:Nat→List Int→List (S31)→Int→Int→ByteArray→Bool→Option ((List (S31)))
 |0,_,_,_,_,_,_=>none
 |k+1,x0,x3,x4,x5,x6,x36=>if x36=true then (if (x3.length:Int)=0 then (none) else (if 0≤(Int.tmod (wrap64 (Int.tdiv x5 3)) (x3.length:Int)) then (if (Int.tmod (wrap64 (Int.tdiv x5 3)) (x3.length:Int))<(x3.length:Int) then (law12_Make.j3 k x0 x3 x4 ((rd_T31 x3 (Int.tmod (wrap64 (Int.tdiv x5 3)) (x3.length:Int))).f0)) else (none)) else (none))) else (law12_Make.j3 k x0 x3 x4 x6)
def law12_Make.j3:Nat→List Int→List (S31)→Int→ByteArray→Option ((List (S31)))
 |0,_,_,_,_=>none
 |k+1,x0,x3,x4,x6=>if 0≤(wrap64 (x4+1)) then (if (wrap64 (x4+1))<(x0.length:Int) then ((r10_Create.f k x3 (strOfNums (([(wrap64 (97+(Int.tmod (wrap64 ((x3.length:Int)*5)) 24))) % 256]:List Int))) x6 (wrap64 (20+(wrap64 (rd x0 (wrap64 (x4+1)))))) (wrap64 (20+(wrap64 (rd x0 (wrap64 (x4+1)))))) (wrap64 (20+(wrap64 (rd x0 (wrap64 (x4+1))))))).bind fun bt7=>(if bt7.2=0 then (if 0≤(wrap64 (x4+2)) then (if (wrap64 (x4+2))<(x0.length:Int) then (if (bt7.1.length:Int)=0 then (none) else (if 0≤(Int.tmod (wrap64 (Int.tdiv (wrap64 (rd x0 (wrap64 (x4+2)))) 16)) (bt7.1.length:Int)) then (if (Int.tmod (wrap64 (Int.tdiv (wrap64 (rd x0 (wrap64 (x4+2)))) 16)) (bt7.1.length:Int))<(bt7.1.length:Int) then ((r10_Admit.f k bt7.1 ((rd_T31 bt7.1 (Int.tmod (wrap64 (Int.tdiv (wrap64 (rd x0 (wrap64 (x4+2)))) 16)) (bt7.1.length:Int))).f0) (Int.tmod (wrap64 (rd x0 (wrap64 (x4+2)))) 16) (wrap64 (Int.tdiv (Int.tmod (wrap64 (rd x0 (wrap64 (x4+2)))) 16) 2)) (Int.tmod (Int.tmod (wrap64 (rd x0 (wrap64 (x4+2)))) 16) 3)).bind fun bt15=>(if bt15.2=0 then (law12_Make.l0 k x0 bt15.1 (wrap64 (x4+3))) else (law12_Make.l0 k x0 bt7.1 (wrap64 (x4+3))))) else (none)) else (none))) else (none)) else (none)) else (law12_Make.l0 k x0 x3 (wrap64 (x4+3))))) else (none)) else (none)
end
def law12_Make.f (k:Nat) (l0:List Int):Option ((List (S31))):=law12_Make.l0 k l0 ([]:List (S31)) 0
theorem law12_Make.mono_l: ∀k,(∀y0 y1 y2,LeO (law12_Make.l0 k y0 y1 y2) (law12_Make.l0 (k+1) y0 y1 y2))∧(∀y0 y1 y2 y3,LeO (law12_Make.j1 k y0 y1 y2 y3) (law12_Make.j1 (k+1) y0 y1 y2 y3))∧(∀y0 y1 y2 y3 y4 y5,LeO (law12_Make.j2 k y0 y1 y2 y3 y4 y5) (law12_Make.j2 (k+1) y0 y1 y2 y3 y4 y5))∧(∀y0 y1 y2 y3,LeO (law12_Make.j3 k y0 y1 y2 y3) (law12_Make.j3 (k+1) y0 y1 y2 y3))
 |0=>⟨fun _ _ _ r h=>by simp [law12_Make.l0] at h,fun _ _ _ _ r h=>by simp [law12_Make.j1] at h,fun _ _ _ _ _ _ r h=>by simp [law12_Make.j2] at h,fun _ _ _ _ r h=>by simp [law12_Make.j3] at h⟩
 |k+1=>by
  obtain ⟨ih0,ih1,ih2,ih3⟩:=law12_Make.mono_l k
  refine ⟨?_, ?_, ?_, ?_⟩
  ·intro y0 y1 y2
   unfold law12_Make.l0
   repeat' first
   |(with_reducible exact ih0 _ _ _)
   |(with_reducible exact ih1 _ _ _ _)
   |(with_reducible exact ih2 _ _ _ _ _ _)
   |(with_reducible exact ih3 _ _ _ _)
   |(with_reducible exact r10_Admit.mono _ _ _ _ _ _)
   |(with_reducible exact r10_Create.mono _ _ _ _ _ _ _)
   |(with_reducible exact LeO.refl _)
   |(with_reducible exact LeO.none _)
   |(with_reducible refine LeO.ite ?_ ?_)
   |(with_reducible refine LeO.bind ?_ (fun _=> ?_))
   |exact ih0 _ _ _
   |exact ih1 _ _ _ _
   |exact ih2 _ _ _ _ _ _
   |exact ih3 _ _ _ _
   |exact r10_Admit.mono _ _ _ _ _ _
   |exact r10_Create.mono _ _ _ _ _ _ _
   |exact LeO.none _
   |refine LeO.ite ?_ ?_
   |refine LeO.bind ?_ (fun _=> ?_)
  ·intro y0 y1 y2 y3
   unfold law12_Make.j1
   repeat' first
   |(with_reducible exact ih0 _ _ _)
   |(with_reducible exact ih1 _ _ _ _)
   |(with_reducible exact ih2 _ _ _ _ _ _)
   |(with_reducible exact ih3 _ _ _ _)
   |(with_reducible exact r10_Admit.mono _ _ _ _ _ _)
   |(with_reducible exact r10_Create.mono _ _ _ _ _ _ _)
   |(with_reducible exact LeO.refl _)
   |(with_reducible exact LeO.none _)
   |(with_reducible refine LeO.ite ?_ ?_)
   |(with_reducible refine LeO.bind ?_ (fun _=> ?_))
   |exact ih0 _ _ _
   |exact ih1 _ _ _ _
   |exact ih2 _ _ _ _ _ _
   |exact ih3 _ _ _ _
   |exact r10_Admit.mono _ _ _ _ _ _
   |exact r10_Create.mono _ _ _ _ _ _ _
   |exact LeO.none _
   |refine LeO.ite ?_ ?_
   |refine LeO.bind ?_ (fun _=> ?_)
  ·intro y0 y1 y2 y3 y4 y5
   unfold law12_Make.j2
   repeat' first
   |(with_reducible exact ih0 _ _ _)
   |(with_reducible exact ih1 _ _ _ _)
   |(with_reducible exact ih2 _ _ _ _ _ _)
   |(with_reducible exact ih3 _ _ _ _)
   |(with_reducible exact r10_Admit.mono _ _ _ _ _ _)
   |(with_reducible exact r10_Create.mono _ _ _ _ _ _ _)
   |(with_reducible exact LeO.refl _)
   |(with_reducible exact LeO.none _)
   |(with_reducible refine LeO.ite ?_ ?_)
   |(with_reducible refine LeO.bind ?_ (fun _=> ?_))
   |exact ih0 _ _ _
   |exact ih1 _ _ _ _
   |exact ih2 _ _ _ _ _ _
   |exact ih3 _ _ _ _
   |exact r10_Admit.mono _ _ _ _ _ _
   |exact r10_Create.mono _ _ _ _ _ _ _
   |exact LeO.none _
   |refine LeO.ite ?_ ?_
   |refine LeO.bind ?_ (fun _=> ?_)
  ·intro y0 y1 y2 y3
   unfold law12_Make.j3
   repeat' first
   |(with_reducible exact ih0 _ _ _)
   |(with_reducible exact ih1 _ _ _ _)
   |(with_reducible exact ih2 _ _ _ _ _ _)
   |(with_reducible exact ih3 _ _ _ _)
   |(with_reducible exact r10_Admit.mono _ _ _ _ _ _)
   |(with_reducible exact r10_Create.mono _ _ _ _ _ _ _)
   |(with_reducible exact LeO.refl _)
   |(with_reducible exact LeO.none _)
   |(with_reducible refine LeO.ite ?_ ?_)
   |(with_reducible refine LeO.bind ?_ (fun _=> ?_))
   |exact ih0 _ _ _
   |exact ih1 _ _ _ _
   |exact ih2 _ _ _ _ _ _
   |exact ih3 _ _ _ _
   |exact r10_Admit.mono _ _ _ _ _ _
   |exact r10_Create.mono _ _ _ _ _ _ _
   |exact LeO.none _
   |refine LeO.ite ?_ ?_
   |refine LeO.bind ?_ (fun _=> ?_)
theorem law12_Make.mono: ∀a0 k,LeO (law12_Make.f k a0) (law12_Make.f (k+1) a0):=by
 intro a0 k
 obtain ⟨ih0,ih1,ih2,ih3⟩:=law12_Make.mono_l k
 unfold law12_Make.f
 repeat' first
  |(with_reducible exact ih0 _ _ _)
  |(with_reducible exact ih1 _ _ _ _)
  |(with_reducible exact ih2 _ _ _ _ _ _)
  |(with_reducible exact ih3 _ _ _ _)
  |(with_reducible exact r10_Admit.mono _ _ _ _ _ _)
  |(with_reducible exact r10_Create.mono _ _ _ _ _ _ _)
  |(with_reducible exact LeO.refl _)
  |(with_reducible exact LeO.none _)
  |(with_reducible refine LeO.ite ?_ ?_)
  |(with_reducible refine LeO.bind ?_ (fun _=> ?_))
  |exact ih0 _ _ _
  |exact ih1 _ _ _ _
  |exact ih2 _ _ _ _ _ _
  |exact ih3 _ _ _ _
  |exact r10_Admit.mono _ _ _ _ _ _
  |exact r10_Create.mono _ _ _ _ _ _ _
  |exact LeO.none _
  |refine LeO.ite ?_ ?_
  |refine LeO.bind ?_ (fun _=> ?_)
set_option maxHeartbeats 8000000 in
set_option maxRecDepth 100000 in
theorem law12_Make.calls (k:Nat) (A0:Option Addr) (c0:Nat) (l0:List Int) (r:List (S31)) (w:World) (hr0:Kd.C (Kd.int .u8) w A0 l0.length l0) (hc0:l0.length≤c0) (h:law12_Make.f k l0=some r):
  Calls Try.prog 32 #[.slice A0 l0.length c0] w fun e w'=> ∃v0_:Value,e= .returned (v0_)∧Kd.R k31 31 w' w.heap.size (fun _=>True) v0_ r∧Below w.heap.size w w':=by
 have hu27:=Try.underlying27
 have hu67:=Try.underlying67
 have HR0:=Aside0.mk hr0
 have HC0:=Aside0.mk hc0
 clear hr0 hc0
 have HB:=am_ (Below.refl w.heap.size w)
 have H:(law12_Make.l0 k l0 ([]:List (S31)) 0)=some r:=h
 clear h
 have H':=Aside0.mk H
 clear H
 go_enter Try.func32,Try.ntmps32
 go_wp2
 go_loopg [3,4] k (fun kq v3 v4 w'=> ∃(x3_1:List (S31)) (x4_1:Int),v4= .int .i64 x4_1∧Aside0 (law12_Make.l0 kq l0 x3_1 x4_1=some r)∧Aside0 (kq≤k)∧Aside0 (Kd.R k31 31 w' w.heap.size (fun _=>True) v3 x3_1)∧Aside0 (Below w.heap.size w w'))
 case atStart=>exact ⟨(([]:List (S31))),(0),(by first|rfl|(simp;done)|(simp [*];done)),H',⟨Nat.le_refl _⟩,⟨by first|exact Kd.R_nil _ _ _ _ _|exact Kd.N_nil _ _ _ _ _|exact Kd.V_nil _ _ _ _ _|exact Kd.Q_nil _ _ _ _ _|exact Kd.S_nil _ _ _ _ _⟩,⟨zl0_ HB⟩⟩
 case round=>
  clear H'
  obtain ⟨x3_1,x4_1,rfl,HA,HK1,HO_3,HB⟩:=hrel
  cases gk with
  |zero=>exact absurd HA.out (by simp [law12_Make.l0])
  |succ k1=>
   have H:=HA.out
   clear HA
   simp only [law12_Make.l0] at H
   have HC2:=Aside0.mk H
   clear H
   go_upto_region 3 with (fail)
   go_cut [21] (fun v21 wc=> ∃(kq:Nat) (x21_1:Bool),v21= .bool x21_1∧Aside0 (law12_Make.j1 kq l0 x3_1 x4_1 x21_1=some r)∧Aside0 (kq≤k1)∧Aside0 (Kd.R k31 31 wc w.heap.size (fun _=>True) u3 x3_1)∧Aside0 (Below w.heap.size w wc))
   case first=>
    have H:=HC2.out
    clear HC2
    by_cases c3:(wrap64 (x4_1+2))<(l0.length:Int)
    ·rw [if_pos c3] at H
     have c3b0:decide ((wrap64 (x4_1+2))<(l0.length:Int))=true:=decide_eq_true c3
     clear c3
     (first|rw [c3b0]|(simp only [i64_w,i32_w];rw [c3b0])|skip)
     have H':=Aside0.mk H
     clear H
     obtain ⟨Ao4,co4,eo4⟩:=Kd.R_slice HO_3.out
     subst eo4
     go_wp2
     go_meet
     case rel=>exact ⟨_,(decide ((x3_1.length:Int)<24)),(by first|rfl|(simp;done)|(simp [*];done)),H',⟨by have:=HK1.out;first|omega|exact Nat.le_refl _⟩,⟨by (with_reducible repeat (first|apply Kd.R_alloc|apply Kd.R_drewN|apply Kd.R_drew));exact HO_3.out⟩,⟨zl0_ HB⟩⟩
    ·rw [if_neg c3] at H
     have c3b0:decide ((wrap64 (x4_1+2))<(l0.length:Int))=false:=decide_eq_false c3
     clear c3
     (first|rw [c3b0]|(simp only [i64_w,i32_w];rw [c3b0])|skip)
     have H':=Aside0.mk H
     clear H
     go_wp2
     go_meet
     case rel=>exact ⟨_,(false),(by first|rfl|(simp;done)|(simp [*];done)),H',⟨by have:=HK1.out;first|omega|exact Nat.le_refl _⟩,⟨by (with_reducible repeat (first|apply Kd.R_alloc|apply Kd.R_drewN|apply Kd.R_drew));exact HO_3.out⟩,⟨zl0_ HB⟩⟩
   case rest=>
    clear HC2
    try clear p2
    try clear c3
    try clear c3b0
    obtain ⟨kq,x21_1,rfl,HA,HJ1,HO_3,HB⟩:=hcut
    cases kq with
    |zero=>exact absurd HA.out (by simp [law12_Make.j1])
    |succ kj1=>
     have H:=HA.out
     clear HA
     simp only [law12_Make.j1] at H
     by_cases c5:x21_1=true
     ·subst c5
      have H1:(if 0≤x4_1 then (if x4_1<(l0.length:Int) then (if (x3_1.length:Int)>0 then (law12_Make.j2 kj1 l0 x3_1 x4_1 (wrap64 (rd l0 x4_1)) (⟨#[]⟩:ByteArray) (decide ((Int.tmod (wrap64 (rd l0 x4_1)) 3)>0))) else (law12_Make.j2 kj1 l0 x3_1 x4_1 (wrap64 (rd l0 x4_1)) (⟨#[]⟩:ByteArray) false)) else (none)) else (none))=some r:=by rw [if_pos rfl] at H;exact H
      clear H
      have H:=H1
      clear H1
      by_cases c6:0≤x4_1
      ·rw [if_pos c6] at H
       have c6b0:decide (0≤x4_1)=true:=decide_eq_true c6
       clear c6
       by_cases c7:x4_1<(l0.length:Int)
       ·rw [if_pos c7] at H
        have c7b0:decide (x4_1<(l0.length:Int))=true:=decide_eq_true c7
        clear c7
        have HC8:=Aside0.mk H
        clear H
        have p1:0≤(x4_1:Int):=of_decide_eq_true zq_
        have q1:x4_1<(l0.length:Int):=of_decide_eq_true zq_
        obtain ⟨ad1,e1,hx1_0⟩:=Kd.at_int HR0.out x4_1 p1 q1
        cases e1
        replace hx1_0:=zx_ HB hx1_0
        replace p1:=eq_true p1
        replace q1:=eq_true q1
        go_upto_region 7 with (fail)
        go_cut [36] (fun v36 wc=> ∃(kq:Nat) (x36_7:Bool),v36= .bool x36_7∧Aside0 (law12_Make.j2 kq l0 x3_1 x4_1 (wrap64 (rd l0 x4_1)) (⟨#[]⟩:ByteArray) x36_7=some r)∧Aside0 (kq≤kj1)∧Aside0 (Kd.R k31 31 wc w.heap.size (fun _=>True) u3 x3_1)∧Aside0 (Below w.heap.size w wc))
        case first=>
         have H:=HC8.out
         clear HC8
         by_cases c9:(x3_1.length:Int)>0
         ·rw [if_pos c9] at H
          have c9b0:decide (0<(x3_1.length:Int))=true:=decide_eq_true c9
          have c9b1:decide (0<x3_1.length)=true:=decide_eq_true (by omega)
          clear c9
          (first|rw [c9b0]|(simp only [i64_w,i32_w];rw [c9b0])|skip)
          have H':=Aside0.mk H
          clear H
          obtain ⟨Ao10,co10,eo10⟩:=Kd.R_slice HO_3.out
          subst eo10
          go_wp2
          go_meet
          case rel=>exact ⟨_,(decide ((Int.tmod (wrap64 (rd l0 x4_1)) 3)>0)),(by first|rfl|(simp;done)|(simp [*];done)),H',⟨by have:=HK1.out;have:=HJ1.out;first|omega|exact Nat.le_refl _⟩,⟨by (with_reducible repeat (first|apply Kd.R_alloc|apply Kd.R_drewN|apply Kd.R_drew));exact HO_3.out⟩,⟨zl0_ HB⟩⟩
         ·rw [if_neg c9] at H
          have c9b0:decide (0<(x3_1.length:Int))=false:=decide_eq_false c9
          have c9b1:decide (0<x3_1.length)=false:=decide_eq_false (by omega)
          clear c9
          (first|rw [c9b0]|(simp only [i64_w,i32_w];rw [c9b0])|skip)
          have H':=Aside0.mk H
          clear H
          obtain ⟨Ao11,co11,eo11⟩:=Kd.R_slice HO_3.out
          subst eo11
          go_wp2
          go_meet
          case rel=>exact ⟨_,(false),(by first|rfl|(simp;done)|(simp [*];done)),H',⟨by have:=HK1.out;have:=HJ1.out;first|omega|exact Nat.le_refl _⟩,⟨by (with_reducible repeat (first|apply Kd.R_alloc|apply Kd.R_drewN|apply Kd.R_drew));exact HO_3.out⟩,⟨zl0_ HB⟩⟩
        case rest=>
         clear HC8
         try clear p1
         try clear q1
         try clear hx1
         try clear p2
         try clear c3
         try clear c3b0
         try clear c5
         try clear c6
         try clear c6b0
         try clear p6
         try clear c7
         try clear c7b0
         try clear c9
         try clear c9b0
         try clear c9b1
         try clear hx1_0
         try clear p1
         try clear p2
         try clear q1
         obtain ⟨kq,x36_7,rfl,HA,HJ7,HO_3,HB⟩:=hcut
         cases kq with
         |zero=>exact absurd HA.out (by simp [law12_Make.j2])
         |succ kj7=>
          have H:=HA.out
          clear HA
          simp only [law12_Make.j2] at H
          have HC12:=Aside0.mk H
          clear H
          go_upto_if 36 with (fail)
          go_cut [6] (fun v6 wc=> ∃(kq:Nat) (x6_11:ByteArray),v6= .string x6_11∧Aside0 (law12_Make.j3 kq l0 x3_1 x4_1 x6_11=some r)∧Aside0 (kq≤kj7)∧Aside0 (Kd.R k31 31 wc w.heap.size (fun _=>True) u3 x3_1)∧Aside0 (Below w.heap.size w wc))
          case first=>
           have H:=HC12.out
           clear HC12
           by_cases c13:x36_7=true
           ·subst c13
            have H1:(if (x3_1.length:Int)=0 then (none) else (if 0≤(Int.tmod (wrap64 (Int.tdiv (wrap64 (rd l0 x4_1)) 3)) (x3_1.length:Int)) then (if (Int.tmod (wrap64 (Int.tdiv (wrap64 (rd l0 x4_1)) 3)) (x3_1.length:Int))<(x3_1.length:Int) then (law12_Make.j3 kj7 l0 x3_1 x4_1 ((rd_T31 x3_1 (Int.tmod (wrap64 (Int.tdiv (wrap64 (rd l0 x4_1)) 3)) (x3_1.length:Int))).f0)) else (none)) else (none)))=some r:=by rw [if_pos rfl] at H;exact H
            clear H
            have H:=H1
            clear H1
            by_cases c14:(x3_1.length:Int)=0
            ·rw [if_pos c14] at H
             exact absurd H (by simp)
            ·rw [if_neg c14] at H
             have c14b0:((x3_1.length:Int)==0)=false:=beq_eq_false_iff_ne.mpr c14
             have c14b1:((x3_1.length:Int) !=0)=true:=bne_iff_ne.mpr c14
             have c14b2: ¬(x3_1=[]):=fun h_=>c14 (by rw [h_];rfl)
             (first|rw [c14b0]|(simp only [i64_w,i32_w];rw [c14b0])|skip)
             obtain ⟨ji15,hji15⟩: ∃j_:Int,(Int.tmod (wrap64 (Int.tdiv (wrap64 (rd l0 x4_1)) 3)) (x3_1.length:Int))=j_:=⟨_,rfl⟩
             replace H:(if 0≤(ji15) then (if (ji15)<(x3_1.length:Int) then (law12_Make.j3 kj7 l0 x3_1 x4_1 ((rd_T31 x3_1 (ji15)).f0)) else (none)) else (none))=some r:=by first|(rw [hji15] at H;exact H)|(simp only [hji15] at H ⊢;exact H)
             by_cases c16:0≤(ji15)
             ·rw [if_pos c16] at H
              have c16b0:decide (0≤(ji15))=true:=decide_eq_true c16
              clear c16
              by_cases c17:(ji15)<(x3_1.length:Int)
              ·rw [if_pos c17] at H
               have c17b0:decide ((ji15)<(x3_1.length:Int))=true:=decide_eq_true c17
               clear c17
               have H':=Aside0.mk H
               clear H
               obtain ⟨Ao18,co18,eo18⟩:=Kd.R_slice HO_3.out
               subst eo18
               have p2:0≤((ji15):Int):=of_decide_eq_true zq_
               have q2:(ji15)<(x3_1.length:Int):=of_decide_eq_true zq_
               obtain ⟨ad2,e2,hx2_0,hx2_1,hx2_2,hx2_3,hx2_4,hx2_5,hx2_6,hx2_7,hx2_8,hx2_9,hx2_10,hx2_11⟩:=at_T31 (Kd.R_reads' HO_3.out).2.2 (ji15) p2 q2
               cases e2
               replace p2:=eq_true p2
               replace q2:=eq_true q2
               go_wp2
               go_meet
               case rel=>exact ⟨_,((rd_T31 x3_1 (ji15)).f0),(by first|rfl|(simp;done)|(simp only [←hji15]<;>(first|rfl|simp))|(simp [*];done)),H',⟨by have:=HK1.out;have:=HJ1.out;have:=HJ7.out;first|omega|exact Nat.le_refl _⟩,⟨by (with_reducible repeat (first|apply Kd.R_alloc|apply Kd.R_drewN|apply Kd.R_drew));exact HO_3.out⟩,⟨zl0_ HB⟩⟩
              ·rw [if_neg c17] at H
               exact absurd H (by simp)
             ·rw [if_neg c16] at H
              exact absurd H (by simp)
           ·replace c13:=Bool.eq_false_iff.mpr c13
            subst c13
            have H1:(law12_Make.j3 kj7 l0 x3_1 x4_1 (⟨#[]⟩:ByteArray))=some r:=by rw [if_neg (show¬(false=true) by decide)] at H;exact H
            clear H
            have H:=H1
            clear H1
            have H':=Aside0.mk H
            clear H
            go_wp2
            go_meet
            case rel=>exact ⟨_,((⟨#[]⟩:ByteArray)),(by first|rfl|(simp;done)|(simp [*];done)),H',⟨by have:=HK1.out;have:=HJ1.out;have:=HJ7.out;first|omega|exact Nat.le_refl _⟩,⟨by (with_reducible repeat (first|apply Kd.R_alloc|apply Kd.R_drewN|apply Kd.R_drew));exact HO_3.out⟩,⟨zl0_ HB⟩⟩
          case rest=>
           clear HC12
           try clear c1
           try clear p1
           try clear q1
           try clear hx1
           try clear p2
           try clear q2
           try clear hx2
           try clear c3
           try clear c3b0
           try clear c5
           try clear c6
           try clear c6b0
           try clear p6
           try clear c7
           try clear c7b0
           try clear c9
           try clear c9b0
           try clear c9b1
           try clear c13
           try clear c14
           try clear c14b0
           try clear c14b1
           try clear c14b2
           try clear c16
           try clear c16b0
           try clear c17
           try clear c17b0
           try clear hx1_0
           try clear hx2_0
           try clear hx2_1
           try clear hx2_10
           try clear hx2_11
           try clear hx2_2
           try clear hx2_3
           try clear hx2_4
           try clear hx2_5
           try clear hx2_6
           try clear hx2_7
           try clear hx2_8
           try clear hx2_9
           try clear p1
           try clear p2
           try clear p6
           try clear q1
           try clear q2
           obtain ⟨kq,x6_11,rfl,HA,HJ11,HO_3,HB⟩:=hcut
           cases kq with
           |zero=>exact absurd HA.out (by simp [law12_Make.j3])
           |succ kj11=>
            have H:=HA.out
            clear HA
            simp only [law12_Make.j3] at H
            obtain ⟨ji19,hji19⟩: ∃j_:Int,(wrap64 (x4_1+1))=j_:=⟨_,rfl⟩
            replace H:(if 0≤(ji19) then (if (ji19)<(l0.length:Int) then ((r10_Create.f kj11 x3_1 (strOfNums (([(wrap64 (97+(Int.tmod (wrap64 ((x3_1.length:Int)*5)) 24))) % 256]:List Int))) x6_11 (wrap64 (20+(wrap64 (rd l0 (ji19))))) (wrap64 (20+(wrap64 (rd l0 (ji19))))) (wrap64 (20+(wrap64 (rd l0 (ji19)))))).bind fun bt7=>(if bt7.2=0 then (if 0≤(wrap64 (x4_1+2)) then (if (wrap64 (x4_1+2))<(l0.length:Int) then (if (bt7.1.length:Int)=0 then (none) else (if 0≤(Int.tmod (wrap64 (Int.tdiv (wrap64 (rd l0 (wrap64 (x4_1+2)))) 16)) (bt7.1.length:Int)) then (if (Int.tmod (wrap64 (Int.tdiv (wrap64 (rd l0 (wrap64 (x4_1+2)))) 16)) (bt7.1.length:Int))<(bt7.1.length:Int) then ((r10_Admit.f kj11 bt7.1 ((rd_T31 bt7.1 (Int.tmod (wrap64 (Int.tdiv (wrap64 (rd l0 (wrap64 (x4_1+2)))) 16)) (bt7.1.length:Int))).f0) (Int.tmod (wrap64 (rd l0 (wrap64 (x4_1+2)))) 16) (wrap64 (Int.tdiv (Int.tmod (wrap64 (rd l0 (wrap64 (x4_1+2)))) 16) 2)) (Int.tmod (Int.tmod (wrap64 (rd l0 (wrap64 (x4_1+2)))) 16) 3)).bind fun bt15=>(if bt15.2=0 then (law12_Make.l0 kj11 l0 bt15.1 (wrap64 (x4_1+3))) else (law12_Make.l0 kj11 l0 bt7.1 (wrap64 (x4_1+3))))) else (none)) else (none))) else (none)) else (none)) else (law12_Make.l0 kj11 l0 x3_1 (wrap64 (x4_1+3))))) else (none)) else (none))=some r:=by first|(rw [hji19] at H;exact H)|(simp only [hji19] at H ⊢;exact H)
            have hji19w:(IntKind.i64.wrap (x4_1+1))=ji19:=(i64_w _).trans hji19
            by_cases c20:0≤(ji19)
            ·rw [if_pos c20] at H
             have c20b0:decide (0≤(ji19))=true:=decide_eq_true c20
             clear c20
             by_cases c21:(ji19)<(l0.length:Int)
             ·rw [if_pos c21] at H
              have c21b0:decide ((ji19)<(l0.length:Int))=true:=decide_eq_true c21
              clear c21
              obtain ⟨y4,hy4⟩: ∃y_:List Int,y_=(([(wrap64 (97+(Int.tmod (wrap64 ((x3_1.length:Int)*5)) 24))) % 256]:List Int)):=⟨_,rfl⟩
              replace H:((r10_Create.f kj11 x3_1 (strOfNums y4) x6_11 (wrap64 (20+(wrap64 (rd l0 (ji19))))) (wrap64 (20+(wrap64 (rd l0 (ji19))))) (wrap64 (20+(wrap64 (rd l0 (ji19)))))).bind fun bt7=>(if bt7.2=0 then (if 0≤(wrap64 (x4_1+2)) then (if (wrap64 (x4_1+2))<(l0.length:Int) then (if (bt7.1.length:Int)=0 then (none) else (if 0≤(Int.tmod (wrap64 (Int.tdiv (wrap64 (rd l0 (wrap64 (x4_1+2)))) 16)) (bt7.1.length:Int)) then (if (Int.tmod (wrap64 (Int.tdiv (wrap64 (rd l0 (wrap64 (x4_1+2)))) 16)) (bt7.1.length:Int))<(bt7.1.length:Int) then ((r10_Admit.f kj11 bt7.1 ((rd_T31 bt7.1 (Int.tmod (wrap64 (Int.tdiv (wrap64 (rd l0 (wrap64 (x4_1+2)))) 16)) (bt7.1.length:Int))).f0) (Int.tmod (wrap64 (rd l0 (wrap64 (x4_1+2)))) 16) (wrap64 (Int.tdiv (Int.tmod (wrap64 (rd l0 (wrap64 (x4_1+2)))) 16) 2)) (Int.tmod (Int.tmod (wrap64 (rd l0 (wrap64 (x4_1+2)))) 16) 3)).bind fun bt15=>(if bt15.2=0 then (law12_Make.l0 kj11 l0 bt15.1 (wrap64 (x4_1+3))) else (law12_Make.l0 kj11 l0 bt7.1 (wrap64 (x4_1+3))))) else (none)) else (none))) else (none)) else (none)) else (law12_Make.l0 kj11 l0 x3_1 (wrap64 (x4_1+3)))))=some r:=by first|(rw [hy4];with_reducible exact H)|(have H2_:=(Option.bind_some _ _).symm.trans H;rw [hy4];with_reducible exact H2_)|(have H2_:=(Option.bind_some _ _).symm.trans H;with_reducible exact H2_)|with_reducible exact H|(rw [hy4];exact H)|exact H
              have Ny4:=Aside0.mk hy4
              clear hy4
              replace H:=Option.bind_eq_some_iff.mp H
              obtain ⟨⟨t7,t10⟩,A220,H⟩:=H
              replace H:(if t10=0 then (if 0≤(wrap64 (x4_1+2)) then (if (wrap64 (x4_1+2))<(l0.length:Int) then (if (t7.length:Int)=0 then (none) else (if 0≤(Int.tmod (wrap64 (Int.tdiv (wrap64 (rd l0 (wrap64 (x4_1+2)))) 16)) (t7.length:Int)) then (if (Int.tmod (wrap64 (Int.tdiv (wrap64 (rd l0 (wrap64 (x4_1+2)))) 16)) (t7.length:Int))<(t7.length:Int) then ((r10_Admit.f kj11 t7 ((rd_T31 t7 (Int.tmod (wrap64 (Int.tdiv (wrap64 (rd l0 (wrap64 (x4_1+2)))) 16)) (t7.length:Int))).f0) (Int.tmod (wrap64 (rd l0 (wrap64 (x4_1+2)))) 16) (wrap64 (Int.tdiv (Int.tmod (wrap64 (rd l0 (wrap64 (x4_1+2)))) 16) 2)) (Int.tmod (Int.tmod (wrap64 (rd l0 (wrap64 (x4_1+2)))) 16) 3)).bind fun bt15=>(if bt15.2=0 then (law12_Make.l0 kj11 l0 bt15.1 (wrap64 (x4_1+3))) else (law12_Make.l0 kj11 l0 t7 (wrap64 (x4_1+3))))) else (none)) else (none))) else (none)) else (none)) else (law12_Make.l0 kj11 l0 x3_1 (wrap64 (x4_1+3))))=some r:=H
              have A22:=Aside0.mk A220
              clear A220
              by_cases c23:t10=0
              ·rw [if_pos c23] at H
               have c23b0:(t10==0)=true:=beq_iff_eq.mpr c23
               have c23b1:(t10 !=0)=false:=bne_eq_false_iff_eq.mpr c23
               clear c23
               obtain ⟨ji24,hji24⟩: ∃j_:Int,(wrap64 (x4_1+2))=j_:=⟨_,rfl⟩
               replace H:(if 0≤(ji24) then (if (ji24)<(l0.length:Int) then (if (t7.length:Int)=0 then (none) else (if 0≤(Int.tmod (wrap64 (Int.tdiv (wrap64 (rd l0 (ji24))) 16)) (t7.length:Int)) then (if (Int.tmod (wrap64 (Int.tdiv (wrap64 (rd l0 (ji24))) 16)) (t7.length:Int))<(t7.length:Int) then ((r10_Admit.f kj11 t7 ((rd_T31 t7 (Int.tmod (wrap64 (Int.tdiv (wrap64 (rd l0 (ji24))) 16)) (t7.length:Int))).f0) (Int.tmod (wrap64 (rd l0 (ji24))) 16) (wrap64 (Int.tdiv (Int.tmod (wrap64 (rd l0 (ji24))) 16) 2)) (Int.tmod (Int.tmod (wrap64 (rd l0 (ji24))) 16) 3)).bind fun bt15=>(if bt15.2=0 then (law12_Make.l0 kj11 l0 bt15.1 (wrap64 (x4_1+3))) else (law12_Make.l0 kj11 l0 t7 (wrap64 (x4_1+3))))) else (none)) else (none))) else (none)) else (none))=some r:=by first|(rw [hji24] at H;exact H)|(simp only [hji24] at H ⊢;exact H)
               (try rw [hji24] at A22)
               have hji24w:(IntKind.i64.wrap (x4_1+2))=ji24:=(i64_w _).trans hji24
               by_cases c25:0≤(ji24)
               ·rw [if_pos c25] at H
                have c25b0:decide (0≤(ji24))=true:=decide_eq_true c25
                clear c25
                by_cases c26:(ji24)<(l0.length:Int)
                ·rw [if_pos c26] at H
                 have c26b0:decide ((ji24)<(l0.length:Int))=true:=decide_eq_true c26
                 clear c26
                 by_cases c27:(t7.length:Int)=0
                 ·rw [if_pos c27] at H
                  exact absurd H (by simp)
                 ·rw [if_neg c27] at H
                  have c27b0:((t7.length:Int)==0)=false:=beq_eq_false_iff_ne.mpr c27
                  have c27b1:((t7.length:Int) !=0)=true:=bne_iff_ne.mpr c27
                  have c27b2: ¬(t7=[]):=fun h_=>c27 (by rw [h_];rfl)
                  obtain ⟨ji28,hji28⟩: ∃j_:Int,(Int.tmod (wrap64 (Int.tdiv (wrap64 (rd l0 (ji24))) 16)) (t7.length:Int))=j_:=⟨_,rfl⟩
                  replace H:(if 0≤(ji28) then (if (ji28)<(t7.length:Int) then ((r10_Admit.f kj11 t7 ((rd_T31 t7 (ji28)).f0) (Int.tmod (wrap64 (rd l0 (ji24))) 16) (wrap64 (Int.tdiv (Int.tmod (wrap64 (rd l0 (ji24))) 16) 2)) (Int.tmod (Int.tmod (wrap64 (rd l0 (ji24))) 16) 3)).bind fun bt15=>(if bt15.2=0 then (law12_Make.l0 kj11 l0 bt15.1 (wrap64 (x4_1+3))) else (law12_Make.l0 kj11 l0 t7 (wrap64 (x4_1+3))))) else (none)) else (none))=some r:=by first|(rw [hji28] at H;exact H)|(simp only [hji28] at H ⊢;exact H)
                  (try rw [hji28] at A22)
                  by_cases c29:0≤(ji28)
                  ·rw [if_pos c29] at H
                   have c29b0:decide (0≤(ji28))=true:=decide_eq_true c29
                   clear c29
                   by_cases c30:(ji28)<(t7.length:Int)
                   ·rw [if_pos c30] at H
                    have c30b0:decide ((ji28)<(t7.length:Int))=true:=decide_eq_true c30
                    clear c30
                    replace H:=Option.bind_eq_some_iff.mp H
                    obtain ⟨⟨t15,t18⟩,A310,H⟩:=H
                    replace H:(if t18=0 then (law12_Make.l0 kj11 l0 t15 (wrap64 (x4_1+3))) else (law12_Make.l0 kj11 l0 t7 (wrap64 (x4_1+3))))=some r:=H
                    have A31:=Aside0.mk A310
                    clear A310
                    by_cases c32:t18=0
                    ·rw [if_pos c32] at H
                     have c32b0:(t18==0)=true:=beq_iff_eq.mpr c32
                     have c32b1:(t18 !=0)=false:=bne_eq_false_iff_eq.mpr c32
                     clear c32
                     have H':=Aside0.mk H
                     clear H
                     have p3:0≤((ji19):Int):=of_decide_eq_true zq_
                     have q3:(ji19)<(l0.length:Int):=of_decide_eq_true zq_
                     obtain ⟨ad3,e3,hx3_0⟩:=Kd.at_int HR0.out (ji19) p3 q3
                     obtain rfl:ad1=ad3:=(by injection e3)
                     replace hx3_0:=zx_ HB hx3_0
                     replace p3:=eq_true p3
                     replace q3:=eq_true q3
                     obtain ⟨Ao33,co33,eo33⟩:=Kd.R_slice HO_3.out
                     subst eo33
                     go_wp2_with (first|((with_reducible refine gate_dst (N:=60) rfl ?_);(try (refine gate_guard (by rfl) ?_;dsimp only));refine Kd.R_lit (Kd.int .u8) _ 5 ?hg (N:=60) ?hd (xs:=([(wrap64 (97+(Int.tmod (wrap64 ((x3_1.length:Int)*5)) 24))) % 256]:List Int)) (inner:=[.int .u8 ((wrap64 (97+(Int.tmod (wrap64 ((x3_1.length:Int)*5)) 24))) % 256)]) (ok:=fun _=>True) (okp:=fun _=>True) ?hr ?hp (fun _ hk=>hk) trivial (Below.refl _ _) (Nat.le_refl _) (by simp) ?_;(case hd=>rfl);(case hg=>rfl);(case hr=>first|(go_simp;done)|(go_simp;rfl));(case hp=>exact (Reps.one (show Kd.M (Kd.int .u8) _ _ _ ((wrap64 (97+(Int.tmod (wrap64 ((x3_1.length:Int)*5)) 24))) % 256) [.int .u8 ((wrap64 (97+(Int.tmod (wrap64 ((x3_1.length:Int)*5)) 24))) % 256)] from rfl) (Reps.none _ _)));intro v5 w34 ho35 hb hg_ hnew_;clear hg_ hnew_;(first|rw [←Ny4.out] at ho35|(simp only [Int.reduceToNat] at ho35;rw [←Ny4.out] at ho35));have n0_:=am_ (Kd.R_below (zr_ HO_3) hb);have n1_:=am_ (Kd.R_lower ho35 (below_size (zl0_ HB)));have n2_:=am_ (below_step (zl0_ HB) hb);clear HO_3;clear HB;have HO_3:=n0_;have HO6:=n1_;have HB:=n2_;clear n0_ n1_ n2_;clear hb ho35;have hcv36:=own_string (P:=Try.prog) Try.underlying22 Try.underlying5 Try.underlying9 (Kd.own_of_R HO6.out))|((with_reducible refine gate_callee (f:=83) rfl ?_);refine goesL_ (some 67) rfl rfl Try.func83 (by kernel_rfl) rfl #[.slice Ao33 x3_1.length co33, .string (strOfNums y4), .string x6_11, .agg #[.int .i64 (wrap64 (20+(wrap64 (rd l0 (ji19))))), .int .i64 (wrap64 (20+(wrap64 (rd l0 (ji19))))), .int .i64 (wrap64 (20+(wrap64 (rd l0 (ji19)))))]] rfl (by (try simp only [List.map_toArray,List.map_cons,List.map_nil]);first|done|(simp only [hji19];rfl)|rfl|(simp only [List.length_drop,List.length_take];rfl)) ?_;(with_reducible refine (r10_Create.calls kj11 _ _ x3_1 (strOfNums y4) x6_11 (wrap64 (20+(wrap64 (rd l0 (ji19))))) (wrap64 (20+(wrap64 (rd l0 (ji19))))) (wrap64 (20+(wrap64 (rd l0 (ji19))))) t7 t10 _ ?side1 ?side2 A22.out).mono ?_);(case side1=>repeat (first|exact (Kd.R_reads' HO_3.out).2.2|(with_reducible refine Kd.C_alloc ?_ _)|(with_reducible refine Kd.C_drewN ?_ _)|(with_reducible refine Kd.C_drew ?_)));(case side2=>exact (Kd.R_reads' HO_3.out).2.1);rintro e w37 ⟨v8,rfl,ho0,hb⟩;refine ⟨_,rfl, ?_⟩;have n0_:=am_ (Kd.R_elder' (zr_ HO_3) (Kd.R_base ho0) hb);have n1_:=am_ (Kd.R_below (zr_ HO6) hb);have n2_:=am_ (Kd.R_lower (Kd.R_new' ho0 (Kd.R_lt (zr_ HO_3))) (below_size (zl0_ HB)));have n3_:=am_ (below_step (zl0_ HB) hb);clear HO_3;clear HO6;clear HB;have HO_3:=n0_;have HO6:=n1_;have HO9:=n2_;have HB:=n3_;clear n0_ n1_ n2_ n3_;(try clear hb);(try clear hb2);(try clear hk);(try clear hi);(try clear ho0))|((with_reducible refine gate_dst (N:=8) rfl ?_);(try (refine gate_guard (by rfl) ?_;dsimp only));refine box_event ?hg (N:=8) ?hd (cs:=#[.slice none 0 0, .int .i64 0]) (t:=67) ?hr ?_;(case hd=>rfl);(case hg=>rfl);(case hr=>first|(go_simp;done)|(go_simp;rfl));intro gb11 hg w38 hbox hb;have n0_:=am_ (Kd.R_below (zr_ HO_3) hb);have n1_:=am_ (Kd.R_below (zr_ HO6) hb);have n2_:=am_ (Kd.R_below (zr_ HO9) hb);have n3_:=am_ (below_step (zl0_ HB) hb);have n4_:=am_ (hbox);have n5_:=am_ ((zg0_ HB hg:w.heap.size≤gb11));have n6_:=am_ ((zg0_ HB hg:w.heap.size≤gb11));clear HO_3;clear HO6;clear HO9;clear HB;have HO_3:=n0_;have HO6:=n1_;have HO9:=n2_;have HB:=n3_;have BK11:=n4_;have GW11:=n5_;have GE11:=n6_;clear n0_ n1_ n2_ n3_ n4_ n5_ n6_;clear hb hbox hg;obtain ⟨Ao39,co39,eo39⟩:=Kd.R_slice HO9.out;subst eo39;have hcz40_0:w38.cell? ⟨gb11,0,none⟩=some (.slice none 0 0):=(blk_cell BK11.out 0).trans rfl;have hcz40_1:w38.cell? ⟨gb11,1,none⟩=some (.int .i64 0):=(blk_cell BK11.out 1).trans rfl;have hfz40_0:=blk_frozen BK11.out 0;have hfz40_1:=blk_frozen BK11.out 1;have p12:0≤((ji24):Int):=of_decide_eq_true zq_;have q12:(ji24)<(l0.length:Int):=of_decide_eq_true zq_;obtain ⟨ad12,e12,hx12_0⟩:=Kd.at_int HR0.out (ji24) p12 q12;obtain rfl:ad1=ad12:=(by injection e12);have hn12_0:ad1.block≠gb11:=Nat.ne_of_lt (Nat.lt_of_lt_of_le (by have:=World.block_lt_of_cell? _ _ hx12_0;first|rwa [add_block] at this|exact this) GW11.out);have hn12_1:ad1.block≠gb11:=Nat.ne_of_lt (Nat.lt_of_lt_of_le (by have:=World.block_lt_of_cell? _ _ hx12_0;first|rwa [add_block] at this|exact this) GW11.out);replace hx12_0:=zx_ HB hx12_0;replace hx12_0:=(cell_far (p:=⟨gb11,0,none⟩) (by first|(rw [add_block];exact hn12_0)|(show (Addr.add _ _).block≠_;rw [add_block];exact hn12_0)|exact hn12_0) (.slice Ao39 t7.length co39)).trans hx12_0;replace hx12_0:=(cell_far (p:=⟨gb11,1,none⟩) (by first|(rw [add_block];exact hn12_1)|(show (Addr.add _ _).block≠_;rw [add_block];exact hn12_1)|exact hn12_1) (.int .i64 t10)).trans hx12_0;clear hn12_0;clear hn12_1;replace p12:=eq_true p12;replace q12:=eq_true q12;have p13:0≤((ji24):Int):=of_decide_eq_true zq_;have q13:(ji24)<(l0.length:Int):=of_decide_eq_true zq_;obtain ⟨ad13,e13,hx13_0⟩:=Kd.at_int HR0.out (ji24) p13 q13;obtain rfl:ad1=ad13:=(by injection e13);have hn13_0:ad1.block≠gb11:=Nat.ne_of_lt (Nat.lt_of_lt_of_le (by have:=World.block_lt_of_cell? _ _ hx13_0;first|rwa [add_block] at this|exact this) GW11.out);have hn13_1:ad1.block≠gb11:=Nat.ne_of_lt (Nat.lt_of_lt_of_le (by have:=World.block_lt_of_cell? _ _ hx13_0;first|rwa [add_block] at this|exact this) GW11.out);replace hx13_0:=zx_ HB hx13_0;replace hx13_0:=(cell_far (p:=⟨gb11,0,none⟩) (by first|(rw [add_block];exact hn13_0)|(show (Addr.add _ _).block≠_;rw [add_block];exact hn13_0)|exact hn13_0) (.slice Ao39 t7.length co39)).trans hx13_0;replace hx13_0:=(cell_far (p:=⟨gb11,1,none⟩) (by first|(rw [add_block];exact hn13_1)|(show (Addr.add _ _).block≠_;rw [add_block];exact hn13_1)|exact hn13_1) (.int .i64 t10)).trans hx13_0;clear hn13_0;clear hn13_1;replace p13:=eq_true p13;replace q13:=eq_true q13;have p14:0≤((ji28):Int):=of_decide_eq_true zq_;have q14:(ji28)<(t7.length:Int):=of_decide_eq_true zq_;obtain ⟨ad14,e14,hx14_0,hx14_1,hx14_2,hx14_3,hx14_4,hx14_5,hx14_6,hx14_7,hx14_8,hx14_9,hx14_10,hx14_11⟩:=at_T31 (Kd.R_reads' HO9.out).2.2 (ji28) p14 q14;cases e14;have hn14_0:ad14.block≠gb11:=Kd.own_blk (Kd.R_ne HO9.out BK11.out (by decide));have hn14_1:ad14.block≠gb11:=Kd.own_blk (Kd.R_ne HO9.out BK11.out (by decide));replace hx14_0:=(cell_far (p:=⟨gb11,0,none⟩) (by first|(rw [add_block];exact hn14_0)|(show (Addr.add _ _).block≠_;rw [add_block];exact hn14_0)|exact hn14_0) (.slice (some ad14) t7.length co39)).trans hx14_0;replace hx14_1:=(cell_far (p:=⟨gb11,0,none⟩) (by first|(rw [add_block];exact hn14_0)|(show (Addr.add _ _).block≠_;rw [add_block];exact hn14_0)|exact hn14_0) (.slice (some ad14) t7.length co39)).trans hx14_1;replace hx14_2:=(cell_far (p:=⟨gb11,0,none⟩) (by first|(rw [add_block];exact hn14_0)|(show (Addr.add _ _).block≠_;rw [add_block];exact hn14_0)|exact hn14_0) (.slice (some ad14) t7.length co39)).trans hx14_2;replace hx14_3:=(cell_far (p:=⟨gb11,0,none⟩) (by first|(rw [add_block];exact hn14_0)|(show (Addr.add _ _).block≠_;rw [add_block];exact hn14_0)|exact hn14_0) (.slice (some ad14) t7.length co39)).trans hx14_3;replace hx14_4:=(cell_far (p:=⟨gb11,0,none⟩) (by first|(rw [add_block];exact hn14_0)|(show (Addr.add _ _).block≠_;rw [add_block];exact hn14_0)|exact hn14_0) (.slice (some ad14) t7.length co39)).trans hx14_4;replace hx14_5:=(cell_far (p:=⟨gb11,0,none⟩) (by first|(rw [add_block];exact hn14_0)|(show (Addr.add _ _).block≠_;rw [add_block];exact hn14_0)|exact hn14_0) (.slice (some ad14) t7.length co39)).trans hx14_5;replace hx14_6:=(cell_far (p:=⟨gb11,0,none⟩) (by first|(rw [add_block];exact hn14_0)|(show (Addr.add _ _).block≠_;rw [add_block];exact hn14_0)|exact hn14_0) (.slice (some ad14) t7.length co39)).trans hx14_6;replace hx14_7:=(cell_far (p:=⟨gb11,0,none⟩) (by first|(rw [add_block];exact hn14_0)|(show (Addr.add _ _).block≠_;rw [add_block];exact hn14_0)|exact hn14_0) (.slice (some ad14) t7.length co39)).trans hx14_7;replace hx14_8:=(cell_far (p:=⟨gb11,0,none⟩) (by first|(rw [add_block];exact hn14_0)|(show (Addr.add _ _).block≠_;rw [add_block];exact hn14_0)|exact hn14_0) (.slice (some ad14) t7.length co39)).trans hx14_8;replace hx14_9:=(cell_far (p:=⟨gb11,0,none⟩) (by first|(rw [add_block];exact hn14_0)|(show (Addr.add _ _).block≠_;rw [add_block];exact hn14_0)|exact hn14_0) (.slice (some ad14) t7.length co39)).trans hx14_9;replace hx14_10:=(cell_far (p:=⟨gb11,0,none⟩) (by first|(rw [add_block];exact hn14_0)|(show (Addr.add _ _).block≠_;rw [add_block];exact hn14_0)|exact hn14_0) (.slice (some ad14) t7.length co39)).trans hx14_10;replace hx14_11:=(cell_far (p:=⟨gb11,0,none⟩) (by first|(rw [add_block];exact hn14_0)|(show (Addr.add _ _).block≠_;rw [add_block];exact hn14_0)|exact hn14_0) (.slice (some ad14) t7.length co39)).trans hx14_11;replace hx14_0:=(cell_far (p:=⟨gb11,1,none⟩) (by first|(rw [add_block];exact hn14_1)|(show (Addr.add _ _).block≠_;rw [add_block];exact hn14_1)|exact hn14_1) (.int .i64 t10)).trans hx14_0;replace hx14_1:=(cell_far (p:=⟨gb11,1,none⟩) (by first|(rw [add_block];exact hn14_1)|(show (Addr.add _ _).block≠_;rw [add_block];exact hn14_1)|exact hn14_1) (.int .i64 t10)).trans hx14_1;replace hx14_2:=(cell_far (p:=⟨gb11,1,none⟩) (by first|(rw [add_block];exact hn14_1)|(show (Addr.add _ _).block≠_;rw [add_block];exact hn14_1)|exact hn14_1) (.int .i64 t10)).trans hx14_2;replace hx14_3:=(cell_far (p:=⟨gb11,1,none⟩) (by first|(rw [add_block];exact hn14_1)|(show (Addr.add _ _).block≠_;rw [add_block];exact hn14_1)|exact hn14_1) (.int .i64 t10)).trans hx14_3;replace hx14_4:=(cell_far (p:=⟨gb11,1,none⟩) (by first|(rw [add_block];exact hn14_1)|(show (Addr.add _ _).block≠_;rw [add_block];exact hn14_1)|exact hn14_1) (.int .i64 t10)).trans hx14_4;replace hx14_5:=(cell_far (p:=⟨gb11,1,none⟩) (by first|(rw [add_block];exact hn14_1)|(show (Addr.add _ _).block≠_;rw [add_block];exact hn14_1)|exact hn14_1) (.int .i64 t10)).trans hx14_5;replace hx14_6:=(cell_far (p:=⟨gb11,1,none⟩) (by first|(rw [add_block];exact hn14_1)|(show (Addr.add _ _).block≠_;rw [add_block];exact hn14_1)|exact hn14_1) (.int .i64 t10)).trans hx14_6;replace hx14_7:=(cell_far (p:=⟨gb11,1,none⟩) (by first|(rw [add_block];exact hn14_1)|(show (Addr.add _ _).block≠_;rw [add_block];exact hn14_1)|exact hn14_1) (.int .i64 t10)).trans hx14_7;replace hx14_8:=(cell_far (p:=⟨gb11,1,none⟩) (by first|(rw [add_block];exact hn14_1)|(show (Addr.add _ _).block≠_;rw [add_block];exact hn14_1)|exact hn14_1) (.int .i64 t10)).trans hx14_8;replace hx14_9:=(cell_far (p:=⟨gb11,1,none⟩) (by first|(rw [add_block];exact hn14_1)|(show (Addr.add _ _).block≠_;rw [add_block];exact hn14_1)|exact hn14_1) (.int .i64 t10)).trans hx14_9;replace hx14_10:=(cell_far (p:=⟨gb11,1,none⟩) (by first|(rw [add_block];exact hn14_1)|(show (Addr.add _ _).block≠_;rw [add_block];exact hn14_1)|exact hn14_1) (.int .i64 t10)).trans hx14_10;replace hx14_11:=(cell_far (p:=⟨gb11,1,none⟩) (by first|(rw [add_block];exact hn14_1)|(show (Addr.add _ _).block≠_;rw [add_block];exact hn14_1)|exact hn14_1) (.int .i64 t10)).trans hx14_11;clear hn14_0;clear hn14_1;replace p14:=eq_true p14;replace q14:=eq_true q14)|((with_reducible refine gate_callee (f:=66) rfl ?_);refine goesL_ (some 102) rfl rfl Try.func66 (by kernel_rfl) rfl #[.slice (some ad14) t7.length co39, .string ((rd_T31 t7 (ji28)).f0), .agg #[.int .i64 (Int.tmod (wrap64 (rd l0 (ji24))) 16), .int .i64 (wrap64 (Int.tdiv (Int.tmod (wrap64 (rd l0 (ji24))) 16) 2)), .int .i64 (Int.tmod (Int.tmod (wrap64 (rd l0 (ji24))) 16) 3)]] rfl (by (try simp only [List.map_toArray,List.map_cons,List.map_nil]);first|done|(simp only [hji24,hji28];rfl)|rfl|(simp only [List.length_drop,List.length_take];rfl)) ?_;(with_reducible refine (r10_Admit.calls kj11 _ _ t7 ((rd_T31 t7 (ji28)).f0) (Int.tmod (wrap64 (rd l0 (ji24))) 16) (wrap64 (Int.tdiv (Int.tmod (wrap64 (rd l0 (ji24))) 16) 2)) (Int.tmod (Int.tmod (wrap64 (rd l0 (ji24))) 16) 3) t15 t18 _ ?side1 ?side2 A31.out).mono ?_);(case side1=>refine (Kd.R_reads' (e:=31) (base:=w.heap.size) (ok:=fun k_=>(True∧some k_≠(.slice Ao33 x3_1.length co33:Value).ownBlock)) (n:=t7.length) (c:=co39) ?_).2.2;exact (by refine zt_ ?_;exact (Kd.R_mono (Kd.R_far (p:=⟨gb11,1,none⟩) (Kd.R_far (p:=⟨gb11,0,none⟩) (Kd.R_types HO9.out BK11.out (by decide)) (fun _ hk=>hk.2) (.slice (some ad14) t7.length co39)) (fun _ hk=>hk.2) (.int .i64 t10)) (fun _ h_=>h_.1))));(case side2=>exact (Kd.R_reads' HO9.out).2.1);rintro e w41 ⟨v16,rfl,ho0,hb⟩;refine ⟨_,rfl, ?_⟩;have n0_:=am_ (Kd.R_elder' (by refine zt_ ?_;exact (Kd.R_mono (Kd.R_far (p:=⟨gb11,1,none⟩) (Kd.R_far (p:=⟨gb11,0,none⟩) (Kd.R_types HO_3.out BK11.out (by decide)) (fun _ hk=>hk.2) (.slice (some ad14) t7.length co39)) (fun _ hk=>hk.2) (.int .i64 t10)) (fun _ h_=>h_.1))) (Kd.R_base ho0) hb);have n1_:=am_ (Kd.R_below (by refine zt_ ?_;exact (Kd.R_mono (Kd.R_far (p:=⟨gb11,1,none⟩) (Kd.R_far (p:=⟨gb11,0,none⟩) (Kd.R_types HO6.out BK11.out (by decide)) (fun _ hk=>hk.2) (.slice (some ad14) t7.length co39)) (fun _ hk=>hk.2) (.int .i64 t10)) (fun _ h_=>h_.1))) hb);have n2_:=am_ (Kd.R_elder' (by refine zt_ ?_;exact (Kd.R_mono (Kd.R_far (p:=⟨gb11,1,none⟩) (Kd.R_far (p:=⟨gb11,0,none⟩) (Kd.R_types HO9.out BK11.out (by decide)) (fun _ hk=>hk.2) (.slice (some ad14) t7.length co39)) (fun _ hk=>hk.2) (.int .i64 t10)) (fun _ h_=>h_.1))) (Kd.R_base ho0) hb);have n3_:=am_ (Kd.R_lower (Kd.R_new' (Kd.R_new' ho0 (Kd.R_lt (by refine zt_ ?_;exact (Kd.R_mono (Kd.R_far (p:=⟨gb11,1,none⟩) (Kd.R_far (p:=⟨gb11,0,none⟩) (Kd.R_types HO_3.out BK11.out (by decide)) (fun _ hk=>hk.2) (.slice (some ad14) t7.length co39)) (fun _ hk=>hk.2) (.int .i64 t10)) (fun _ h_=>h_.1))))) (Kd.R_lt (by refine zt_ ?_;exact (Kd.R_mono (Kd.R_far (p:=⟨gb11,1,none⟩) (Kd.R_far (p:=⟨gb11,0,none⟩) (Kd.R_types HO9.out BK11.out (by decide)) (fun _ hk=>hk.2) (.slice (some ad14) t7.length co39)) (fun _ hk=>hk.2) (.int .i64 t10)) (fun _ h_=>h_.1))))) (below_size (zl1_ HB GE11)));have n4_:=am_ (blk_below (g:=gb11) (o:= .cells #[.slice (some ad14) t7.length co39, .int .i64 t10] 67 (0,0)) (by refine zk_ ?_;refine blk_put (cs:=#[.slice (some ad14) t7.length co39, .int .i64 0]) ?_ 1 _ rfl;refine zk_ ?_;refine blk_put (cs:=#[.slice none 0 0, .int .i64 0]) ?_ 0 _ rfl;refine zk_ ?_;exact BK11.out) hb);have n5_:=am_ (below_step (zl1_ HB GE11) hb);clear HO_3;clear HO6;clear HO9;clear BK11;clear HB;have HO_3:=n0_;have HO6:=n1_;have HO9:=n2_;have HO17:=n3_;have BK11:=n4_;have HB:=n5_;clear n0_ n1_ n2_ n3_ n4_ n5_;(try clear hb);(try clear hb2);(try clear hk);(try clear hi);(try clear ho0))|((with_reducible refine gate_dst (N:=11) rfl ?_);(try (refine gate_guard (by rfl) ?_;dsimp only));refine box_event ?hg (N:=11) ?hd (cs:=#[.slice none 0 0, .int .i64 0]) (t:=67) ?hr ?_;(case hd=>rfl);(case hg=>rfl);(case hr=>first|(go_simp;done)|(go_simp;rfl));intro gb19 hg w42 hbox hb;have n0_:=am_ (Kd.R_below (zr_ HO_3) hb);have n1_:=am_ (Kd.R_below (zr_ HO6) hb);have n2_:=am_ (Kd.R_below (zr_ HO9) hb);have n3_:=am_ (Kd.R_below (zr_ HO17) hb);have n4_:=am_ (blk_below (zb_ BK11) hb);have n5_:=am_ (below_step (zl1_ HB GE11) hb);have n6_:=am_ (hbox);have n7_:=am_ ((zg1_ HB GE11 hg:w.heap.size≤gb19));have n8_:=am_ ((zg1_ HB GE11 hg:w.heap.size≤gb19));have n9_:=am_ ((zn_ BK11 hg:gb11≠gb19));have n10_:=am_ ((zm_ BK11 hg:gb19≠gb11));clear HO_3;clear HO6;clear HO9;clear HO17;clear BK11;clear HB;have HO_3:=n0_;have HO6:=n1_;have HO9:=n2_;have HO17:=n3_;have BK11:=n4_;have HB:=n5_;have BK19:=n6_;have GW19:=n7_;have GE19:=n8_;have NB11_19:=n9_;have NB19_11:=n10_;clear n0_ n1_ n2_ n3_ n4_ n5_ n6_ n7_ n8_ n9_ n10_;clear hb hbox hg;obtain ⟨Ao43,co43,eo43⟩:=Kd.R_slice HO17.out;subst eo43;have hnb44:=NB19_11.out;have hnc44:=NB11_19.out;have hcz45_0:w42.cell? ⟨gb19,0,none⟩=some (.slice none 0 0):=(blk_cell BK19.out 0).trans rfl;have hcz45_1:w42.cell? ⟨gb19,1,none⟩=some (.int .i64 0):=(blk_cell BK19.out 1).trans rfl;have hfz45_0:=blk_frozen BK19.out 0;have hfz45_1:=blk_frozen BK19.out 1))
                     go_roundg kj11
                     case measure=>have:=HK1.out;have:=HJ1.out;have:=HJ7.out;have:=HJ11.out;omega
                     case rel=>exact ⟨(t15),(wrap64 (x4_1+3)),(by first|rfl|(simp;done)|(simp [*];done)),H',⟨by have:=HK1.out;have:=HJ1.out;have:=HJ7.out;have:=HJ11.out;omega⟩,⟨by (with_reducible repeat (first|apply Kd.R_alloc|apply Kd.R_drewN|apply Kd.R_drew));exact Kd.R_mono (Kd.R_far (p:=⟨gb19,1,none⟩) (Kd.R_far (p:=⟨gb19,0,none⟩) (Kd.R_types HO17.out BK19.out (by decide)) (fun _ hk=>hk.2) (.slice Ao43 t15.length co43)) (fun _ hk=>hk.2) (.int .i64 t18)) (fun _ hk=>trivial)⟩,⟨zl2_ HB GE11 GE19⟩⟩
                    ·rw [if_neg c32] at H
                     have c32b0:(t18==0)=false:=beq_eq_false_iff_ne.mpr c32
                     have c32b1:(t18 !=0)=true:=bne_iff_ne.mpr c32
                     have H':=Aside0.mk H
                     clear H
                     have p3:0≤((ji19):Int):=of_decide_eq_true zq_
                     have q3:(ji19)<(l0.length:Int):=of_decide_eq_true zq_
                     obtain ⟨ad3,e3,hx3_0⟩:=Kd.at_int HR0.out (ji19) p3 q3
                     obtain rfl:ad1=ad3:=(by injection e3)
                     replace hx3_0:=zx_ HB hx3_0
                     replace p3:=eq_true p3
                     replace q3:=eq_true q3
                     obtain ⟨Ao46,co46,eo46⟩:=Kd.R_slice HO_3.out
                     subst eo46
                     go_wp2_with (first|((with_reducible refine gate_dst (N:=60) rfl ?_);(try (refine gate_guard (by rfl) ?_;dsimp only));refine Kd.R_lit (Kd.int .u8) _ 5 ?hg (N:=60) ?hd (xs:=([(wrap64 (97+(Int.tmod (wrap64 ((x3_1.length:Int)*5)) 24))) % 256]:List Int)) (inner:=[.int .u8 ((wrap64 (97+(Int.tmod (wrap64 ((x3_1.length:Int)*5)) 24))) % 256)]) (ok:=fun _=>True) (okp:=fun _=>True) ?hr ?hp (fun _ hk=>hk) trivial (Below.refl _ _) (Nat.le_refl _) (by simp) ?_;(case hd=>rfl);(case hg=>rfl);(case hr=>first|(go_simp;done)|(go_simp;rfl));(case hp=>exact (Reps.one (show Kd.M (Kd.int .u8) _ _ _ ((wrap64 (97+(Int.tmod (wrap64 ((x3_1.length:Int)*5)) 24))) % 256) [.int .u8 ((wrap64 (97+(Int.tmod (wrap64 ((x3_1.length:Int)*5)) 24))) % 256)] from rfl) (Reps.none _ _)));intro v5 w47 ho48 hb hg_ hnew_;clear hg_ hnew_;(first|rw [←Ny4.out] at ho48|(simp only [Int.reduceToNat] at ho48;rw [←Ny4.out] at ho48));have n0_:=am_ (Kd.R_below (zr_ HO_3) hb);have n1_:=am_ (Kd.R_lower ho48 (below_size (zl0_ HB)));have n2_:=am_ (below_step (zl0_ HB) hb);clear HO_3;clear HB;have HO_3:=n0_;have HO6:=n1_;have HB:=n2_;clear n0_ n1_ n2_;clear hb ho48;have hcv49:=own_string (P:=Try.prog) Try.underlying22 Try.underlying5 Try.underlying9 (Kd.own_of_R HO6.out))|((with_reducible refine gate_callee (f:=83) rfl ?_);refine goesL_ (some 67) rfl rfl Try.func83 (by kernel_rfl) rfl #[.slice Ao46 x3_1.length co46, .string (strOfNums y4), .string x6_11, .agg #[.int .i64 (wrap64 (20+(wrap64 (rd l0 (ji19))))), .int .i64 (wrap64 (20+(wrap64 (rd l0 (ji19))))), .int .i64 (wrap64 (20+(wrap64 (rd l0 (ji19)))))]] rfl (by (try simp only [List.map_toArray,List.map_cons,List.map_nil]);first|done|(simp only [hji19];rfl)|rfl|(simp only [List.length_drop,List.length_take];rfl)) ?_;(with_reducible refine (r10_Create.calls kj11 _ _ x3_1 (strOfNums y4) x6_11 (wrap64 (20+(wrap64 (rd l0 (ji19))))) (wrap64 (20+(wrap64 (rd l0 (ji19))))) (wrap64 (20+(wrap64 (rd l0 (ji19))))) t7 t10 _ ?side1 ?side2 A22.out).mono ?_);(case side1=>repeat (first|exact (Kd.R_reads' HO_3.out).2.2|(with_reducible refine Kd.C_alloc ?_ _)|(with_reducible refine Kd.C_drewN ?_ _)|(with_reducible refine Kd.C_drew ?_)));(case side2=>exact (Kd.R_reads' HO_3.out).2.1);rintro e w50 ⟨v8,rfl,ho0,hb⟩;refine ⟨_,rfl, ?_⟩;have n0_:=am_ (Kd.R_elder' (zr_ HO_3) (Kd.R_base ho0) hb);have n1_:=am_ (Kd.R_below (zr_ HO6) hb);have n2_:=am_ (Kd.R_lower (Kd.R_new' ho0 (Kd.R_lt (zr_ HO_3))) (below_size (zl0_ HB)));have n3_:=am_ (below_step (zl0_ HB) hb);clear HO_3;clear HO6;clear HB;have HO_3:=n0_;have HO6:=n1_;have HO9:=n2_;have HB:=n3_;clear n0_ n1_ n2_ n3_;(try clear hb);(try clear hb2);(try clear hk);(try clear hi);(try clear ho0))|((with_reducible refine gate_dst (N:=8) rfl ?_);(try (refine gate_guard (by rfl) ?_;dsimp only));refine box_event ?hg (N:=8) ?hd (cs:=#[.slice none 0 0, .int .i64 0]) (t:=67) ?hr ?_;(case hd=>rfl);(case hg=>rfl);(case hr=>first|(go_simp;done)|(go_simp;rfl));intro gb11 hg w51 hbox hb;have n0_:=am_ (Kd.R_below (zr_ HO_3) hb);have n1_:=am_ (Kd.R_below (zr_ HO6) hb);have n2_:=am_ (Kd.R_below (zr_ HO9) hb);have n3_:=am_ (below_step (zl0_ HB) hb);have n4_:=am_ (hbox);have n5_:=am_ ((zg0_ HB hg:w.heap.size≤gb11));have n6_:=am_ ((zg0_ HB hg:w.heap.size≤gb11));clear HO_3;clear HO6;clear HO9;clear HB;have HO_3:=n0_;have HO6:=n1_;have HO9:=n2_;have HB:=n3_;have BK11:=n4_;have GW11:=n5_;have GE11:=n6_;clear n0_ n1_ n2_ n3_ n4_ n5_ n6_;clear hb hbox hg;obtain ⟨Ao52,co52,eo52⟩:=Kd.R_slice HO9.out;subst eo52;have hcz53_0:w51.cell? ⟨gb11,0,none⟩=some (.slice none 0 0):=(blk_cell BK11.out 0).trans rfl;have hcz53_1:w51.cell? ⟨gb11,1,none⟩=some (.int .i64 0):=(blk_cell BK11.out 1).trans rfl;have hfz53_0:=blk_frozen BK11.out 0;have hfz53_1:=blk_frozen BK11.out 1;have p12:0≤((ji24):Int):=of_decide_eq_true zq_;have q12:(ji24)<(l0.length:Int):=of_decide_eq_true zq_;obtain ⟨ad12,e12,hx12_0⟩:=Kd.at_int HR0.out (ji24) p12 q12;obtain rfl:ad1=ad12:=(by injection e12);have hn12_0:ad1.block≠gb11:=Nat.ne_of_lt (Nat.lt_of_lt_of_le (by have:=World.block_lt_of_cell? _ _ hx12_0;first|rwa [add_block] at this|exact this) GW11.out);have hn12_1:ad1.block≠gb11:=Nat.ne_of_lt (Nat.lt_of_lt_of_le (by have:=World.block_lt_of_cell? _ _ hx12_0;first|rwa [add_block] at this|exact this) GW11.out);replace hx12_0:=zx_ HB hx12_0;replace hx12_0:=(cell_far (p:=⟨gb11,0,none⟩) (by first|(rw [add_block];exact hn12_0)|(show (Addr.add _ _).block≠_;rw [add_block];exact hn12_0)|exact hn12_0) (.slice Ao52 t7.length co52)).trans hx12_0;replace hx12_0:=(cell_far (p:=⟨gb11,1,none⟩) (by first|(rw [add_block];exact hn12_1)|(show (Addr.add _ _).block≠_;rw [add_block];exact hn12_1)|exact hn12_1) (.int .i64 t10)).trans hx12_0;clear hn12_0;clear hn12_1;replace p12:=eq_true p12;replace q12:=eq_true q12;have p13:0≤((ji24):Int):=of_decide_eq_true zq_;have q13:(ji24)<(l0.length:Int):=of_decide_eq_true zq_;obtain ⟨ad13,e13,hx13_0⟩:=Kd.at_int HR0.out (ji24) p13 q13;obtain rfl:ad1=ad13:=(by injection e13);have hn13_0:ad1.block≠gb11:=Nat.ne_of_lt (Nat.lt_of_lt_of_le (by have:=World.block_lt_of_cell? _ _ hx13_0;first|rwa [add_block] at this|exact this) GW11.out);have hn13_1:ad1.block≠gb11:=Nat.ne_of_lt (Nat.lt_of_lt_of_le (by have:=World.block_lt_of_cell? _ _ hx13_0;first|rwa [add_block] at this|exact this) GW11.out);replace hx13_0:=zx_ HB hx13_0;replace hx13_0:=(cell_far (p:=⟨gb11,0,none⟩) (by first|(rw [add_block];exact hn13_0)|(show (Addr.add _ _).block≠_;rw [add_block];exact hn13_0)|exact hn13_0) (.slice Ao52 t7.length co52)).trans hx13_0;replace hx13_0:=(cell_far (p:=⟨gb11,1,none⟩) (by first|(rw [add_block];exact hn13_1)|(show (Addr.add _ _).block≠_;rw [add_block];exact hn13_1)|exact hn13_1) (.int .i64 t10)).trans hx13_0;clear hn13_0;clear hn13_1;replace p13:=eq_true p13;replace q13:=eq_true q13;have p14:0≤((ji28):Int):=of_decide_eq_true zq_;have q14:(ji28)<(t7.length:Int):=of_decide_eq_true zq_;obtain ⟨ad14,e14,hx14_0,hx14_1,hx14_2,hx14_3,hx14_4,hx14_5,hx14_6,hx14_7,hx14_8,hx14_9,hx14_10,hx14_11⟩:=at_T31 (Kd.R_reads' HO9.out).2.2 (ji28) p14 q14;cases e14;have hn14_0:ad14.block≠gb11:=Kd.own_blk (Kd.R_ne HO9.out BK11.out (by decide));have hn14_1:ad14.block≠gb11:=Kd.own_blk (Kd.R_ne HO9.out BK11.out (by decide));replace hx14_0:=(cell_far (p:=⟨gb11,0,none⟩) (by first|(rw [add_block];exact hn14_0)|(show (Addr.add _ _).block≠_;rw [add_block];exact hn14_0)|exact hn14_0) (.slice (some ad14) t7.length co52)).trans hx14_0;replace hx14_1:=(cell_far (p:=⟨gb11,0,none⟩) (by first|(rw [add_block];exact hn14_0)|(show (Addr.add _ _).block≠_;rw [add_block];exact hn14_0)|exact hn14_0) (.slice (some ad14) t7.length co52)).trans hx14_1;replace hx14_2:=(cell_far (p:=⟨gb11,0,none⟩) (by first|(rw [add_block];exact hn14_0)|(show (Addr.add _ _).block≠_;rw [add_block];exact hn14_0)|exact hn14_0) (.slice (some ad14) t7.length co52)).trans hx14_2;replace hx14_3:=(cell_far (p:=⟨gb11,0,none⟩) (by first|(rw [add_block];exact hn14_0)|(show (Addr.add _ _).block≠_;rw [add_block];exact hn14_0)|exact hn14_0) (.slice (some ad14) t7.length co52)).trans hx14_3;replace hx14_4:=(cell_far (p:=⟨gb11,0,none⟩) (by first|(rw [add_block];exact hn14_0)|(show (Addr.add _ _).block≠_;rw [add_block];exact hn14_0)|exact hn14_0) (.slice (some ad14) t7.length co52)).trans hx14_4;replace hx14_5:=(cell_far (p:=⟨gb11,0,none⟩) (by first|(rw [add_block];exact hn14_0)|(show (Addr.add _ _).block≠_;rw [add_block];exact hn14_0)|exact hn14_0) (.slice (some ad14) t7.length co52)).trans hx14_5;replace hx14_6:=(cell_far (p:=⟨gb11,0,none⟩) (by first|(rw [add_block];exact hn14_0)|(show (Addr.add _ _).block≠_;rw [add_block];exact hn14_0)|exact hn14_0) (.slice (some ad14) t7.length co52)).trans hx14_6;replace hx14_7:=(cell_far (p:=⟨gb11,0,none⟩) (by first|(rw [add_block];exact hn14_0)|(show (Addr.add _ _).block≠_;rw [add_block];exact hn14_0)|exact hn14_0) (.slice (some ad14) t7.length co52)).trans hx14_7;replace hx14_8:=(cell_far (p:=⟨gb11,0,none⟩) (by first|(rw [add_block];exact hn14_0)|(show (Addr.add _ _).block≠_;rw [add_block];exact hn14_0)|exact hn14_0) (.slice (some ad14) t7.length co52)).trans hx14_8;replace hx14_9:=(cell_far (p:=⟨gb11,0,none⟩) (by first|(rw [add_block];exact hn14_0)|(show (Addr.add _ _).block≠_;rw [add_block];exact hn14_0)|exact hn14_0) (.slice (some ad14) t7.length co52)).trans hx14_9;replace hx14_10:=(cell_far (p:=⟨gb11,0,none⟩) (by first|(rw [add_block];exact hn14_0)|(show (Addr.add _ _).block≠_;rw [add_block];exact hn14_0)|exact hn14_0) (.slice (some ad14) t7.length co52)).trans hx14_10;replace hx14_11:=(cell_far (p:=⟨gb11,0,none⟩) (by first|(rw [add_block];exact hn14_0)|(show (Addr.add _ _).block≠_;rw [add_block];exact hn14_0)|exact hn14_0) (.slice (some ad14) t7.length co52)).trans hx14_11;replace hx14_0:=(cell_far (p:=⟨gb11,1,none⟩) (by first|(rw [add_block];exact hn14_1)|(show (Addr.add _ _).block≠_;rw [add_block];exact hn14_1)|exact hn14_1) (.int .i64 t10)).trans hx14_0;replace hx14_1:=(cell_far (p:=⟨gb11,1,none⟩) (by first|(rw [add_block];exact hn14_1)|(show (Addr.add _ _).block≠_;rw [add_block];exact hn14_1)|exact hn14_1) (.int .i64 t10)).trans hx14_1;replace hx14_2:=(cell_far (p:=⟨gb11,1,none⟩) (by first|(rw [add_block];exact hn14_1)|(show (Addr.add _ _).block≠_;rw [add_block];exact hn14_1)|exact hn14_1) (.int .i64 t10)).trans hx14_2;replace hx14_3:=(cell_far (p:=⟨gb11,1,none⟩) (by first|(rw [add_block];exact hn14_1)|(show (Addr.add _ _).block≠_;rw [add_block];exact hn14_1)|exact hn14_1) (.int .i64 t10)).trans hx14_3;replace hx14_4:=(cell_far (p:=⟨gb11,1,none⟩) (by first|(rw [add_block];exact hn14_1)|(show (Addr.add _ _).block≠_;rw [add_block];exact hn14_1)|exact hn14_1) (.int .i64 t10)).trans hx14_4;replace hx14_5:=(cell_far (p:=⟨gb11,1,none⟩) (by first|(rw [add_block];exact hn14_1)|(show (Addr.add _ _).block≠_;rw [add_block];exact hn14_1)|exact hn14_1) (.int .i64 t10)).trans hx14_5;replace hx14_6:=(cell_far (p:=⟨gb11,1,none⟩) (by first|(rw [add_block];exact hn14_1)|(show (Addr.add _ _).block≠_;rw [add_block];exact hn14_1)|exact hn14_1) (.int .i64 t10)).trans hx14_6;replace hx14_7:=(cell_far (p:=⟨gb11,1,none⟩) (by first|(rw [add_block];exact hn14_1)|(show (Addr.add _ _).block≠_;rw [add_block];exact hn14_1)|exact hn14_1) (.int .i64 t10)).trans hx14_7;replace hx14_8:=(cell_far (p:=⟨gb11,1,none⟩) (by first|(rw [add_block];exact hn14_1)|(show (Addr.add _ _).block≠_;rw [add_block];exact hn14_1)|exact hn14_1) (.int .i64 t10)).trans hx14_8;replace hx14_9:=(cell_far (p:=⟨gb11,1,none⟩) (by first|(rw [add_block];exact hn14_1)|(show (Addr.add _ _).block≠_;rw [add_block];exact hn14_1)|exact hn14_1) (.int .i64 t10)).trans hx14_9;replace hx14_10:=(cell_far (p:=⟨gb11,1,none⟩) (by first|(rw [add_block];exact hn14_1)|(show (Addr.add _ _).block≠_;rw [add_block];exact hn14_1)|exact hn14_1) (.int .i64 t10)).trans hx14_10;replace hx14_11:=(cell_far (p:=⟨gb11,1,none⟩) (by first|(rw [add_block];exact hn14_1)|(show (Addr.add _ _).block≠_;rw [add_block];exact hn14_1)|exact hn14_1) (.int .i64 t10)).trans hx14_11;clear hn14_0;clear hn14_1;replace p14:=eq_true p14;replace q14:=eq_true q14)|((with_reducible refine gate_callee (f:=66) rfl ?_);refine goesL_ (some 102) rfl rfl Try.func66 (by kernel_rfl) rfl #[.slice (some ad14) t7.length co52, .string ((rd_T31 t7 (ji28)).f0), .agg #[.int .i64 (Int.tmod (wrap64 (rd l0 (ji24))) 16), .int .i64 (wrap64 (Int.tdiv (Int.tmod (wrap64 (rd l0 (ji24))) 16) 2)), .int .i64 (Int.tmod (Int.tmod (wrap64 (rd l0 (ji24))) 16) 3)]] rfl (by (try simp only [List.map_toArray,List.map_cons,List.map_nil]);first|done|(simp only [hji24,hji28];rfl)|rfl|(simp only [List.length_drop,List.length_take];rfl)) ?_;(with_reducible refine (r10_Admit.calls kj11 _ _ t7 ((rd_T31 t7 (ji28)).f0) (Int.tmod (wrap64 (rd l0 (ji24))) 16) (wrap64 (Int.tdiv (Int.tmod (wrap64 (rd l0 (ji24))) 16) 2)) (Int.tmod (Int.tmod (wrap64 (rd l0 (ji24))) 16) 3) t15 t18 _ ?side1 ?side2 A31.out).mono ?_);(case side1=>refine (Kd.R_reads' (e:=31) (base:=w.heap.size) (ok:=fun k_=>(True∧some k_≠(.slice Ao46 x3_1.length co46:Value).ownBlock)) (n:=t7.length) (c:=co52) ?_).2.2;exact (by refine zt_ ?_;exact (Kd.R_mono (Kd.R_far (p:=⟨gb11,1,none⟩) (Kd.R_far (p:=⟨gb11,0,none⟩) (Kd.R_types HO9.out BK11.out (by decide)) (fun _ hk=>hk.2) (.slice (some ad14) t7.length co52)) (fun _ hk=>hk.2) (.int .i64 t10)) (fun _ h_=>h_.1))));(case side2=>exact (Kd.R_reads' HO9.out).2.1);rintro e w54 ⟨v16,rfl,ho0,hb⟩;refine ⟨_,rfl, ?_⟩;have n0_:=am_ (Kd.R_elder' (by refine zt_ ?_;exact (Kd.R_mono (Kd.R_far (p:=⟨gb11,1,none⟩) (Kd.R_far (p:=⟨gb11,0,none⟩) (Kd.R_types HO_3.out BK11.out (by decide)) (fun _ hk=>hk.2) (.slice (some ad14) t7.length co52)) (fun _ hk=>hk.2) (.int .i64 t10)) (fun _ h_=>h_.1))) (Kd.R_base ho0) hb);have n1_:=am_ (Kd.R_below (by refine zt_ ?_;exact (Kd.R_mono (Kd.R_far (p:=⟨gb11,1,none⟩) (Kd.R_far (p:=⟨gb11,0,none⟩) (Kd.R_types HO6.out BK11.out (by decide)) (fun _ hk=>hk.2) (.slice (some ad14) t7.length co52)) (fun _ hk=>hk.2) (.int .i64 t10)) (fun _ h_=>h_.1))) hb);have n2_:=am_ (Kd.R_elder' (by refine zt_ ?_;exact (Kd.R_mono (Kd.R_far (p:=⟨gb11,1,none⟩) (Kd.R_far (p:=⟨gb11,0,none⟩) (Kd.R_types HO9.out BK11.out (by decide)) (fun _ hk=>hk.2) (.slice (some ad14) t7.length co52)) (fun _ hk=>hk.2) (.int .i64 t10)) (fun _ h_=>h_.1))) (Kd.R_base ho0) hb);have n3_:=am_ (Kd.R_lower (Kd.R_new' (Kd.R_new' ho0 (Kd.R_lt (by refine zt_ ?_;exact (Kd.R_mono (Kd.R_far (p:=⟨gb11,1,none⟩) (Kd.R_far (p:=⟨gb11,0,none⟩) (Kd.R_types HO_3.out BK11.out (by decide)) (fun _ hk=>hk.2) (.slice (some ad14) t7.length co52)) (fun _ hk=>hk.2) (.int .i64 t10)) (fun _ h_=>h_.1))))) (Kd.R_lt (by refine zt_ ?_;exact (Kd.R_mono (Kd.R_far (p:=⟨gb11,1,none⟩) (Kd.R_far (p:=⟨gb11,0,none⟩) (Kd.R_types HO9.out BK11.out (by decide)) (fun _ hk=>hk.2) (.slice (some ad14) t7.length co52)) (fun _ hk=>hk.2) (.int .i64 t10)) (fun _ h_=>h_.1))))) (below_size (zl1_ HB GE11)));have n4_:=am_ (blk_below (g:=gb11) (o:= .cells #[.slice (some ad14) t7.length co52, .int .i64 t10] 67 (0,0)) (by refine zk_ ?_;refine blk_put (cs:=#[.slice (some ad14) t7.length co52, .int .i64 0]) ?_ 1 _ rfl;refine zk_ ?_;refine blk_put (cs:=#[.slice none 0 0, .int .i64 0]) ?_ 0 _ rfl;refine zk_ ?_;exact BK11.out) hb);have n5_:=am_ (below_step (zl1_ HB GE11) hb);clear HO_3;clear HO6;clear HO9;clear BK11;clear HB;have HO_3:=n0_;have HO6:=n1_;have HO9:=n2_;have HO17:=n3_;have BK11:=n4_;have HB:=n5_;clear n0_ n1_ n2_ n3_ n4_ n5_;(try clear hb);(try clear hb2);(try clear hk);(try clear hi);(try clear ho0))|((with_reducible refine gate_dst (N:=11) rfl ?_);(try (refine gate_guard (by rfl) ?_;dsimp only));refine box_event ?hg (N:=11) ?hd (cs:=#[.slice none 0 0, .int .i64 0]) (t:=67) ?hr ?_;(case hd=>rfl);(case hg=>rfl);(case hr=>first|(go_simp;done)|(go_simp;rfl));intro gb19 hg w55 hbox hb;have n0_:=am_ (Kd.R_below (zr_ HO_3) hb);have n1_:=am_ (Kd.R_below (zr_ HO6) hb);have n2_:=am_ (Kd.R_below (zr_ HO9) hb);have n3_:=am_ (Kd.R_below (zr_ HO17) hb);have n4_:=am_ (blk_below (zb_ BK11) hb);have n5_:=am_ (below_step (zl1_ HB GE11) hb);have n6_:=am_ (hbox);have n7_:=am_ ((zg1_ HB GE11 hg:w.heap.size≤gb19));have n8_:=am_ ((zg1_ HB GE11 hg:w.heap.size≤gb19));have n9_:=am_ ((zn_ BK11 hg:gb11≠gb19));have n10_:=am_ ((zm_ BK11 hg:gb19≠gb11));clear HO_3;clear HO6;clear HO9;clear HO17;clear BK11;clear HB;have HO_3:=n0_;have HO6:=n1_;have HO9:=n2_;have HO17:=n3_;have BK11:=n4_;have HB:=n5_;have BK19:=n6_;have GW19:=n7_;have GE19:=n8_;have NB11_19:=n9_;have NB19_11:=n10_;clear n0_ n1_ n2_ n3_ n4_ n5_ n6_ n7_ n8_ n9_ n10_;clear hb hbox hg;obtain ⟨Ao56,co56,eo56⟩:=Kd.R_slice HO17.out;subst eo56;have hnb57:=NB19_11.out;have hnc57:=NB11_19.out;have hcz58_0:w55.cell? ⟨gb19,0,none⟩=some (.slice none 0 0):=(blk_cell BK19.out 0).trans rfl;have hcz58_1:w55.cell? ⟨gb19,1,none⟩=some (.int .i64 0):=(blk_cell BK19.out 1).trans rfl;have hfz58_0:=blk_frozen BK19.out 0;have hfz58_1:=blk_frozen BK19.out 1))
                     go_roundg kj11
                     case measure=>have:=HK1.out;have:=HJ1.out;have:=HJ7.out;have:=HJ11.out;omega
                     case rel=>exact ⟨(t7),(wrap64 (x4_1+3)),(by first|rfl|(simp;done)|(simp [*];done)),H',⟨by have:=HK1.out;have:=HJ1.out;have:=HJ7.out;have:=HJ11.out;omega⟩,⟨by (with_reducible repeat (first|apply Kd.R_alloc|apply Kd.R_drewN|apply Kd.R_drew));exact Kd.R_mono (Kd.R_far (p:=⟨gb19,1,none⟩) (Kd.R_far (p:=⟨gb19,0,none⟩) (Kd.R_types HO9.out BK19.out (by decide)) (fun _ hk=>hk.2) (.slice Ao56 t15.length co56)) (fun _ hk=>hk.2) (.int .i64 t18)) (fun _ hk=>trivial)⟩,⟨zl2_ HB GE11 GE19⟩⟩
                   ·rw [if_neg c30] at H
                    exact absurd H (by simp)
                  ·rw [if_neg c29] at H
                   exact absurd H (by simp)
                ·rw [if_neg c26] at H
                 exact absurd H (by simp)
               ·rw [if_neg c25] at H
                exact absurd H (by simp)
              ·rw [if_neg c23] at H
               have c23b0:(t10==0)=false:=beq_eq_false_iff_ne.mpr c23
               have c23b1:(t10 !=0)=true:=bne_iff_ne.mpr c23
               have H':=Aside0.mk H
               clear H
               have p3:0≤((ji19):Int):=of_decide_eq_true zq_
               have q3:(ji19)<(l0.length:Int):=of_decide_eq_true zq_
               obtain ⟨ad3,e3,hx3_0⟩:=Kd.at_int HR0.out (ji19) p3 q3
               obtain rfl:ad1=ad3:=(by injection e3)
               replace hx3_0:=zx_ HB hx3_0
               replace p3:=eq_true p3
               replace q3:=eq_true q3
               obtain ⟨Ao59,co59,eo59⟩:=Kd.R_slice HO_3.out
               subst eo59
               go_wp2_with (first|((with_reducible refine gate_dst (N:=60) rfl ?_);(try (refine gate_guard (by rfl) ?_;dsimp only));refine Kd.R_lit (Kd.int .u8) _ 5 ?hg (N:=60) ?hd (xs:=([(wrap64 (97+(Int.tmod (wrap64 ((x3_1.length:Int)*5)) 24))) % 256]:List Int)) (inner:=[.int .u8 ((wrap64 (97+(Int.tmod (wrap64 ((x3_1.length:Int)*5)) 24))) % 256)]) (ok:=fun _=>True) (okp:=fun _=>True) ?hr ?hp (fun _ hk=>hk) trivial (Below.refl _ _) (Nat.le_refl _) (by simp) ?_;(case hd=>rfl);(case hg=>rfl);(case hr=>first|(go_simp;done)|(go_simp;rfl));(case hp=>exact (Reps.one (show Kd.M (Kd.int .u8) _ _ _ ((wrap64 (97+(Int.tmod (wrap64 ((x3_1.length:Int)*5)) 24))) % 256) [.int .u8 ((wrap64 (97+(Int.tmod (wrap64 ((x3_1.length:Int)*5)) 24))) % 256)] from rfl) (Reps.none _ _)));intro v5 w60 ho61 hb hg_ hnew_;clear hg_ hnew_;(first|rw [←Ny4.out] at ho61|(simp only [Int.reduceToNat] at ho61;rw [←Ny4.out] at ho61));have n0_:=am_ (Kd.R_below (zr_ HO_3) hb);have n1_:=am_ (Kd.R_lower ho61 (below_size (zl0_ HB)));have n2_:=am_ (below_step (zl0_ HB) hb);clear HO_3;clear HB;have HO_3:=n0_;have HO6:=n1_;have HB:=n2_;clear n0_ n1_ n2_;clear hb ho61;have hcv62:=own_string (P:=Try.prog) Try.underlying22 Try.underlying5 Try.underlying9 (Kd.own_of_R HO6.out))|((with_reducible refine gate_callee (f:=83) rfl ?_);refine goesL_ (some 67) rfl rfl Try.func83 (by kernel_rfl) rfl #[.slice Ao59 x3_1.length co59, .string (strOfNums y4), .string x6_11, .agg #[.int .i64 (wrap64 (20+(wrap64 (rd l0 (ji19))))), .int .i64 (wrap64 (20+(wrap64 (rd l0 (ji19))))), .int .i64 (wrap64 (20+(wrap64 (rd l0 (ji19)))))]] rfl (by (try simp only [List.map_toArray,List.map_cons,List.map_nil]);first|done|(simp only [hji19];rfl)|rfl|(simp only [List.length_drop,List.length_take];rfl)) ?_;(with_reducible refine (r10_Create.calls kj11 _ _ x3_1 (strOfNums y4) x6_11 (wrap64 (20+(wrap64 (rd l0 (ji19))))) (wrap64 (20+(wrap64 (rd l0 (ji19))))) (wrap64 (20+(wrap64 (rd l0 (ji19))))) t7 t10 _ ?side1 ?side2 A22.out).mono ?_);(case side1=>repeat (first|exact (Kd.R_reads' HO_3.out).2.2|(with_reducible refine Kd.C_alloc ?_ _)|(with_reducible refine Kd.C_drewN ?_ _)|(with_reducible refine Kd.C_drew ?_)));(case side2=>exact (Kd.R_reads' HO_3.out).2.1);rintro e w63 ⟨v8,rfl,ho0,hb⟩;refine ⟨_,rfl, ?_⟩;have n0_:=am_ (Kd.R_elder' (zr_ HO_3) (Kd.R_base ho0) hb);have n1_:=am_ (Kd.R_below (zr_ HO6) hb);have n2_:=am_ (Kd.R_lower (Kd.R_new' ho0 (Kd.R_lt (zr_ HO_3))) (below_size (zl0_ HB)));have n3_:=am_ (below_step (zl0_ HB) hb);clear HO_3;clear HO6;clear HB;have HO_3:=n0_;have HO6:=n1_;have HO9:=n2_;have HB:=n3_;clear n0_ n1_ n2_ n3_;(try clear hb);(try clear hb2);(try clear hk);(try clear hi);(try clear ho0))|((with_reducible refine gate_dst (N:=8) rfl ?_);(try (refine gate_guard (by rfl) ?_;dsimp only));refine box_event ?hg (N:=8) ?hd (cs:=#[.slice none 0 0, .int .i64 0]) (t:=67) ?hr ?_;(case hd=>rfl);(case hg=>rfl);(case hr=>first|(go_simp;done)|(go_simp;rfl));intro gb11 hg w64 hbox hb;have n0_:=am_ (Kd.R_below (zr_ HO_3) hb);have n1_:=am_ (Kd.R_below (zr_ HO6) hb);have n2_:=am_ (Kd.R_below (zr_ HO9) hb);have n3_:=am_ (below_step (zl0_ HB) hb);have n4_:=am_ (hbox);have n5_:=am_ ((zg0_ HB hg:w.heap.size≤gb11));have n6_:=am_ ((zg0_ HB hg:w.heap.size≤gb11));clear HO_3;clear HO6;clear HO9;clear HB;have HO_3:=n0_;have HO6:=n1_;have HO9:=n2_;have HB:=n3_;have BK11:=n4_;have GW11:=n5_;have GE11:=n6_;clear n0_ n1_ n2_ n3_ n4_ n5_ n6_;clear hb hbox hg;obtain ⟨Ao65,co65,eo65⟩:=Kd.R_slice HO9.out;subst eo65;have hcz66_0:w64.cell? ⟨gb11,0,none⟩=some (.slice none 0 0):=(blk_cell BK11.out 0).trans rfl;have hcz66_1:w64.cell? ⟨gb11,1,none⟩=some (.int .i64 0):=(blk_cell BK11.out 1).trans rfl;have hfz66_0:=blk_frozen BK11.out 0;have hfz66_1:=blk_frozen BK11.out 1))
               go_roundg kj11
               case measure=>have:=HK1.out;have:=HJ1.out;have:=HJ7.out;have:=HJ11.out;omega
               case rel=>exact ⟨(x3_1),(wrap64 (x4_1+3)),(by first|rfl|(simp;done)|(simp [*];done)),H',⟨by have:=HK1.out;have:=HJ1.out;have:=HJ7.out;have:=HJ11.out;omega⟩,⟨by (with_reducible repeat (first|apply Kd.R_alloc|apply Kd.R_drewN|apply Kd.R_drew));exact Kd.R_mono (Kd.R_far (p:=⟨gb11,1,none⟩) (Kd.R_far (p:=⟨gb11,0,none⟩) (Kd.R_types HO_3.out BK11.out (by decide)) (fun _ hk=>hk.2) (.slice Ao65 t7.length co65)) (fun _ hk=>hk.2) (.int .i64 t10)) (fun _ hk=>trivial)⟩,⟨zl1_ HB GE11⟩⟩
             ·rw [if_neg c21] at H
              exact absurd H (by simp)
            ·rw [if_neg c20] at H
             exact absurd H (by simp)
       ·rw [if_neg c7] at H
        exact absurd H (by simp)
      ·rw [if_neg c6] at H
       exact absurd H (by simp)
     ·replace c5:=Bool.eq_false_iff.mpr c5
      subst c5
      have H1:(some x3_1)=some r:=by rw [if_neg (show¬(false=true) by decide)] at H;exact H
      clear H
      have H:=H1
      clear H1
      obtain rfl:=Option.some.inj H
      go_wp2
      go_ret
      exact ⟨_,by first|rfl|(simp [errW_none,errW_some]<;>rfl)|(simp [*,errW_none,errW_some]<;>rfl),by (with_reducible repeat (first|apply Kd.R_alloc|apply Kd.R_drewN|apply Kd.R_drew));exact HO_3.out,zl0_ HB⟩

def law1_Num.f (a0:Int):Option (Int):=some a0
set_option maxHeartbeats 8000000 in
set_option maxRecDepth 100000 in
theorem law1_Num.calls (a0:Int) (r:Int) (w:World) (h:law1_Num.f a0=some r):
  Calls Try.prog 61 #[.int .i64 a0] w fun e w'=>e= .returned (.int .i64 r)∧Drawn0 w w':=by
 have H:(some a0)=some r:=h
 clear h
 obtain rfl:=Option.some.inj H
 go_enter Try.func61,Try.ntmps61
 go_wp2
 go_ret
 exact ⟨by first|rfl|(simp;done)|(simp [*];done),by repeat (first|exact Drawn0.refl _|apply Drawn0.step)⟩

end Go.Proofs.Ytcgefpklljclgaa.Print

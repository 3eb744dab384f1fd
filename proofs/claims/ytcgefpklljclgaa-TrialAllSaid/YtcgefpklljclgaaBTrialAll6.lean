/- TrialAll: a part -/
import Derived.Shelf.Abstract
import Derived.Test.YtcgefpklljclgaaBTrialAll0
import Derived.Test.YtcgefpklljclgaaBTrialAll1
namespace Go.Proofs.Ytcgefpklljclgaa.Print
open Go.RowKit Go.Proofs.YtcgefpklljclgaaW.PrintWords Go.Proofs.YtcgefpklljclgaaW.PrintLast Go.Proofs.YtcgefpklljclgaaW.PrintMore
attribute [local go_sem] max2_int min2_int max_two min_two max_three min_three max_four min_four
set_option linter.unusedVariables false
set_option linter.unusedSimpArgs false

def room_along.l0:Nat→List (S31)→List ByteArray→Int→Int→List (S31)→Option ((List (S31)))
 |0,_,_,_,_,_=>none
 |k+1,x0,x10,x11,x12,x3000=>if x12<x11 then (if 0≤x12 then (if x12<(x10.length:Int) then ((tree_Find.f x0 (rdOf ByteArray.empty x10 x12)).bind fun t7=>(if 0≤t7 then (if t7<(x0.length:Int) then (if x3000.length<1256584717458 then (room_along.l0 k x0 x10 x11 (wrap64 (x12+1)) (x3000++ [(⟨(rd_T31 x0 t7).f0,(rd_T31 x0 t7).f1,(⟨(rd_T31 x0 t7).f2.f0,(rd_T31 x0 t7).f2.f1,(rd_T31 x0 t7).f2.f2⟩:S27),(⟨(rd_T31 x0 t7).f3.f0,(rd_T31 x0 t7).f3.f1,(rd_T31 x0 t7).f3.f2⟩:S27),(⟨(rd_T31 x0 t7).f4.f0,(rd_T31 x0 t7).f4.f1,(rd_T31 x0 t7).f4.f2⟩:S27),(rd_T31 x0 t7).f5⟩:S31)])) else (none)) else (none)) else (none))) else (none)) else (none)) else (some x3000)
def room_along.f (k:Nat) (l0:List (S31)) (a1:ByteArray):Option ((List (S31))):=(tree_Up.f k l0 a1).bind fun t3=>(room_along.l0 k l0 t3 (t3.length:Int) 0 ([]:List (S31)))
theorem room_along.mono_l: ∀k,(∀y0 y1 y2 y3 y4,LeO (room_along.l0 k y0 y1 y2 y3 y4) (room_along.l0 (k+1) y0 y1 y2 y3 y4))
 |0=>fun _ _ _ _ _ r h=>by simp [room_along.l0] at h
 |k+1=>by
  have ih0:=room_along.mono_l k
  intro y0 y1 y2 y3 y4
  unfold room_along.l0
  repeat' first
  |(with_reducible exact ih0 _ _ _ _ _)
  |(with_reducible exact tree_Up.mono _ _ _)
  |(with_reducible exact LeO.refl _)
  |(with_reducible exact LeO.none _)
  |(with_reducible refine LeO.ite ?_ ?_)
  |(with_reducible refine LeO.bind ?_ (fun _=> ?_))
  |exact ih0 _ _ _ _ _
  |exact tree_Up.mono _ _ _
  |exact LeO.none _
  |refine LeO.ite ?_ ?_
  |refine LeO.bind ?_ (fun _=> ?_)
theorem room_along.mono: ∀a0 a1 k,LeO (room_along.f k a0 a1) (room_along.f (k+1) a0 a1):=by
 intro a0 a1 k
 have ih0:=room_along.mono_l k
 unfold room_along.f
 repeat' first
  |(with_reducible exact ih0 _ _ _ _ _)
  |(with_reducible exact tree_Up.mono _ _ _)
  |(with_reducible exact LeO.refl _)
  |(with_reducible exact LeO.none _)
  |(with_reducible refine LeO.ite ?_ ?_)
  |(with_reducible refine LeO.bind ?_ (fun _=> ?_))
  |exact ih0 _ _ _ _ _
  |exact tree_Up.mono _ _ _
  |exact LeO.none _
  |refine LeO.ite ?_ ?_
  |refine LeO.bind ?_ (fun _=> ?_)
def room_along.T5:Bool×List (List Nat×List Nat):=(true,[([],[]),([0],[0]),([],[]),([],[]),([],[]),([3,4],[3,4]),([2,5],[2,5]),([6],[6]),([7],[7]),([1,8,5],[1,8]),([0,1,2,3,4,5,6,7,8,9],[]),([10,9,9,0,1,2,3,4,5,6,7,8,9],[9,10])])
def room_along.B5:List Nat:=[0,1,0,0,0,24,60,124,252,511,1023,2047]
theorem room_along.tab5:rtab .any (opsOf Try.f156 5)=room_along.T5:=by kernel_rfl
theorem room_along.bits5:waitsOk room_along.T5.2 room_along.B5=true:=by kernel_rfl
set_option maxHeartbeats 8000000 in
set_option maxRecDepth 100000 in
theorem room_along.calls (k:Nat) (A0:Option Addr) (c0:Nat) (l0:List (S31)) (a1:ByteArray) (r:List (S31)) (w:World) (hr0:Kd.C k31 w A0 l0.length l0) (hc0:l0.length≤c0) (h:room_along.f k l0 a1=some r):
  Calls Try.prog 156 #[.slice A0 l0.length c0, .string a1] w fun e w'=> ∃v0_:Value,e= .returned (.agg #[v0_])∧Kd.R k31 31 w' w.heap.size (fun _=>True) v0_ r∧Below w.heap.size w w':=by
 have HR0:=Aside0.mk hr0
 have HC0:=Aside0.mk hc0
 clear hr0 hc0
 have HB:=am_ (Below.refl w.heap.size w)
 have H:((tree_Up.f k l0 a1).bind fun t3=>(room_along.l0 k l0 t3 (t3.length:Int) 0 ([]:List (S31))))=some r:=h
 clear h
 replace H:=Option.bind_eq_some_iff.mp H
 obtain ⟨t3,A30,H⟩:=H
 try dsimp only at H
 have A3:=Aside0.mk A30
 clear A30
 have H':=Aside0.mk H
 clear H
 go_enter Try.func156,Try.ntmps156
 go_wp2_with (first|((with_reducible refine gate_dst (N:=4) rfl ?_);refine bx_ (N:=4) (cs:=#[.slice none 0 0]) (t:=125) ?_;intro gb1 hg w4 hbox hb;have n0_:=am_ (below_step (zl0_ HB) hb);have n1_:=am_ (hbox);have n2_:=am_ ((zg0_ HB hg:w.heap.size≤gb1));have n3_:=am_ ((zg0_ HB hg:w.heap.size≤gb1));clear HB;have HB:=n0_;have BK1:=n1_;have GE1:=n3_;clear n0_ n1_ n2_ n3_;clear hb hbox hg)|((with_reducible refine gate_dst (N:=5) rfl ?_);refine bx_ (N:=5) (cs:=#[.slice none 0 0]) (t:=125) ?_;intro gb2 hg w5 hbox hb;have n0_:=am_ (blk_below (zb_ BK1) hb);have n1_:=am_ (below_step (zl1_ HB GE1) hb);have n2_:=am_ (hbox);have n3_:=am_ ((zg1_ HB GE1 hg:w.heap.size≤gb2));have n4_:=am_ ((zg1_ HB GE1 hg:w.heap.size≤gb2));have n5_:=am_ ((zn_ BK1 hg:gb1≠gb2));have n6_:=am_ ((zm_ BK1 hg:gb2≠gb1));clear BK1;clear HB;have BK1:=n0_;have HB:=n1_;have BK2:=n2_;have GE2:=n4_;have NB1_2:=n5_;clear n0_ n1_ n2_ n3_ n4_ n5_ n6_;clear hb hbox hg)|((with_reducible refine gate_callee (f:=70) rfl ?_);refine gl_ (some 10) Try.func70 #[.slice A0 l0.length c0, .string a1] ?_;(with_reducible refine (tree_Up.calls k _ _ l0 a1 t3 _ ?side1 ?side2 A3.out).mono ?_);(case side1=>exact zc_ (Kd.C_below HR0.out HB.out));(case side2=>exact HC0.out);rintro e w6 ⟨v4,rfl,ho0,hb⟩;refine ⟨_,rfl, ?_⟩;have HO5:=am_ (Kd.R_lower ho0 (below_size (zl2_ HB GE1 GE2)));replace BK1:=am_ (blk_below (zb_ BK1) hb);replace BK2:=am_ (blk_below (zb_ BK2) hb);replace HB:=am_ (below_step (zl2_ HB GE1 GE2) hb);(try clear hb);(try clear hb2);(try clear hk);(try clear hi);(try clear ho0);obtain ⟨Ao7,co7,eo7⟩:=Kd.R_slice HO5.out;subst eo7))
 go_loopg [12] k (fun kq v12 w'=> ∃(x12_1:Int) (x3000_1:List (S31)) (u3000:Value),v12= .int .i64 x12_1∧Aside0 (room_along.l0 kq l0 t3 (t3.length:Int) x12_1 x3000_1=some r)∧Aside0 (kq≤k)∧Aside0 (Kd.R Kd.string 9 w' w.heap.size (fun _=>True) (.slice Ao7 t3.length co7) t3)∧Aside0 (Kd.R k31 31 w' w.heap.size (fun _=>True) u3000 x3000_1)∧Aside0 (w'.heap[gb1]?=some (.cells #[(.slice none 0 0)] 125 (0,0)))∧Aside0 (w'.heap[gb2]?=some (.cells #[u3000] 125 (0,0)))∧Aside0 (Below w.heap.size w w'))
 case atStart=>exact ⟨(0),(([]:List (S31))),(.slice none 0 0),(by first|rfl|(simp;done)|(simp [*];done)),H',⟨Nat.le_refl _⟩,⟨by (with_reducible repeat (first|apply Kd.R_alloc|apply Kd.R_drewN|apply Kd.R_drew));exact HO5.out⟩,⟨by first|exact Kd.R_nil _ _ _ _ _|exact Kd.N_nil _ _ _ _ _|exact Kd.V_nil _ _ _ _ _|exact Kd.Q_nil _ _ _ _ _|exact Kd.S_nil _ _ _ _ _⟩,⟨by refine zk_ ?_;exact BK1.out⟩,⟨by refine zk_ ?_;exact BK2.out⟩,⟨zl2_ HB GE1 GE2⟩⟩
 case round=>
  clear H'
  try clear c1
  try clear p2
  try clear c7
  obtain ⟨x12_1,x3000_1,u3000,rfl,HA,HK1,HO_10,HO_3000,BK1,BK2,HB⟩:=hrel
  cases gk with
  |zero=>exact absurd HA.out (by simp [room_along.l0])
  |succ k1=>
   have H:=HA.out
   clear HA
   simp only [room_along.l0] at H
   by_cases c8:x12_1<(t3.length:Int)
   rotate_left
   ·rw [if_neg c8] at H
    have c8b0:decide (x12_1<(t3.length:Int))=false:=decide_eq_false c8
    clear c8
    obtain rfl:=Option.some.inj H
    have hcz21_0:=zz_ BK2 0
    obtain ⟨Ao22,co22,eo22⟩:=Kd.R_slice HO_3000.out
    subst eo22
    have hcz23_0:=zz_ BK1 0
    have hfz23_0:=blk_frozen BK1.out 0
    go_wp2
    refine bodyPost_ret (results_cell_row rfl _ _ gb1 125 #[.slice Ao22 x3000_1.length co22] (0,0) _ rfl (zw_ BK1) Try.underlying125 rfl (by kernel_rfl)) rfl ?_
    exact ⟨_,by first|rfl|(simp [errW_none,errW_some]<;>rfl)|(simp [*,errW_none,errW_some]<;>rfl),zy_ HO_3000 BK1,zl2_ HB GE1 GE2⟩

   rw [if_pos c8] at H
   have c8b0:decide (x12_1<(t3.length:Int))=true:=decide_eq_true c8
   clear c8
   by_cases c9:0≤x12_1
   rotate_left
   ·rw [if_neg c9] at H
    exact absurd H (by simp)
   rw [if_pos c9] at H
   have c9b0:decide (0≤x12_1)=true:=decide_eq_true c9
   clear c9
   by_cases c10:x12_1<(t3.length:Int)
   rotate_left
   ·rw [if_neg c10] at H
    exact absurd H (by simp)
   rw [if_pos c10] at H
   have c10b0:decide (x12_1<(t3.length:Int))=true:=decide_eq_true c10
   clear c10
   replace H:=Option.bind_eq_some_iff.mp H
   obtain ⟨t7,A110,H⟩:=H
   try dsimp only at H
   have A11:=Aside0.mk A110
   clear A110
   by_cases c12:0≤t7
   rotate_left
   ·rw [if_neg c12] at H
    exact absurd H (by simp)
   rw [if_pos c12] at H
   have c12b0:decide (0≤t7)=true:=decide_eq_true c12
   clear c12
   by_cases c13:t7<(l0.length:Int)
   rotate_left
   ·rw [if_neg c13] at H
    exact absurd H (by simp)
   rw [if_pos c13] at H
   have c13b0:decide (t7<(l0.length:Int))=true:=decide_eq_true c13
   clear c13
   by_cases c14:x3000_1.length<1256584717458
   rotate_left
   ·rw [if_neg c14] at H
    exact absurd H (by simp)
   rw [if_pos c14] at H
   have LMc14:=Aside0.mk c14
   clear c14
   obtain ⟨y9,hy9⟩: ∃y_:List (S31),y_=(x3000_1++ [(⟨(rd_T31 l0 t7).f0,(rd_T31 l0 t7).f1,(⟨(rd_T31 l0 t7).f2.f0,(rd_T31 l0 t7).f2.f1,(rd_T31 l0 t7).f2.f2⟩:S27),(⟨(rd_T31 l0 t7).f3.f0,(rd_T31 l0 t7).f3.f1,(rd_T31 l0 t7).f3.f2⟩:S27),(⟨(rd_T31 l0 t7).f4.f0,(rd_T31 l0 t7).f4.f1,(rd_T31 l0 t7).f4.f2⟩:S27),(rd_T31 l0 t7).f5⟩:S31)]):=⟨_,rfl⟩
   replace H:(room_along.l0 k1 l0 t3 (t3.length:Int) (wrap64 (x12_1+1)) y9)=some r:=by first|(rw [hy9];with_reducible exact H)|(have H2_:=(Option.bind_some _ _).symm.trans H;rw [hy9];with_reducible exact H2_)|(have H2_:=(Option.bind_some _ _).symm.trans H;with_reducible exact H2_)|with_reducible exact H|(rw [hy9];exact H)|exact H
   have Ny9:=Aside0.mk hy9
   clear hy9
   have H':=Aside0.mk H
   clear H
   have p6:0≤(x12_1:Int):=of_decide_eq_true zq_
   have q6:x12_1<(t3.length:Int):=of_decide_eq_true zq_
   obtain ⟨ad6,e6,hx6_0⟩:=Kd.at_string (Kd.R_reads' HO_10.out).2.2 x12_1 p6 q6
   cases e6
   replace p6:=eq_true p6
   replace q6:=eq_true q6
   try go_wp2
   replace HO_10:=am_ (Kd.R_drew HO_10.out)
   replace HO_3000:=am_ (Kd.R_drew HO_3000.out)
   replace BK1:=am_ (blk_drew BK1.out)
   replace BK2:=am_ (blk_drew BK2.out)
   replace HB:=am_ (below_drew1 HB.out)
   have p8:0≤(t7:Int):=of_decide_eq_true zq_
   have q8:t7<(l0.length:Int):=of_decide_eq_true zq_
   obtain ⟨ad8,e8,hx8_0,hx8_1,hx8_2,hx8_3,hx8_4,hx8_5,hx8_6,hx8_7,hx8_8,hx8_9,hx8_10,hx8_11⟩:=at_T31 HR0.out t7 p8 q8
   have hw8_11:=hx8_11
   have hw8_10:=hx8_10
   have hw8_9:=hx8_9
   have hw8_8:=hx8_8
   have hw8_7:=hx8_7
   have hw8_6:=hx8_6
   have hw8_5:=hx8_5
   have hw8_4:=hx8_4
   have hw8_3:=hx8_3
   have hw8_2:=hx8_2
   have hw8_1:=hx8_1
   have hw8_0:=hx8_0
   cases e8
   replace hx8_0:=zx_ HB hx8_0
   replace hx8_1:=zx_ HB hx8_1
   replace hx8_2:=zx_ HB hx8_2
   replace hx8_3:=zx_ HB hx8_3
   replace hx8_4:=zx_ HB hx8_4
   replace hx8_5:=zx_ HB hx8_5
   replace hx8_6:=zx_ HB hx8_6
   replace hx8_7:=zx_ HB hx8_7
   replace hx8_8:=zx_ HB hx8_8
   replace hx8_9:=zx_ HB hx8_9
   replace hx8_10:=zx_ HB hx8_10
   replace hx8_11:=zx_ HB hx8_11
   replace p8:=eq_true p8
   replace q8:=eq_true q8
   refine start_ (n:=12) (S:=fun w'=>w'.cell? ⟨gb2,0,none⟩=some (u3000)∧w'.cell? (ad8.add ((t7).toNat*12))=some (.string ((rd_T31 l0 t7).f0))∧w'.cell? ⟨(ad8.add ((t7).toNat*12)).block,(ad8.add ((t7).toNat*12)).off+1,none⟩=some (.string ((rd_T31 l0 t7).f1))∧w'.cell? ⟨(ad8.add ((t7).toNat*12)).block,(ad8.add ((t7).toNat*12)).off+2,none⟩=some (.int .i64 ((rd_T31 l0 t7).f2.f0))∧w'.cell? ⟨(ad8.add ((t7).toNat*12)).block,(ad8.add ((t7).toNat*12)).off+3,none⟩=some (.int .i64 ((rd_T31 l0 t7).f2.f1))∧w'.cell? ⟨(ad8.add ((t7).toNat*12)).block,(ad8.add ((t7).toNat*12)).off+4,none⟩=some (.int .i64 ((rd_T31 l0 t7).f2.f2))∧w'.cell? ⟨(ad8.add ((t7).toNat*12)).block,(ad8.add ((t7).toNat*12)).off+5,none⟩=some (.int .i64 ((rd_T31 l0 t7).f3.f0))∧w'.cell? ⟨(ad8.add ((t7).toNat*12)).block,(ad8.add ((t7).toNat*12)).off+6,none⟩=some (.int .i64 ((rd_T31 l0 t7).f3.f1))∧w'.cell? ⟨(ad8.add ((t7).toNat*12)).block,(ad8.add ((t7).toNat*12)).off+7,none⟩=some (.int .i64 ((rd_T31 l0 t7).f3.f2))∧w'.cell? ⟨(ad8.add ((t7).toNat*12)).block,(ad8.add ((t7).toNat*12)).off+8,none⟩=some (.int .i64 ((rd_T31 l0 t7).f4.f0))∧w'.cell? ⟨(ad8.add ((t7).toNat*12)).block,(ad8.add ((t7).toNat*12)).off+9,none⟩=some (.int .i64 ((rd_T31 l0 t7).f4.f1))∧w'.cell? ⟨(ad8.add ((t7).toNat*12)).block,(ad8.add ((t7).toNat*12)).off+10,none⟩=some (.int .i64 ((rd_T31 l0 t7).f4.f2))∧w'.cell? ⟨(ad8.add ((t7).toNat*12)).block,(ad8.add ((t7).toNat*12)).off+11,none⟩=some (.int .i64 ((rd_T31 l0 t7).f5))) (ds:=[11]) (bt_ 12 0) (by kernel_rfl) rfl rfl ⟨(blk_cell BK2.out 0).trans rfl,(zx_ HB hw8_0),(zx_ HB hw8_1),(zx_ HB hw8_2),(zx_ HB hw8_3),(zx_ HB hw8_4),(zx_ HB hw8_5),(zx_ HB hw8_6),(zx_ HB hw8_7),(zx_ HB hw8_8),(zx_ HB hw8_9),(zx_ HB hw8_10),(zx_ HB hw8_11)⟩ (fun hHeld=> ?_);refine with_tabW room_along.tab5 room_along.bits5 (fun HT_ HW_=> ?_)
   generalize wr.drew=w15 at HO_10 HO_3000 BK1 BK2 HB hx8_0 hx8_1 hx8_10 hx8_11 hx8_2 hx8_3 hx8_4 hx8_5 hx8_6 hx8_7 hx8_8 hx8_9 hHeld ⊢
   refine pu_ (i:=0) (N:=some 16) (bt_ 12 1) HT_ ?_
   refine pu_ (i:=2) (N:=some 18) (bt_ 12 5) HT_ ?_
   refine pu_ (i:=3) (N:=some 19) (bt_ 12 13) HT_ ?_
   refine pu_ (i:=4) (N:=some 20) (bt_ 12 29) HT_ ?_
   refine tk_ (i:=1) (N:=some 17) (bt_ 12 31) HT_ HW_ hHeld ?_
   refine on_ (i:=5) (N:=some 21) (bt_ 12 63) HT_ (fun K hK=> ?_)
   refine gs_ Try.func71 #[.slice (some ad8) l0.length c0, .string (rdOf ByteArray.empty t3 x12_1)] ?_
   with_reducible refine (tree_Find.calls _ _ l0 (rdOf ByteArray.empty t3 x12_1) t7 _ ?side1 ?side2 A11.out).mono ?_
   (case side1=>exact zc_ (Kd.C_below HR0.out HB.out))
   (case side2=>exact HC0.out)
   rintro e w16 ⟨rfl,hb⟩
   refine ⟨_,rfl, ?_⟩
   replace HO_10:=am_ (Kd.R_below (zr_ HO_10) hb)
   replace HO_3000:=am_ (Kd.R_below (zr_ HO_3000) hb)
   replace BK1:=am_ (blk_below (zb_ BK1) hb)
   replace BK2:=am_ (blk_below (zb_ BK2) hb)
   replace HB:=am_ (below_step (zl2_ HB GE1 GE2) hb)
   (try clear hb)
   (try clear hb2)
   (try clear hk)
   (try clear hi)
   refine hK.out _ _ ⟨(blk_cell BK2.out 0).trans rfl,(zx_ HB hw8_0),(zx_ HB hw8_1),(zx_ HB hw8_2),(zx_ HB hw8_3),(zx_ HB hw8_4),(zx_ HB hw8_5),(zx_ HB hw8_6),(zx_ HB hw8_7),(zx_ HB hw8_8),(zx_ HB hw8_9),(zx_ HB hw8_10),(zx_ HB hw8_11)⟩ (fun hHeld=> ?_)
   clear hK K
   refine no_ (N:=some 21) ?_
   refine pu_ (i:=6) (N:=some 22) (bt_ 12 127) HT_ ?_
   refine tk_ (i:=7) (N:=some 23) (bt_ 12 255) HT_ HW_ hHeld ?_
   refine on_ (i:=8) (N:=some 24) (bt_ 12 511) HT_ (fun K hK=> ?_)
   refine value_ (w1:= ?_) (v:= ?_) (by rfl) rfl ?_ ?_
   rotate_left 2
   ·go_simp
    constructor
    ·rfl
    rfl
   refine hK.out _ _ ⟨(blk_cell (blk_alloc BK2.out _) 0).trans rfl,(World.cell?_alloc_lt _ _ _ (World.block_lt_of_cell? _ _ ((zx_ HB hw8_0)))).trans ((zx_ HB hw8_0)),(World.cell?_alloc_lt _ _ _ (World.block_lt_of_cell? _ _ ((zx_ HB hw8_1)))).trans ((zx_ HB hw8_1)),(World.cell?_alloc_lt _ _ _ (World.block_lt_of_cell? _ _ ((zx_ HB hw8_2)))).trans ((zx_ HB hw8_2)),(World.cell?_alloc_lt _ _ _ (World.block_lt_of_cell? _ _ ((zx_ HB hw8_3)))).trans ((zx_ HB hw8_3)),(World.cell?_alloc_lt _ _ _ (World.block_lt_of_cell? _ _ ((zx_ HB hw8_4)))).trans ((zx_ HB hw8_4)),(World.cell?_alloc_lt _ _ _ (World.block_lt_of_cell? _ _ ((zx_ HB hw8_5)))).trans ((zx_ HB hw8_5)),(World.cell?_alloc_lt _ _ _ (World.block_lt_of_cell? _ _ ((zx_ HB hw8_6)))).trans ((zx_ HB hw8_6)),(World.cell?_alloc_lt _ _ _ (World.block_lt_of_cell? _ _ ((zx_ HB hw8_7)))).trans ((zx_ HB hw8_7)),(World.cell?_alloc_lt _ _ _ (World.block_lt_of_cell? _ _ ((zx_ HB hw8_8)))).trans ((zx_ HB hw8_8)),(World.cell?_alloc_lt _ _ _ (World.block_lt_of_cell? _ _ ((zx_ HB hw8_9)))).trans ((zx_ HB hw8_9)),(World.cell?_alloc_lt _ _ _ (World.block_lt_of_cell? _ _ ((zx_ HB hw8_10)))).trans ((zx_ HB hw8_10)),(World.cell?_alloc_lt _ _ _ (World.block_lt_of_cell? _ _ ((zx_ HB hw8_11)))).trans ((zx_ HB hw8_11))⟩ (fun hHeld=> ?_)
   clear hK K
   refine no_ (N:=some 24) ?_
   refine on_ (i:=9) (N:=some 25) (bt_ 12 1023) HT_ (fun K hK=> ?_)
   refine Kd.R_append_step k31 (w0:=w) w.heap.size (by rfl) (.tmp 17) (.tmp 24) 24 31 (.agg #[(.string ⟨#[]⟩),(.string ⟨#[]⟩),(.int .i64 0),(.int .i64 0),(.int .i64 0),(.int .i64 0),(.int .i64 0),(.int .i64 0),(.int .i64 0),(.int .i64 0),(.int .i64 0),(.int .i64 0)]) 112 rfl Try.underlying24 info31 rfl (by decide) (by omega) u3000 x3000_1 (⟨(rd_T31 l0 t7).f0,(rd_T31 l0 t7).f1,(⟨(rd_T31 l0 t7).f2.f0,(rd_T31 l0 t7).f2.f1,(rd_T31 l0 t7).f2.f2⟩:S27),(⟨(rd_T31 l0 t7).f3.f0,(rd_T31 l0 t7).f3.f1,(rd_T31 l0 t7).f3.f2⟩:S27),(⟨(rd_T31 l0 t7).f4.f0,(rd_T31 l0 t7).f4.f1,(rd_T31 l0 t7).f4.f2⟩:S27),(rd_T31 l0 t7).f5⟩:S31) [.string ((rd_T31 l0 t7).f0), .string ((rd_T31 l0 t7).f1), .int .i64 ((rd_T31 l0 t7).f2.f0), .int .i64 ((rd_T31 l0 t7).f2.f1), .int .i64 ((rd_T31 l0 t7).f2.f2), .int .i64 ((rd_T31 l0 t7).f3.f0), .int .i64 ((rd_T31 l0 t7).f3.f1), .int .i64 ((rd_T31 l0 t7).f3.f2), .int .i64 ((rd_T31 l0 t7).f4.f0), .int .i64 ((rd_T31 l0 t7).f4.f1), .int .i64 ((rd_T31 l0 t7).f4.f2), .int .i64 ((rd_T31 l0 t7).f5)] (fun _=>True) (fun _=>False) rfl rfl ?aP (fun _ hk=>hk.elim) ?aF ?aO ?aB ?aS ?aL ?_
   (case aP=>exact k31_mkM _ _ _ (⟨(rd_T31 l0 t7).f0,(rd_T31 l0 t7).f1,(⟨(rd_T31 l0 t7).f2.f0,(rd_T31 l0 t7).f2.f1,(rd_T31 l0 t7).f2.f2⟩:S27),(⟨(rd_T31 l0 t7).f3.f0,(rd_T31 l0 t7).f3.f1,(rd_T31 l0 t7).f3.f2⟩:S27),(⟨(rd_T31 l0 t7).f4.f0,(rd_T31 l0 t7).f4.f1,(rd_T31 l0 t7).f4.f2⟩:S27),(rd_T31 l0 t7).f5⟩:S31))
   (case aB=>exact (zl2_ HB GE1 GE2))
   (case aF=>exact (fun _ _=>trivial))
   (case aO=>exact (zr_ HO_3000))
   (case aS=>exact (below_size (zl2_ HB GE1 GE2)))
   (case aL=>have:=LMc14.out;omega)
   intro v10 w17 ho hb hg hat
   rw [←Ny9.out] at ho
   have n0_:=am_ (Kd.R_over' (zr_ HO_10) (Kd.R_typed (zr_ HO_3000)) (by decide) hg)
   have n1_:=am_ (blk_grown (zb_ BK1) hg (Kd.R_ne HO_3000.out BK1.out (by decide)))
   have n2_:=am_ (blk_grown (zb_ BK2) hg (Kd.R_ne HO_3000.out BK2.out (by decide)))
   have n3_:=am_ (hb)
   have n4_:=am_ (ho)
   clear HO_10
   clear BK1
   clear BK2
   clear HB
   clear HO_3000
   have HO_10:=n0_
   have BK1:=n1_
   have BK2:=n2_
   have HB:=n3_
   have HO11:=n4_
   clear n0_ n1_ n2_ n3_ n4_
   clear ho hb hg hat
   obtain ⟨Ao18,co18,eo18⟩:=Kd.R_slice HO11.out
   (first|subst eo18|(injection eo18 with f1_ f2_ f3_;have f4_:=f1_.symm;have f5_:=f3_.symm;clear f1_ f2_ f3_;subst f4_;subst f5_))
   refine hK.out _ _ ⟨(blk_cell BK2.out 0).trans rfl,(zx_ HB hw8_0),(zx_ HB hw8_1),(zx_ HB hw8_2),(zx_ HB hw8_3),(zx_ HB hw8_4),(zx_ HB hw8_5),(zx_ HB hw8_6),(zx_ HB hw8_7),(zx_ HB hw8_8),(zx_ HB hw8_9),(zx_ HB hw8_10),(zx_ HB hw8_11)⟩ (fun hHeld=> ?_)
   clear hK K
   refine no_ (N:=some 25) ?_
   refine pu_ (i:=10) (N:=some 26) (bt_ 12 2047) HT_ ?_
   refine last_ (i:=11) (N:=none) (bt_ 12 4095) rfl rfl (one_of HT_.out (by kernel_rfl)) (by decide) (fun K hK=> ?_)
   have hfs19:=blk_frozen BK2.out 0
   refine skip_ (w1:= ?_) (by rfl) rfl ?_ ?_
   rotate_left
   ·go_simp
    rfl
   refine hK.out _ _ ?_
   clear hK K
   refine done_ (done_of HT_.out (by kernel_rfl)) ?_
   try go_wp2
   go_roundg k1
   case measure=>have:=HK1.out;omega
   case rel=>exact ⟨(wrap64 (x12_1+1)),(y9),(.slice Ao18 y9.length co18),(by first|rfl|(simp;done)|(simp [*];done)),H',⟨by have:=HK1.out;omega⟩,⟨zy_ HO_10 BK2⟩,⟨zy_ HO11 BK2⟩,⟨zw_ BK1⟩,⟨zw_ BK2⟩,⟨zl2_ HB GE1 GE2⟩⟩
def room_free.f (a0_0:ByteArray) (a0_1:ByteArray) (a0_2:Int) (a0_3:Int) (a0_4:Int) (a0_5:Int) (a0_6:Int) (a0_7:Int) (a0_8:Int) (a0_9:Int) (a0_10:Int) (a0_11:Int):Option (Int×Int×Int):=(vec_Sub.f a0_2 a0_3 a0_4 a0_8 a0_9 a0_10).bind fun bt3=>(some (bt3.1,bt3.2.1,bt3.2.2))
set_option maxHeartbeats 8000000 in
set_option maxRecDepth 100000 in
theorem room_free.calls (a0_0:ByteArray) (a0_1:ByteArray) (a0_2:Int) (a0_3:Int) (a0_4:Int) (a0_5:Int) (a0_6:Int) (a0_7:Int) (a0_8:Int) (a0_9:Int) (a0_10:Int) (a0_11:Int) (r1:Int) (r2:Int) (r3:Int) (w:World) (h:room_free.f a0_0 a0_1 a0_2 a0_3 a0_4 a0_5 a0_6 a0_7 a0_8 a0_9 a0_10 a0_11=some (r1,r2,r3)):
  Calls Try.prog 158 #[.agg #[.string a0_0, .string a0_1, .int .i64 a0_2, .int .i64 a0_3, .int .i64 a0_4, .int .i64 a0_5, .int .i64 a0_6, .int .i64 a0_7, .int .i64 a0_8, .int .i64 a0_9, .int .i64 a0_10, .int .i64 a0_11]] w fun e w'=>e= .returned (.agg #[.int .i64 r1, .int .i64 r2, .int .i64 r3])∧Below w.heap.size w w':=by
 have HB:=am_ (Below.refl w.heap.size w)
 have H:((vec_Sub.f a0_2 a0_3 a0_4 a0_8 a0_9 a0_10).bind fun bt3=>(some (bt3.1,bt3.2.1,bt3.2.2)))=some (r1,r2,r3):=h
 clear h
 replace H:=Option.bind_eq_some_iff.mp H
 obtain ⟨⟨t3,t4,t5⟩,A20,H⟩:=H
 try dsimp only at H
 have A2:=Aside0.mk A20
 clear A20
 simp only [Option.some.injEq,Prod.mk.injEq] at H
 obtain ⟨rfl,rfl,rfl⟩:=H
 go_enter Try.func158,Try.ntmps158
 go_wp2_with (first|((with_reducible refine gate_dst (N:=1) rfl ?_);refine bx_ (N:=1) (cs:=#[.string a0_0, .string a0_1, .int .i64 a0_2, .int .i64 a0_3, .int .i64 a0_4, .int .i64 a0_5, .int .i64 a0_6, .int .i64 a0_7, .int .i64 a0_8, .int .i64 a0_9, .int .i64 a0_10, .int .i64 a0_11]) (t:=31) ?_;intro gb1 hg w3 hbox hb;have n0_:=am_ (below_step (zl0_ HB) hb);have n1_:=am_ (hbox);have n2_:=am_ ((zg0_ HB hg:w.heap.size≤gb1));have n3_:=am_ ((zg0_ HB hg:w.heap.size≤gb1));clear HB;have HB:=n0_;have BK1:=n1_;have GE1:=n3_;clear n0_ n1_ n2_ n3_;clear hb hbox hg)|((with_reducible refine gate_dst (N:=2) rfl ?_);refine bx_ (N:=2) (cs:=#[.int .i64 0, .int .i64 0, .int .i64 0]) (t:=27) ?_;intro gb2 hg w4 hbox hb;have n0_:=am_ (blk_below (zb_ BK1) hb);have n1_:=am_ (below_step (zl1_ HB GE1) hb);have n2_:=am_ (hbox);have n3_:=am_ ((zg1_ HB GE1 hg:w.heap.size≤gb2));have n4_:=am_ ((zg1_ HB GE1 hg:w.heap.size≤gb2));have n5_:=am_ ((zn_ BK1 hg:gb1≠gb2));have n6_:=am_ ((zm_ BK1 hg:gb2≠gb1));clear BK1;clear HB;have BK1:=n0_;have HB:=n1_;have BK2:=n2_;have GE2:=n4_;clear n0_ n1_ n2_ n3_ n4_ n5_ n6_;clear hb hbox hg;have hcz6_2:=zz_ BK1 2;have hcz6_3:=zz_ BK1 3;have hcz6_4:=zz_ BK1 4;have hcz6_8:=zz_ BK1 8;have hcz6_9:=zz_ BK1 9;have hcz6_10:=zz_ BK1 10)|((with_reducible refine gate_callee (f:=134) rfl ?_);refine gl_ (some 7) Try.func134 #[.agg #[.int .i64 a0_2, .int .i64 a0_3, .int .i64 a0_4], .agg #[.int .i64 a0_8, .int .i64 a0_9, .int .i64 a0_10]] ?_;(with_reducible refine (vec_Sub.calls a0_2 a0_3 a0_4 a0_8 a0_9 a0_10 t3 t4 t5 _ A2.out).mono ?_);rintro e w7 ⟨rfl,hb⟩;refine ⟨_,rfl, ?_⟩;replace BK1:=am_ (blk_below (zb_ BK1) hb);replace BK2:=am_ (blk_below (zb_ BK2) hb);replace HB:=am_ (below_step (zl2_ HB GE1 GE2) hb);(try clear hb);(try clear hb2);(try clear hk);(try clear hi);obtain ⟨hcz8_0,hcz8_1,hcz8_2⟩:=x3_ BK2;have hfz8_0:=blk_frozen BK2.out 0;have hfz8_1:=blk_frozen BK2.out 1;have hfz8_2:=blk_frozen BK2.out 2))
 refine bodyPost_ret (results_cell_row rfl _ _ gb2 27 #[.int .i64 t3, .int .i64 t4, .int .i64 t5] (0,0) _ rfl (zw_ BK2) Try.underlying27 rfl (by kernel_rfl)) rfl ?_
 exact ⟨by first|rfl|(simp [errW_none,errW_some]<;>rfl)|(simp [*,errW_none,errW_some]<;>rfl),zl2_ HB GE1 GE2⟩

def room_made.l0:Nat→List (S31)→Int→Int→List (S31)→Int→Int→Int→Option ((List (S31))×Int×Int×Int)
 |0,_,_,_,_,_,_,_=>none
 |k+1,x16,x17,x18,x9000,x9001,x9002,x9003=>if x18<x17 then (if 0≤x18 then (if x18<(x16.length:Int) then ((room_free.f ((rd_T31 x16 x18).f0) ((rd_T31 x16 x18).f1) ((rd_T31 x16 x18).f2.f0) ((rd_T31 x16 x18).f2.f1) ((rd_T31 x16 x18).f2.f2) ((rd_T31 x16 x18).f3.f0) ((rd_T31 x16 x18).f3.f1) ((rd_T31 x16 x18).f3.f2) ((rd_T31 x16 x18).f4.f0) ((rd_T31 x16 x18).f4.f1) ((rd_T31 x16 x18).f4.f2) ((rd_T31 x16 x18).f5)).bind fun bt11=>((vec_Add.f (([(⟨x9001,x9002,x9003⟩:S27),(⟨bt11.1,bt11.2.1,bt11.2.2⟩:S27)]:List (S27)))).bind fun bt18=>((vec_Max.f (([(⟨x9001,x9002,x9003⟩:S27),(⟨bt11.1,bt11.2.1,bt11.2.2⟩:S27)]:List (S27)))).bind fun bt24=>((vec_Sub.f bt18.1 bt18.2.1 bt18.2.2 bt24.1 bt24.2.1 bt24.2.2).bind fun bt27=>(room_made.l0 k x16 x17 (wrap64 (x18+1)) x9000 bt27.1 bt27.2.1 bt27.2.2))))) else (none)) else (none)) else (some (x9000,x9001,x9002,x9003))
def room_made.f (k:Nat) (l0:List (S31)) (a1:ByteArray):Option ((List (S31))×Int×Int×Int):=(room_along.f k l0 a1).bind fun t2=>((vec_Most.f).bind fun bt5=>(room_made.l0 k t2 (t2.length:Int) 0 t2 bt5.1 bt5.2.1 bt5.2.2))
theorem room_made.mono_l: ∀k,(∀y0 y1 y2 y3 y4 y5 y6,LeO (room_made.l0 k y0 y1 y2 y3 y4 y5 y6) (room_made.l0 (k+1) y0 y1 y2 y3 y4 y5 y6))
 |0=>fun _ _ _ _ _ _ _ r h=>by simp [room_made.l0] at h
 |k+1=>by
  have ih0:=room_made.mono_l k
  intro y0 y1 y2 y3 y4 y5 y6
  unfold room_made.l0
  repeat' first
  |(with_reducible exact ih0 _ _ _ _ _ _ _)
  |(with_reducible exact room_along.mono _ _ _)
  |(with_reducible exact LeO.refl _)
  |(with_reducible exact LeO.none _)
  |(with_reducible refine LeO.ite ?_ ?_)
  |(with_reducible refine LeO.bind ?_ (fun _=> ?_))
  |exact ih0 _ _ _ _ _ _ _
  |exact room_along.mono _ _ _
  |exact LeO.none _
  |refine LeO.ite ?_ ?_
  |refine LeO.bind ?_ (fun _=> ?_)
theorem room_made.mono: ∀a0 a1 k,LeO (room_made.f k a0 a1) (room_made.f (k+1) a0 a1):=by
 intro a0 a1 k
 have ih0:=room_made.mono_l k
 unfold room_made.f
 repeat' first
  |(with_reducible exact ih0 _ _ _ _ _ _ _)
  |(with_reducible exact room_along.mono _ _ _)
  |(with_reducible exact LeO.refl _)
  |(with_reducible exact LeO.none _)
  |(with_reducible refine LeO.ite ?_ ?_)
  |(with_reducible refine LeO.bind ?_ (fun _=> ?_))
  |exact ih0 _ _ _ _ _ _ _
  |exact room_along.mono _ _ _
  |exact LeO.none _
  |refine LeO.ite ?_ ?_
  |refine LeO.bind ?_ (fun _=> ?_)
def room_made.T6:Bool×List (List Nat×List Nat):=(true,[([],[]),([0],[0]),([],[]),([1,2],[1,2]),([3],[3]),([],[]),([5],[5]),([],[]),([6,7],[6,7]),([8,4],[8]),([4,9,9],[4,9]),([0,1,2,3,4,5,6,7,8,9,10],[]),([11,10,10,0,1,2,3,4,5,6,7,8,9,10],[10,11])])
def room_made.B6:List Nat:=[0,1,0,7,15,0,32,0,224,511,1023,2047,4095]
theorem room_made.tab6:rtab .any (opsOf Try.f104 6)=room_made.T6:=by kernel_rfl
theorem room_made.bits6:waitsOk room_made.T6.2 room_made.B6=true:=by kernel_rfl
set_option maxHeartbeats 8000000 in
set_option maxRecDepth 100000 in
theorem room_made.calls (k:Nat) (A0:Option Addr) (c0:Nat) (l0:List (S31)) (a1:ByteArray) (r1:List (S31)) (r2:Int) (r3:Int) (r4:Int) (w:World) (hr0:Kd.C k31 w A0 l0.length l0) (hc0:l0.length≤c0) (h:room_made.f k l0 a1=some (r1,r2,r3,r4)):
  Calls Try.prog 104 #[.slice A0 l0.length c0, .string a1] w fun e w'=> ∃v0_:Value,e= .returned (.agg #[v0_, .int .i64 r2, .int .i64 r3, .int .i64 r4])∧Kd.R k31 31 w' w.heap.size (fun _=>True) v0_ r1∧Below w.heap.size w w':=by
 have HR0:=Aside0.mk hr0
 have HC0:=Aside0.mk hc0
 clear hr0 hc0
 have HB:=am_ (Below.refl w.heap.size w)
 have H:((room_along.f k l0 a1).bind fun t2=>((vec_Most.f).bind fun bt5=>(room_made.l0 k t2 (t2.length:Int) 0 t2 bt5.1 bt5.2.1 bt5.2.2)))=some (r1,r2,r3,r4):=h
 clear h
 replace H:=Option.bind_eq_some_iff.mp H
 obtain ⟨t2,A30,H⟩:=H
 try dsimp only at H
 have A3:=Aside0.mk A30
 clear A30
 replace H:=Option.bind_eq_some_iff.mp H
 obtain ⟨⟨t5,t6,t7⟩,A40,H⟩:=H
 try dsimp only at H
 have A4:=Aside0.mk A40
 clear A40
 have H':=Aside0.mk H
 clear H
 go_enter Try.func104,Try.ntmps104
 go_wp2_with (first|((with_reducible refine gate_dst (N:=4) rfl ?_);refine bx_ (N:=4) (cs:=#[.slice none 0 0, .int .i64 0, .int .i64 0, .int .i64 0]) (t:=127) ?_;intro gb1 hg w5 hbox hb;have n0_:=am_ (below_step (zl0_ HB) hb);have n1_:=am_ (hbox);have n2_:=am_ ((zg0_ HB hg:w.heap.size≤gb1));have n3_:=am_ ((zg0_ HB hg:w.heap.size≤gb1));clear HB;have HB:=n0_;have BK1:=n1_;have GE1:=n3_;clear n0_ n1_ n2_ n3_;clear hb hbox hg)|((with_reducible refine gate_callee (f:=156) rfl ?_);refine gl_ (some 11) Try.func156 #[.slice A0 l0.length c0, .string a1] ?_;(with_reducible refine (room_along.calls k _ _ l0 a1 t2 _ ?side1 ?side2 A3.out).mono ?_);(case side1=>exact zc_ (Kd.C_below HR0.out HB.out));(case side2=>exact HC0.out);rintro e w6 ⟨v3,rfl,ho0,hb⟩;refine ⟨_,rfl, ?_⟩;have HO4:=am_ (Kd.R_lower ho0 (below_size (zl1_ HB GE1)));replace BK1:=am_ (blk_below (zb_ BK1) hb);replace HB:=am_ (below_step (zl1_ HB GE1) hb);(try clear hb);(try clear hb2);(try clear hk);(try clear hi);(try clear ho0))|((with_reducible refine gate_callee (f:=157) rfl ?_);refine gl_ (some 12) Try.func157 #[] ?_;(with_reducible refine (vec_Most.calls t5 t6 t7 _ A4.out).mono ?_);rintro e w7 ⟨rfl,hb⟩;refine ⟨_,rfl, ?_⟩;replace HO4:=am_ (Kd.R_below (zr_ HO4) hb);replace BK1:=am_ (blk_below (zb_ BK1) hb);replace HB:=am_ (below_step (zl1_ HB GE1) hb);(try clear hb);(try clear hb2);(try clear hk);(try clear hi);obtain ⟨Ao8,co8,eo8⟩:=Kd.R_slice HO4.out;subst eo8)|((with_reducible refine gate_dst (N:=5) rfl ?_);refine bx_ (N:=5) (cs:=#[.slice none 0 0, .int .i64 0, .int .i64 0, .int .i64 0]) (t:=127) ?_;intro gb8 hg w9 hbox hb;have n0_:=am_ (Kd.R_below (zr_ HO4) hb);have n1_:=am_ (blk_below (zb_ BK1) hb);have n2_:=am_ (below_step (zl1_ HB GE1) hb);have n3_:=am_ (hbox);have n4_:=am_ ((zg1_ HB GE1 hg:w.heap.size≤gb8));have n5_:=am_ ((zg1_ HB GE1 hg:w.heap.size≤gb8));have n6_:=am_ ((zn_ BK1 hg:gb1≠gb8));have n7_:=am_ ((zm_ BK1 hg:gb8≠gb1));clear HO4;clear BK1;clear HB;have HO4:=n0_;have BK1:=n1_;have HB:=n2_;have BK8:=n3_;have GE8:=n5_;have NB1_8:=n6_;clear n0_ n1_ n2_ n3_ n4_ n5_ n6_ n7_;clear hb hbox hg;obtain ⟨hcz11_0,hcz11_1,hcz11_2,hcz11_3⟩:=x4_ BK8;have hfz11_0:=blk_frozen BK8.out 0;have hfz11_1:=blk_frozen BK8.out 1;have hfz11_2:=blk_frozen BK8.out 2;have hfz11_3:=blk_frozen BK8.out 3))
 go_loopg [18] k (fun kq v18 w'=> ∃(x18_1:Int) (x9001_1:Int) (x9002_1:Int) (x9003_1:Int),v18= .int .i64 x18_1∧Aside0 (room_made.l0 kq t2 (t2.length:Int) x18_1 t2 x9001_1 x9002_1 x9003_1=some (r1,r2,r3,r4))∧Aside0 (kq≤k)∧Aside0 (Kd.R k31 31 w' w.heap.size (fun _=>True) (.slice Ao8 t2.length co8) t2)∧Aside0 (Kd.R k31 31 w' w.heap.size (fun _=>True) (.slice Ao8 t2.length co8) t2)∧Aside0 (w'.heap[gb1]?=some (.cells #[(.slice none 0 0), .int .i64 0, .int .i64 0, .int .i64 0] 127 (0,0)))∧Aside0 (w'.heap[gb8]?=some (.cells #[(.slice Ao8 t2.length co8), .int .i64 x9001_1, .int .i64 x9002_1, .int .i64 x9003_1] 127 (0,0)))∧Aside0 (Below w.heap.size w w'))
 case atStart=>exact ⟨(0),(t5),(t6),(t7),(by first|rfl|(simp;done)|(simp [*];done)),H',⟨Nat.le_refl _⟩,⟨zy_ HO4 BK8⟩,⟨zy_ HO4 BK8⟩,⟨zw_ BK1⟩,⟨zw_ BK8⟩,⟨zl2_ HB GE1 GE8⟩⟩
 case round=>
  clear H'
  try clear c1
  try clear p2
  try clear c10
  try clear hcz11_0
  try clear hcz11_1
  try clear hcz11_2
  try clear hcz11_3
  try clear hfz11_0
  try clear hfz11_1
  try clear hfz11_2
  try clear hfz11_3
  obtain ⟨x18_1,x9001_1,x9002_1,x9003_1,rfl,HA,HK1,HO_16,HO_9000,BK1,BK8,HB⟩:=hrel
  cases gk with
  |zero=>exact absurd HA.out (by simp [room_made.l0])
  |succ k1=>
   have H:=HA.out
   clear HA
   simp only [room_made.l0] at H
   by_cases c12:x18_1<(t2.length:Int)
   rotate_left
   ·rw [if_neg c12] at H
    have c12b0:decide (x18_1<(t2.length:Int))=false:=decide_eq_false c12
    clear c12
    simp only [Option.some.injEq,Prod.mk.injEq] at H
    obtain ⟨rfl,rfl,rfl,rfl⟩:=H
    obtain ⟨hcz45_0,hcz45_1,hcz45_2,hcz45_3⟩:=x4_ BK8
    obtain ⟨hcz46_0,hcz46_1,hcz46_2,hcz46_3,hfz46_0,hfz46_1,hfz46_2,hfz46_3⟩:=y4_ BK1
    go_wp2
    refine bodyPost_ret (results_cell_row rfl _ _ gb1 127 #[.slice Ao8 t2.length co8, .int .i64 x9001_1, .int .i64 x9002_1, .int .i64 x9003_1] (0,0) _ rfl (zw_ BK1) Try.underlying127 rfl (by kernel_rfl)) rfl ?_
    exact ⟨_,by first|rfl|(simp [errW_none,errW_some]<;>rfl)|(simp [*,errW_none,errW_some]<;>rfl),zy_ HO_9000 BK1,zl2_ HB GE1 GE8⟩

   rw [if_pos c12] at H
   have c12b0:decide (x18_1<(t2.length:Int))=true:=decide_eq_true c12
   clear c12
   by_cases c13:0≤x18_1
   rotate_left
   ·rw [if_neg c13] at H
    exact absurd H (by simp)
   rw [if_pos c13] at H
   have c13b0:decide (0≤x18_1)=true:=decide_eq_true c13
   clear c13
   by_cases c14:x18_1<(t2.length:Int)
   rotate_left
   ·rw [if_neg c14] at H
    exact absurd H (by simp)
   rw [if_pos c14] at H
   have c14b0:decide (x18_1<(t2.length:Int))=true:=decide_eq_true c14
   clear c14
   replace H:=Option.bind_eq_some_iff.mp H
   obtain ⟨⟨t11,t12,t13⟩,A150,H⟩:=H
   try dsimp only at H
   have A15:=Aside0.mk A150
   clear A150
   obtain ⟨y15,hy15⟩: ∃y_:List (S27),y_=(([(⟨x9001_1,x9002_1,x9003_1⟩:S27),(⟨t11,t12,t13⟩:S27)]:List (S27))):=⟨_,rfl⟩
   replace H:((vec_Add.f y15).bind fun bt18=>((vec_Max.f (([(⟨x9001_1,x9002_1,x9003_1⟩:S27),(⟨t11,t12,t13⟩:S27)]:List (S27)))).bind fun bt24=>((vec_Sub.f bt18.1 bt18.2.1 bt18.2.2 bt24.1 bt24.2.1 bt24.2.2).bind fun bt27=>(room_made.l0 k1 t2 (t2.length:Int) (wrap64 (x18_1+1)) t2 bt27.1 bt27.2.1 bt27.2.2))))=some (r1,r2,r3,r4):=by first|(rw [hy15];with_reducible exact H)|(have H2_:=(Option.bind_some _ _).symm.trans H;rw [hy15];with_reducible exact H2_)|(have H2_:=(Option.bind_some _ _).symm.trans H;with_reducible exact H2_)|with_reducible exact H|(rw [hy15];exact H)|exact H
   have Ny15:=Aside0.mk hy15
   clear hy15
   replace H:=Option.bind_eq_some_iff.mp H
   obtain ⟨⟨t18,t19,t20⟩,A160,H⟩:=H
   try dsimp only at H
   have A16:=Aside0.mk A160
   clear A160
   obtain ⟨y21,hy21⟩: ∃y_:List (S27),y_=(([(⟨x9001_1,x9002_1,x9003_1⟩:S27),(⟨t11,t12,t13⟩:S27)]:List (S27))):=⟨_,rfl⟩
   replace H:((vec_Max.f y21).bind fun bt24=>((vec_Sub.f t18 t19 t20 bt24.1 bt24.2.1 bt24.2.2).bind fun bt27=>(room_made.l0 k1 t2 (t2.length:Int) (wrap64 (x18_1+1)) t2 bt27.1 bt27.2.1 bt27.2.2)))=some (r1,r2,r3,r4):=by first|(rw [hy21];with_reducible exact H)|(have H2_:=(Option.bind_some _ _).symm.trans H;rw [hy21];with_reducible exact H2_)|(have H2_:=(Option.bind_some _ _).symm.trans H;with_reducible exact H2_)|with_reducible exact H|(rw [hy21];exact H)|exact H
   have Ny21:=Aside0.mk hy21
   clear hy21
   replace H:=Option.bind_eq_some_iff.mp H
   obtain ⟨⟨t24,t25,t26⟩,A170,H⟩:=H
   try dsimp only at H
   have A17:=Aside0.mk A170
   clear A170
   replace H:=Option.bind_eq_some_iff.mp H
   obtain ⟨⟨t27,t28,t29⟩,A180,H⟩:=H
   try dsimp only at H
   have A18:=Aside0.mk A180
   clear A180
   have H':=Aside0.mk H
   clear H
   have p9:0≤(x18_1:Int):=of_decide_eq_true zq_
   have q9:x18_1<(t2.length:Int):=of_decide_eq_true zq_
   obtain ⟨ad9,e9,hx9_0,hx9_1,hx9_2,hx9_3,hx9_4,hx9_5,hx9_6,hx9_7,hx9_8,hx9_9,hx9_10,hx9_11⟩:=at_T31 (Kd.R_reads' HO_16.out).2.2 x18_1 p9 q9
   cases e9
   replace p9:=eq_true p9
   replace q9:=eq_true q9
   try go_wp2_with (first|((with_reducible refine gate_dst (N:=7) rfl ?_);refine bx_ (N:=7) (cs:=#[.string (⟨#[]⟩:ByteArray), .string (⟨#[]⟩:ByteArray), .int .i64 0, .int .i64 0, .int .i64 0, .int .i64 0, .int .i64 0, .int .i64 0, .int .i64 0, .int .i64 0, .int .i64 0, .int .i64 0]) (t:=31) ?_;intro gb10 hg w19 hbox hb;have n0_:=am_ (Kd.R_below (Kd.R_elderB (zr_ HO_16) gb10 (Nat.le_of_eq hg.symm)) hb);have n1_:=am_ (Kd.R_below (Kd.R_elderB (zr_ HO_9000) gb10 (Nat.le_of_eq hg.symm)) hb);have n2_:=am_ (blk_below (zb_ BK1) hb);have n3_:=am_ (blk_below (zb_ BK8) hb);have n4_:=am_ (below_step (zl2_ HB GE1 GE8) hb);have n5_:=am_ (hbox);have n6_:=am_ ((zg2_ HB GE1 GE8 hg:w.heap.size≤gb10));have n7_:=am_ ((zg2_ HB GE1 GE8 hg:w.heap.size≤gb10));have n8_:=am_ ((zn_ BK1 hg:gb1≠gb10));have n9_:=am_ ((zm_ BK1 hg:gb10≠gb1));have n10_:=am_ ((zn_ BK8 hg:gb8≠gb10));have n11_:=am_ ((zm_ BK8 hg:gb10≠gb8));clear HO_16;clear HO_9000;clear BK1;clear BK8;clear HB;have HO_16:=n0_;have HO_9000:=n1_;have BK1:=n2_;have BK8:=n3_;have HB:=n4_;have BK10:=n5_;have GE10:=n7_;have NB1_10:=n8_;have NB8_10:=n10_;clear n0_ n1_ n2_ n3_ n4_ n5_ n6_ n7_ n8_ n9_ n10_ n11_;clear hb hbox hg;obtain ⟨hcz22_0,hcz22_1,hcz22_2,hcz22_3,hcz22_4,hcz22_5,hcz22_6,hcz22_7,hcz22_8,hcz22_9,hcz22_10,hcz22_11⟩:=x12_ BK10;have hfz22_0:=blk_frozen BK10.out 0;have hfz22_1:=blk_frozen BK10.out 1;have hfz22_2:=blk_frozen BK10.out 2;have hfz22_3:=blk_frozen BK10.out 3;have hfz22_4:=blk_frozen BK10.out 4;have hfz22_5:=blk_frozen BK10.out 5;have hfz22_6:=blk_frozen BK10.out 6;have hfz22_7:=blk_frozen BK10.out 7;have hfz22_8:=blk_frozen BK10.out 8;have hfz22_9:=blk_frozen BK10.out 9;have hfz22_10:=blk_frozen BK10.out 10;have hfz22_11:=blk_frozen BK10.out 11)|((with_reducible refine gate_callee (f:=158) rfl ?_);refine gl_ (some 23) Try.func158 #[.agg #[.string ((rd_T31 t2 x18_1).f0), .string ((rd_T31 t2 x18_1).f1), .int .i64 ((rd_T31 t2 x18_1).f2.f0), .int .i64 ((rd_T31 t2 x18_1).f2.f1), .int .i64 ((rd_T31 t2 x18_1).f2.f2), .int .i64 ((rd_T31 t2 x18_1).f3.f0), .int .i64 ((rd_T31 t2 x18_1).f3.f1), .int .i64 ((rd_T31 t2 x18_1).f3.f2), .int .i64 ((rd_T31 t2 x18_1).f4.f0), .int .i64 ((rd_T31 t2 x18_1).f4.f1), .int .i64 ((rd_T31 t2 x18_1).f4.f2), .int .i64 ((rd_T31 t2 x18_1).f5)]] ?_;(with_reducible refine (room_free.calls ((rd_T31 t2 x18_1).f0) ((rd_T31 t2 x18_1).f1) ((rd_T31 t2 x18_1).f2.f0) ((rd_T31 t2 x18_1).f2.f1) ((rd_T31 t2 x18_1).f2.f2) ((rd_T31 t2 x18_1).f3.f0) ((rd_T31 t2 x18_1).f3.f1) ((rd_T31 t2 x18_1).f3.f2) ((rd_T31 t2 x18_1).f4.f0) ((rd_T31 t2 x18_1).f4.f1) ((rd_T31 t2 x18_1).f4.f2) ((rd_T31 t2 x18_1).f5) t11 t12 t13 _ A15.out).mono ?_);rintro e w23 ⟨rfl,hb⟩;refine ⟨_,rfl, ?_⟩;replace HO_16:=am_ (Kd.R_below (by refine zt_ ?_;exact (Kd.R_mono (Kd.R_far (p:=⟨gb10,11,none⟩) (Kd.R_far (p:=⟨gb10,10,none⟩) (Kd.R_far (p:=⟨gb10,9,none⟩) (Kd.R_far (p:=⟨gb10,8,none⟩) (Kd.R_far (p:=⟨gb10,7,none⟩) (Kd.R_far (p:=⟨gb10,6,none⟩) (Kd.R_far (p:=⟨gb10,5,none⟩) (Kd.R_far (p:=⟨gb10,4,none⟩) (Kd.R_far (p:=⟨gb10,3,none⟩) (Kd.R_far (p:=⟨gb10,2,none⟩) (Kd.R_far (p:=⟨gb10,1,none⟩) (Kd.R_far (p:=⟨gb10,0,none⟩) (Kd.R_mono HO_16.out (fun k_ hk=>(⟨hk,hk.2⟩:_∧k_≠gb10))) (fun _ hk=>hk.2) (.string ((rd_T31 t2 x18_1).f0))) (fun _ hk=>hk.2) (.string ((rd_T31 t2 x18_1).f1))) (fun _ hk=>hk.2) (.int .i64 ((rd_T31 t2 x18_1).f2.f0))) (fun _ hk=>hk.2) (.int .i64 ((rd_T31 t2 x18_1).f2.f1))) (fun _ hk=>hk.2) (.int .i64 ((rd_T31 t2 x18_1).f2.f2))) (fun _ hk=>hk.2) (.int .i64 ((rd_T31 t2 x18_1).f3.f0))) (fun _ hk=>hk.2) (.int .i64 ((rd_T31 t2 x18_1).f3.f1))) (fun _ hk=>hk.2) (.int .i64 ((rd_T31 t2 x18_1).f3.f2))) (fun _ hk=>hk.2) (.int .i64 ((rd_T31 t2 x18_1).f4.f0))) (fun _ hk=>hk.2) (.int .i64 ((rd_T31 t2 x18_1).f4.f1))) (fun _ hk=>hk.2) (.int .i64 ((rd_T31 t2 x18_1).f4.f2))) (fun _ hk=>hk.2) (.int .i64 ((rd_T31 t2 x18_1).f5))) (fun _ h_=>h_.1))) hb);replace HO_9000:=am_ (Kd.R_below (by refine zt_ ?_;exact (Kd.R_mono (Kd.R_far (p:=⟨gb10,11,none⟩) (Kd.R_far (p:=⟨gb10,10,none⟩) (Kd.R_far (p:=⟨gb10,9,none⟩) (Kd.R_far (p:=⟨gb10,8,none⟩) (Kd.R_far (p:=⟨gb10,7,none⟩) (Kd.R_far (p:=⟨gb10,6,none⟩) (Kd.R_far (p:=⟨gb10,5,none⟩) (Kd.R_far (p:=⟨gb10,4,none⟩) (Kd.R_far (p:=⟨gb10,3,none⟩) (Kd.R_far (p:=⟨gb10,2,none⟩) (Kd.R_far (p:=⟨gb10,1,none⟩) (Kd.R_far (p:=⟨gb10,0,none⟩) (Kd.R_mono HO_9000.out (fun k_ hk=>(⟨hk,hk.2⟩:_∧k_≠gb10))) (fun _ hk=>hk.2) (.string ((rd_T31 t2 x18_1).f0))) (fun _ hk=>hk.2) (.string ((rd_T31 t2 x18_1).f1))) (fun _ hk=>hk.2) (.int .i64 ((rd_T31 t2 x18_1).f2.f0))) (fun _ hk=>hk.2) (.int .i64 ((rd_T31 t2 x18_1).f2.f1))) (fun _ hk=>hk.2) (.int .i64 ((rd_T31 t2 x18_1).f2.f2))) (fun _ hk=>hk.2) (.int .i64 ((rd_T31 t2 x18_1).f3.f0))) (fun _ hk=>hk.2) (.int .i64 ((rd_T31 t2 x18_1).f3.f1))) (fun _ hk=>hk.2) (.int .i64 ((rd_T31 t2 x18_1).f3.f2))) (fun _ hk=>hk.2) (.int .i64 ((rd_T31 t2 x18_1).f4.f0))) (fun _ hk=>hk.2) (.int .i64 ((rd_T31 t2 x18_1).f4.f1))) (fun _ hk=>hk.2) (.int .i64 ((rd_T31 t2 x18_1).f4.f2))) (fun _ hk=>hk.2) (.int .i64 ((rd_T31 t2 x18_1).f5))) (fun _ h_=>h_.1))) hb);replace BK1:=am_ (blk_below (g:=gb1) (o:= .cells #[.slice none 0 0, .int .i64 0, .int .i64 0, .int .i64 0] 127 (0,0)) (zw_ BK1) hb);replace BK8:=am_ (blk_below (g:=gb8) (o:= .cells #[.slice (some ad9) t2.length co8, .int .i64 x9001_1, .int .i64 x9002_1, .int .i64 x9003_1] 127 (0,0)) (zw_ BK8) hb);replace BK10:=am_ (blk_below (g:=gb10) (o:= .cells #[.string ((rd_T31 t2 x18_1).f0), .string ((rd_T31 t2 x18_1).f1), .int .i64 ((rd_T31 t2 x18_1).f2.f0), .int .i64 ((rd_T31 t2 x18_1).f2.f1), .int .i64 ((rd_T31 t2 x18_1).f2.f2), .int .i64 ((rd_T31 t2 x18_1).f3.f0), .int .i64 ((rd_T31 t2 x18_1).f3.f1), .int .i64 ((rd_T31 t2 x18_1).f3.f2), .int .i64 ((rd_T31 t2 x18_1).f4.f0), .int .i64 ((rd_T31 t2 x18_1).f4.f1), .int .i64 ((rd_T31 t2 x18_1).f4.f2), .int .i64 ((rd_T31 t2 x18_1).f5)] 31 (0,0)) (zw_ BK10) hb);replace HB:=am_ (below_step (zl3_ HB GE1 GE8 GE10) hb);(try clear hb);(try clear hb2);(try clear hk);(try clear hi))|((with_reducible refine gate_dst (N:=8) rfl ?_);refine bx_ (N:=8) (cs:=#[.int .i64 0, .int .i64 0, .int .i64 0]) (t:=27) ?_;intro gb14 hg w24 hbox hb;have n0_:=am_ (Kd.R_below (zr_ HO_16) hb);have n1_:=am_ (Kd.R_below (zr_ HO_9000) hb);have n2_:=am_ (blk_below (zb_ BK1) hb);have n3_:=am_ (blk_below (zb_ BK8) hb);have n4_:=am_ (blk_below (zb_ BK10) hb);have n5_:=am_ (below_step (zl3_ HB GE1 GE8 GE10) hb);have n6_:=am_ (hbox);have n7_:=am_ ((zg3_ HB GE1 GE8 GE10 hg:w.heap.size≤gb14));have n8_:=am_ ((zg3_ HB GE1 GE8 GE10 hg:w.heap.size≤gb14));have n9_:=am_ ((zn_ BK1 hg:gb1≠gb14));have n10_:=am_ ((zm_ BK1 hg:gb14≠gb1));have n11_:=am_ ((zn_ BK8 hg:gb8≠gb14));have n12_:=am_ ((zm_ BK8 hg:gb14≠gb8));have n13_:=am_ ((zn_ BK10 hg:gb10≠gb14));have n14_:=am_ ((zm_ BK10 hg:gb14≠gb10));clear HO_16;clear HO_9000;clear BK1;clear BK8;clear BK10;clear HB;have HO_16:=n0_;have HO_9000:=n1_;have BK1:=n2_;have BK8:=n3_;have BK10:=n4_;have HB:=n5_;have BK14:=n6_;have GE14:=n8_;have NB1_14:=n9_;have NB8_14:=n11_;have NB10_14:=n13_;clear n0_ n1_ n2_ n3_ n4_ n5_ n6_ n7_ n8_ n9_ n10_ n11_ n12_ n13_ n14_;clear hb hbox hg;obtain ⟨hcz28_0,hcz28_1,hcz28_2⟩:=x3_ BK14;have hfz28_0:=blk_frozen BK14.out 0;have hfz28_1:=blk_frozen BK14.out 1;have hfz28_2:=blk_frozen BK14.out 2))
   have n0_:Aside0 (Kd.R k31 31 (((w24.setCell ⟨gb14,0,none⟩ (.int .i64 t11)).setCell ⟨gb14,1,none⟩ (.int .i64 t12)).setCell ⟨gb14,2,none⟩ (.int .i64 t13)) w.heap.size (fun k_=>k_≠gb10) (.slice (some ad9) t2.length co8) t2):=⟨by (with_reducible repeat (first|apply Kd.R_alloc|apply Kd.R_drewN|apply Kd.R_drew));exact Kd.R_mono (Kd.R_far (p:=⟨gb14,2,none⟩) (Kd.R_far (p:=⟨gb14,1,none⟩) (Kd.R_far (p:=⟨gb14,0,none⟩) (Kd.R_types HO_16.out BK14.out (by decide)) (fun _ hk=>hk.2) (.int .i64 t11)) (fun _ hk=>hk.2) (.int .i64 t12)) (fun _ hk=>hk.2) (.int .i64 t13)) (fun _ hk=>hk.1.2)⟩
   have n1_:Aside0 (Kd.R k31 31 (((w24.setCell ⟨gb14,0,none⟩ (.int .i64 t11)).setCell ⟨gb14,1,none⟩ (.int .i64 t12)).setCell ⟨gb14,2,none⟩ (.int .i64 t13)) w.heap.size (fun k_=>k_≠gb10) (.slice (some ad9) t2.length co8) t2):=⟨by (with_reducible repeat (first|apply Kd.R_alloc|apply Kd.R_drewN|apply Kd.R_drew));exact Kd.R_mono (Kd.R_far (p:=⟨gb14,2,none⟩) (Kd.R_far (p:=⟨gb14,1,none⟩) (Kd.R_far (p:=⟨gb14,0,none⟩) (Kd.R_types HO_9000.out BK14.out (by decide)) (fun _ hk=>hk.2) (.int .i64 t11)) (fun _ hk=>hk.2) (.int .i64 t12)) (fun _ hk=>hk.2) (.int .i64 t13)) (fun _ hk=>hk.1.2)⟩
   have n2_:Aside0 ((((w24.setCell ⟨gb14,0,none⟩ (.int .i64 t11)).setCell ⟨gb14,1,none⟩ (.int .i64 t12)).setCell ⟨gb14,2,none⟩ (.int .i64 t13)).heap[gb1]?=some (.cells #[.slice none 0 0, .int .i64 0, .int .i64 0, .int .i64 0] 127 (0,0))):=⟨zw_ BK1⟩
   have n3_:Aside0 ((((w24.setCell ⟨gb14,0,none⟩ (.int .i64 t11)).setCell ⟨gb14,1,none⟩ (.int .i64 t12)).setCell ⟨gb14,2,none⟩ (.int .i64 t13)).heap[gb8]?=some (.cells #[.slice (some ad9) t2.length co8, .int .i64 x9001_1, .int .i64 x9002_1, .int .i64 x9003_1] 127 (0,0))):=⟨zw_ BK8⟩
   have n4_:Aside0 ((((w24.setCell ⟨gb14,0,none⟩ (.int .i64 t11)).setCell ⟨gb14,1,none⟩ (.int .i64 t12)).setCell ⟨gb14,2,none⟩ (.int .i64 t13)).heap[gb10]?=some (.cells #[.string ((rd_T31 t2 x18_1).f0), .string ((rd_T31 t2 x18_1).f1), .int .i64 ((rd_T31 t2 x18_1).f2.f0), .int .i64 ((rd_T31 t2 x18_1).f2.f1), .int .i64 ((rd_T31 t2 x18_1).f2.f2), .int .i64 ((rd_T31 t2 x18_1).f3.f0), .int .i64 ((rd_T31 t2 x18_1).f3.f1), .int .i64 ((rd_T31 t2 x18_1).f3.f2), .int .i64 ((rd_T31 t2 x18_1).f4.f0), .int .i64 ((rd_T31 t2 x18_1).f4.f1), .int .i64 ((rd_T31 t2 x18_1).f4.f2), .int .i64 ((rd_T31 t2 x18_1).f5)] 31 (0,0))):=⟨zw_ BK10⟩
   have n5_:Aside0 ((((w24.setCell ⟨gb14,0,none⟩ (.int .i64 t11)).setCell ⟨gb14,1,none⟩ (.int .i64 t12)).setCell ⟨gb14,2,none⟩ (.int .i64 t13)).heap[gb14]?=some (.cells #[.int .i64 t11, .int .i64 t12, .int .i64 t13] 27 (0,0))):=⟨zw_ BK14⟩
   have n6_:Aside0 (Below w.heap.size w (((w24.setCell ⟨gb14,0,none⟩ (.int .i64 t11)).setCell ⟨gb14,1,none⟩ (.int .i64 t12)).setCell ⟨gb14,2,none⟩ (.int .i64 t13))):=⟨zl4_ HB GE1 GE8 GE10 GE14⟩
   (try clear HO_16)
   (try clear HO_9000)
   (try clear BK1)
   (try clear BK8)
   (try clear BK10)
   (try clear BK14)
   (try clear HB)
   generalize (((w24.setCell ⟨gb14,0,none⟩ (.int .i64 t11)).setCell ⟨gb14,1,none⟩ (.int .i64 t12)).setCell ⟨gb14,2,none⟩ (.int .i64 t13))=w29 at n0_ n1_ n2_ n3_ n4_ n5_ n6_ ⊢
   have HO_16:=n0_
   have HO_9000:=n1_
   have BK1:=n2_
   have BK8:=n3_
   have BK10:=n4_
   have BK14:=n5_
   have HB:=n6_
   clear n0_ n1_ n2_ n3_ n4_ n5_ n6_
   replace HO_16:=am_ (Kd.R_drew HO_16.out)
   replace HO_9000:=am_ (Kd.R_drew HO_9000.out)
   replace BK1:=am_ (blk_drew BK1.out)
   replace BK8:=am_ (blk_drew BK8.out)
   replace BK10:=am_ (blk_drew BK10.out)
   replace BK14:=am_ (blk_drew BK14.out)
   replace HB:=am_ (below_drew1 HB.out)
   refine start_ (n:=13) (S:=fun w'=>w'.cell? ⟨gb8,0,none⟩=some (.slice (some ad9) t2.length co8)∧w'.cell? ⟨gb8,1,none⟩=some (.int .i64 x9001_1)∧w'.cell? ⟨gb8,2,none⟩=some (.int .i64 x9002_1)∧w'.cell? ⟨gb8,3,none⟩=some (.int .i64 x9003_1)∧w'.cell? ⟨gb14,0,none⟩=some (.int .i64 t11)∧w'.cell? ⟨gb14,1,none⟩=some (.int .i64 t12)∧w'.cell? ⟨gb14,2,none⟩=some (.int .i64 t13)) (ds:=[12]) (bt_ 13 0) (by kernel_rfl) rfl rfl ⟨(blk_cell BK8.out 0).trans rfl,(blk_cell BK8.out 1).trans rfl,(blk_cell BK8.out 2).trans rfl,(blk_cell BK8.out 3).trans rfl,(blk_cell BK14.out 0).trans rfl,(blk_cell BK14.out 1).trans rfl,(blk_cell BK14.out 2).trans rfl⟩ (fun hHeld=> ?_);refine with_tabW room_made.tab6 room_made.bits6 (fun HT_ HW_=> ?_)
   generalize w29.drew=w30 at HO_16 HO_9000 BK1 BK8 BK10 BK14 HB hHeld ⊢
   refine pu_ (i:=0) (N:=some 24) (bt_ 13 1) HT_ ?_
   refine pu_ (i:=5) (N:=some 29) (bt_ 13 33) HT_ ?_
   refine tk_ (i:=1) (N:=some 25) (bt_ 13 35) HT_ HW_ hHeld ?_
   refine tk_ (i:=2) (N:=some 26) (bt_ 13 39) HT_ HW_ hHeld ?_
   refine tk_ (i:=6) (N:=some 30) (bt_ 13 103) HT_ HW_ hHeld ?_
   refine tk_ (i:=7) (N:=some 31) (bt_ 13 231) HT_ HW_ hHeld ?_
   refine join_ (σ:=Value×Value) 4 (bt_ 13 511) (fun s_=> [(27,s_.1),(28, .agg #[.int .i64 t18, .int .i64 t19, .int .i64 t20]),(32,s_.2)]) (fun s_ w'=>(w'.cell? ⟨gb8,0,none⟩=some (.slice (some ad9) t2.length co8)∧w'.cell? ⟨gb8,1,none⟩=some (.int .i64 x9001_1)∧w'.cell? ⟨gb8,2,none⟩=some (.int .i64 x9002_1)∧w'.cell? ⟨gb8,3,none⟩=some (.int .i64 x9003_1)∧w'.cell? ⟨gb14,0,none⟩=some (.int .i64 t11)∧w'.cell? ⟨gb14,1,none⟩=some (.int .i64 t12)∧w'.cell? ⟨gb14,2,none⟩=some (.int .i64 t13))∧(Kd.R k27 27 w' w.heap.size (fun k_=>some k_≠(s_.2:Value).ownBlock∧k_≠gb14) s_.1 y15)∧(Kd.R k27 27 w' w.heap.size (fun k_=>some k_≠(s_.1:Value).ownBlock∧k_≠gb14) s_.2 y21)∧(Kd.R k31 31 w' w.heap.size (fun k_=>k_≠gb10) (.slice (some ad9) t2.length co8) t2)∧(Kd.R k31 31 w' w.heap.size (fun k_=>k_≠gb10) (.slice (some ad9) t2.length co8) t2)∧(w'.heap[gb1]?=some (.cells #[.slice none 0 0, .int .i64 0, .int .i64 0, .int .i64 0] 127 (0,0)))∧(w'.heap[gb10]?=some (.cells #[.string ((rd_T31 t2 x18_1).f0), .string ((rd_T31 t2 x18_1).f1), .int .i64 ((rd_T31 t2 x18_1).f2.f0), .int .i64 ((rd_T31 t2 x18_1).f2.f1), .int .i64 ((rd_T31 t2 x18_1).f2.f2), .int .i64 ((rd_T31 t2 x18_1).f3.f0), .int .i64 ((rd_T31 t2 x18_1).f3.f1), .int .i64 ((rd_T31 t2 x18_1).f3.f2), .int .i64 ((rd_T31 t2 x18_1).f4.f0), .int .i64 ((rd_T31 t2 x18_1).f4.f1), .int .i64 ((rd_T31 t2 x18_1).f4.f2), .int .i64 ((rd_T31 t2 x18_1).f5)] 31 (0,0)))∧(w'.heap[gb14]?=some (.cells #[.int .i64 t11, .int .i64 t12, .int .i64 t13] 27 (0,0)))∧(w'.heap[gb8]?=some (.cells #[.slice (some ad9) t2.length co8, .int .i64 x9001_1, .int .i64 x9002_1, .int .i64 x9003_1] 127 (0,0)))∧(Below w.heap.size w w')) ?_ ?_
   rotate_left
   ·intro hCont
    refine two_ (i:=3) (j:=8) (Ni:=some 27) (Nj:=some 32) (bt_ 13 239) (bt_ 13 487) rfl rfl rfl rfl (two_of HT_.out (by kernel_rfl)) (by decide) (by decide) (fun K hK=> ?_) (fun K hK=> ?_)
    rotate_left
    ·skip
     refine Kd.R_lit_step k27 _ 27 ?hg (N:=32) ?hd (xs:=([(⟨x9001_1,x9002_1,x9003_1⟩:S27),(⟨t11,t12,t13⟩:S27)]:List (S27))) (inner:=[.int .i64 x9001_1, .int .i64 x9002_1, .int .i64 x9003_1, .int .i64 t11, .int .i64 t12, .int .i64 t13]) (ok:=fun _=>True) (okp:=fun _=>True) ?hr ?hp (fun _ hk=>hk) trivial (Below.refl _ _) (Nat.le_refl _) (by simp) ?_;(case hd=>rfl);(case hg=>rfl);(case hr=>first|(go_simp;done)|(go_simp;rfl));(case hp=>exact (Reps.c3 (show Kd.M k27 _ _ _ (⟨x9001_1,x9002_1,x9003_1⟩:S27) [.int .i64 x9001_1, .int .i64 x9002_1, .int .i64 x9003_1] from (k27_mkM _ _ _ (⟨x9001_1,x9002_1,x9003_1⟩:S27))) (Reps.c3 (show Kd.M k27 _ _ _ (⟨t11,t12,t13⟩:S27) [.int .i64 t11, .int .i64 t12, .int .i64 t13] from (k27_mkM _ _ _ (⟨t11,t12,t13⟩:S27))) (Reps.none _ _))))
     intro v22 w31 ho32 hb hg_ hnew_
     clear hg_ hnew_
     (first|rw [←Ny21.out] at ho32|(simp only [Int.reduceToNat] at ho32;rw [←Ny21.out] at ho32))
     replace HO_16:=am_ (Kd.R_below (zr_ HO_16) hb)
     replace HO_9000:=am_ (Kd.R_below (zr_ HO_9000) hb)
     have HO23:=am_ (Kd.R_lower (Kd.R_newB ho32 (g:=gb14) (o:= .cells #[.int .i64 t11, .int .i64 t12, .int .i64 t13] 27 (0,0)) (zb_ BK14)) (below_size (zl4_ HB GE1 GE8 GE10 GE14)))
     replace BK1:=am_ (blk_below (zb_ BK1) hb)
     replace BK8:=am_ (blk_below (zb_ BK8) hb)
     replace BK10:=am_ (blk_below (zb_ BK10) hb)
     replace BK14:=am_ (blk_below (zb_ BK14) hb)
     replace HB:=am_ (below_step (zl4_ HB GE1 GE8 GE10 GE14) hb)
     clear hb ho32
     refine hK.out _ _ ⟨(blk_cell BK8.out 0).trans rfl,(blk_cell BK8.out 1).trans rfl,(blk_cell BK8.out 2).trans rfl,(blk_cell BK8.out 3).trans rfl,(blk_cell BK14.out 0).trans rfl,(blk_cell BK14.out 1).trans rfl,(blk_cell BK14.out 2).trans rfl⟩ (fun hHeld=> ?_)
     clear hK K
     refine no_ (N:=some 32) ?_
     refine on_ (i:=3) (N:=some 27) (bt_ 13 495) HT_ (fun K hK=> ?_)
     refine Kd.R_lit_step k27 _ 27 ?hg (N:=27) ?hd (xs:=([(⟨x9001_1,x9002_1,x9003_1⟩:S27),(⟨t11,t12,t13⟩:S27)]:List (S27))) (inner:=[.int .i64 x9001_1, .int .i64 x9002_1, .int .i64 x9003_1, .int .i64 t11, .int .i64 t12, .int .i64 t13]) (ok:=fun _=>True) (okp:=fun _=>True) ?hr ?hp (fun _ hk=>hk) trivial (Below.refl _ _) (Nat.le_refl _) (by simp) ?_;(case hd=>rfl);(case hg=>rfl);(case hr=>first|(go_simp;done)|(go_simp;rfl));(case hp=>exact (Reps.c3 (show Kd.M k27 _ _ _ (⟨x9001_1,x9002_1,x9003_1⟩:S27) [.int .i64 x9001_1, .int .i64 x9002_1, .int .i64 x9003_1] from (k27_mkM _ _ _ (⟨x9001_1,x9002_1,x9003_1⟩:S27))) (Reps.c3 (show Kd.M k27 _ _ _ (⟨t11,t12,t13⟩:S27) [.int .i64 t11, .int .i64 t12, .int .i64 t13] from (k27_mkM _ _ _ (⟨t11,t12,t13⟩:S27))) (Reps.none _ _))))
     intro v16 w33 ho34 hb hg_ hnew_
     clear hg_ hnew_
     (first|rw [←Ny15.out] at ho34|(simp only [Int.reduceToNat] at ho34;rw [←Ny15.out] at ho34))
     replace HO_16:=am_ (Kd.R_below (zr_ HO_16) hb)
     replace HO_9000:=am_ (Kd.R_below (zr_ HO_9000) hb)
     have HO17:=am_ (Kd.R_lower (Kd.R_newB (Kd.R_new' ho34 (Kd.R_lt (zr_ HO23))) (g:=gb14) (o:= .cells #[.int .i64 t11, .int .i64 t12, .int .i64 t13] 27 (0,0)) (zb_ BK14)) (below_size (zl4_ HB GE1 GE8 GE10 GE14)))
     replace HO23:=am_ (Kd.R_elder' (zr_ HO23) (Kd.R_base ho34) hb)
     replace BK1:=am_ (blk_below (zb_ BK1) hb)
     replace BK8:=am_ (blk_below (zb_ BK8) hb)
     replace BK10:=am_ (blk_below (zb_ BK10) hb)
     replace BK14:=am_ (blk_below (zb_ BK14) hb)
     replace HB:=am_ (below_step (zl4_ HB GE1 GE8 GE10 GE14) hb)
     clear hb ho34
     obtain ⟨Ao35,co35,eo35⟩:=Kd.R_slice HO17.out
     (first|subst eo35|(injection eo35 with f1_ f2_ f3_;have f4_:=f1_.symm;have f5_:=f3_.symm;clear f1_ f2_ f3_;subst f4_;subst f5_))
     refine hK.out _ _ ⟨(blk_cell BK8.out 0).trans rfl,(blk_cell BK8.out 1).trans rfl,(blk_cell BK8.out 2).trans rfl,(blk_cell BK8.out 3).trans rfl,(blk_cell BK14.out 0).trans rfl,(blk_cell BK14.out 1).trans rfl,(blk_cell BK14.out 2).trans rfl⟩ (fun hHeld=> ?_)
     clear hK K
     refine no_ (N:=some 27) ?_
     refine on_ (i:=4) (N:=some 28) (bt_ 13 511) HT_ (fun K hK=> ?_)
     refine gs_ Try.func119 #[.slice Ao35 y15.length co35] ?_
     with_reducible refine (vec_Add.calls _ _ y15 t18 t19 t20 _ ?side1 ?side2 A16.out).mono ?_
     (case side1=>exact zc_ (Kd.R_reads' HO17.out).2.2)
     (case side2=>exact (Kd.R_reads' HO17.out).2.1)
     rintro e w36 ⟨rfl,hb⟩
     refine ⟨_,rfl, ?_⟩
     replace HO_16:=am_ (Kd.R_below (zr_ HO_16) hb)
     replace HO_9000:=am_ (Kd.R_below (zr_ HO_9000) hb)
     replace HO23:=am_ (Kd.R_below (zr_ HO23) hb)
     replace HO17:=am_ (Kd.R_below (zr_ HO17) hb)
     replace BK1:=am_ (blk_below (zb_ BK1) hb)
     replace BK8:=am_ (blk_below (zb_ BK8) hb)
     replace BK10:=am_ (blk_below (zb_ BK10) hb)
     replace BK14:=am_ (blk_below (zb_ BK14) hb)
     replace HB:=am_ (below_step (zl4_ HB GE1 GE8 GE10 GE14) hb)
     (try clear hb)
     (try clear hb2)
     (try clear hk)
     (try clear hi)
     refine hK.out _ _ ⟨(blk_cell BK8.out 0).trans rfl,(blk_cell BK8.out 1).trans rfl,(blk_cell BK8.out 2).trans rfl,(blk_cell BK8.out 3).trans rfl,(blk_cell BK14.out 0).trans rfl,(blk_cell BK14.out 1).trans rfl,(blk_cell BK14.out 2).trans rfl⟩ (fun hHeld=> ?_)
     clear hK K
     refine no_ (N:=some 28) ?_
     exact norm_ (by simp only [putAll,Act.put,List.setIfInBounds_toArray,List.set_cons_zero,List.set_cons_succ]) (hCont (.slice Ao35 y15.length co35,v22) _ ⟨hHeld,(by refine zt_ ?_;exact Kd.R_mono HO17.out (fun _ hk=>⟨hk.1.2,hk.2⟩)),(by refine zt_ ?_;exact Kd.R_mono HO23.out (fun _ hk=>⟨hk.2,hk.1.2⟩)),(zr_ HO_16),(zr_ HO_9000),(zb_ BK1),(zb_ BK10),(zb_ BK14),(zb_ BK8),(zl4_ HB GE1 GE8 GE10 GE14)⟩)
    skip
    refine Kd.R_lit_step k27 _ 27 ?hg (N:=27) ?hd (xs:=([(⟨x9001_1,x9002_1,x9003_1⟩:S27),(⟨t11,t12,t13⟩:S27)]:List (S27))) (inner:=[.int .i64 x9001_1, .int .i64 x9002_1, .int .i64 x9003_1, .int .i64 t11, .int .i64 t12, .int .i64 t13]) (ok:=fun _=>True) (okp:=fun _=>True) ?hr ?hp (fun _ hk=>hk) trivial (Below.refl _ _) (Nat.le_refl _) (by simp) ?_;(case hd=>rfl);(case hg=>rfl);(case hr=>first|(go_simp;done)|(go_simp;rfl));(case hp=>exact (Reps.c3 (show Kd.M k27 _ _ _ (⟨x9001_1,x9002_1,x9003_1⟩:S27) [.int .i64 x9001_1, .int .i64 x9002_1, .int .i64 x9003_1] from (k27_mkM _ _ _ (⟨x9001_1,x9002_1,x9003_1⟩:S27))) (Reps.c3 (show Kd.M k27 _ _ _ (⟨t11,t12,t13⟩:S27) [.int .i64 t11, .int .i64 t12, .int .i64 t13] from (k27_mkM _ _ _ (⟨t11,t12,t13⟩:S27))) (Reps.none _ _))))
    intro v16 w31 ho32 hb hg_ hnew_
    clear hg_ hnew_
    (first|rw [←Ny15.out] at ho32|(simp only [Int.reduceToNat] at ho32;rw [←Ny15.out] at ho32))
    replace HO_16:=am_ (Kd.R_below (zr_ HO_16) hb)
    replace HO_9000:=am_ (Kd.R_below (zr_ HO_9000) hb)
    have HO17:=am_ (Kd.R_lower (Kd.R_newB ho32 (g:=gb14) (o:= .cells #[.int .i64 t11, .int .i64 t12, .int .i64 t13] 27 (0,0)) (zb_ BK14)) (below_size (zl4_ HB GE1 GE8 GE10 GE14)))
    replace BK1:=am_ (blk_below (zb_ BK1) hb)
    replace BK8:=am_ (blk_below (zb_ BK8) hb)
    replace BK10:=am_ (blk_below (zb_ BK10) hb)
    replace BK14:=am_ (blk_below (zb_ BK14) hb)
    replace HB:=am_ (below_step (zl4_ HB GE1 GE8 GE10 GE14) hb)
    clear hb ho32
    obtain ⟨Ao33,co33,eo33⟩:=Kd.R_slice HO17.out
    (first|subst eo33|(injection eo33 with f1_ f2_ f3_;have f4_:=f1_.symm;have f5_:=f3_.symm;clear f1_ f2_ f3_;subst f4_;subst f5_))
    refine hK.out _ _ ⟨(blk_cell BK8.out 0).trans rfl,(blk_cell BK8.out 1).trans rfl,(blk_cell BK8.out 2).trans rfl,(blk_cell BK8.out 3).trans rfl,(blk_cell BK14.out 0).trans rfl,(blk_cell BK14.out 1).trans rfl,(blk_cell BK14.out 2).trans rfl⟩ (fun hHeld=> ?_)
    clear hK K
    refine no_ (N:=some 27) ?_
    refine two_ (i:=4) (j:=8) (Ni:=some 28) (Nj:=some 32) (bt_ 13 255) (bt_ 13 495) rfl rfl rfl rfl (two_of HT_.out (by kernel_rfl)) (by decide) (by decide) (fun K hK=> ?_) (fun K hK=> ?_)
    ·skip
     refine gs_ Try.func119 #[.slice Ao33 y15.length co33] ?_
     with_reducible refine (vec_Add.calls _ _ y15 t18 t19 t20 _ ?side1 ?side2 A16.out).mono ?_
     (case side1=>exact zc_ (Kd.R_reads' HO17.out).2.2)
     (case side2=>exact (Kd.R_reads' HO17.out).2.1)
     rintro e w34 ⟨rfl,hb⟩
     refine ⟨_,rfl, ?_⟩
     replace HO_16:=am_ (Kd.R_below (zr_ HO_16) hb)
     replace HO_9000:=am_ (Kd.R_below (zr_ HO_9000) hb)
     replace HO17:=am_ (Kd.R_below (zr_ HO17) hb)
     replace BK1:=am_ (blk_below (zb_ BK1) hb)
     replace BK8:=am_ (blk_below (zb_ BK8) hb)
     replace BK10:=am_ (blk_below (zb_ BK10) hb)
     replace BK14:=am_ (blk_below (zb_ BK14) hb)
     replace HB:=am_ (below_step (zl4_ HB GE1 GE8 GE10 GE14) hb)
     (try clear hb)
     (try clear hb2)
     (try clear hk)
     (try clear hi)
     refine hK.out _ _ ⟨(blk_cell BK8.out 0).trans rfl,(blk_cell BK8.out 1).trans rfl,(blk_cell BK8.out 2).trans rfl,(blk_cell BK8.out 3).trans rfl,(blk_cell BK14.out 0).trans rfl,(blk_cell BK14.out 1).trans rfl,(blk_cell BK14.out 2).trans rfl⟩ (fun hHeld=> ?_)
     clear hK K
     refine no_ (N:=some 28) ?_
     refine on_ (i:=8) (N:=some 32) (bt_ 13 511) HT_ (fun K hK=> ?_)
     refine Kd.R_lit_step k27 _ 27 ?hg (N:=32) ?hd (xs:=([(⟨x9001_1,x9002_1,x9003_1⟩:S27),(⟨t11,t12,t13⟩:S27)]:List (S27))) (inner:=[.int .i64 x9001_1, .int .i64 x9002_1, .int .i64 x9003_1, .int .i64 t11, .int .i64 t12, .int .i64 t13]) (ok:=fun _=>True) (okp:=fun _=>True) ?hr ?hp (fun _ hk=>hk) trivial (Below.refl _ _) (Nat.le_refl _) (by simp) ?_;(case hd=>rfl);(case hg=>rfl);(case hr=>first|(go_simp;done)|(go_simp;rfl));(case hp=>exact (Reps.c3 (show Kd.M k27 _ _ _ (⟨x9001_1,x9002_1,x9003_1⟩:S27) [.int .i64 x9001_1, .int .i64 x9002_1, .int .i64 x9003_1] from (k27_mkM _ _ _ (⟨x9001_1,x9002_1,x9003_1⟩:S27))) (Reps.c3 (show Kd.M k27 _ _ _ (⟨t11,t12,t13⟩:S27) [.int .i64 t11, .int .i64 t12, .int .i64 t13] from (k27_mkM _ _ _ (⟨t11,t12,t13⟩:S27))) (Reps.none _ _))))
     intro v22 w35 ho36 hb hg_ hnew_
     clear hg_ hnew_
     (first|rw [←Ny21.out] at ho36|(simp only [Int.reduceToNat] at ho36;rw [←Ny21.out] at ho36))
     replace HO_16:=am_ (Kd.R_below (zr_ HO_16) hb)
     replace HO_9000:=am_ (Kd.R_below (zr_ HO_9000) hb)
     have HO23:=am_ (Kd.R_lower (Kd.R_newB (Kd.R_new' ho36 (Kd.R_lt (zr_ HO17))) (g:=gb14) (o:= .cells #[.int .i64 t11, .int .i64 t12, .int .i64 t13] 27 (0,0)) (zb_ BK14)) (below_size (zl4_ HB GE1 GE8 GE10 GE14)))
     replace HO17:=am_ (Kd.R_elder' (zr_ HO17) (Kd.R_base ho36) hb)
     replace BK1:=am_ (blk_below (zb_ BK1) hb)
     replace BK8:=am_ (blk_below (zb_ BK8) hb)
     replace BK10:=am_ (blk_below (zb_ BK10) hb)
     replace BK14:=am_ (blk_below (zb_ BK14) hb)
     replace HB:=am_ (below_step (zl4_ HB GE1 GE8 GE10 GE14) hb)
     clear hb ho36
     refine hK.out _ _ ⟨(blk_cell BK8.out 0).trans rfl,(blk_cell BK8.out 1).trans rfl,(blk_cell BK8.out 2).trans rfl,(blk_cell BK8.out 3).trans rfl,(blk_cell BK14.out 0).trans rfl,(blk_cell BK14.out 1).trans rfl,(blk_cell BK14.out 2).trans rfl⟩ (fun hHeld=> ?_)
     clear hK K
     refine no_ (N:=some 32) ?_
     exact norm_ (by simp only [putAll,Act.put,List.setIfInBounds_toArray,List.set_cons_zero,List.set_cons_succ]) (hCont (.slice Ao33 y15.length co33,v22) _ ⟨hHeld,(by refine zt_ ?_;exact Kd.R_mono HO17.out (fun _ hk=>⟨hk.2,hk.1.2⟩)),(by refine zt_ ?_;exact Kd.R_mono HO23.out (fun _ hk=>⟨hk.1.2,hk.2⟩)),(zr_ HO_16),(zr_ HO_9000),(zb_ BK1),(zb_ BK10),(zb_ BK14),(zb_ BK8),(zl4_ HB GE1 GE8 GE10 GE14)⟩)
    skip
    refine Kd.R_lit_step k27 _ 27 ?hg (N:=32) ?hd (xs:=([(⟨x9001_1,x9002_1,x9003_1⟩:S27),(⟨t11,t12,t13⟩:S27)]:List (S27))) (inner:=[.int .i64 x9001_1, .int .i64 x9002_1, .int .i64 x9003_1, .int .i64 t11, .int .i64 t12, .int .i64 t13]) (ok:=fun _=>True) (okp:=fun _=>True) ?hr ?hp (fun _ hk=>hk) trivial (Below.refl _ _) (Nat.le_refl _) (by simp) ?_;(case hd=>rfl);(case hg=>rfl);(case hr=>first|(go_simp;done)|(go_simp;rfl));(case hp=>exact (Reps.c3 (show Kd.M k27 _ _ _ (⟨x9001_1,x9002_1,x9003_1⟩:S27) [.int .i64 x9001_1, .int .i64 x9002_1, .int .i64 x9003_1] from (k27_mkM _ _ _ (⟨x9001_1,x9002_1,x9003_1⟩:S27))) (Reps.c3 (show Kd.M k27 _ _ _ (⟨t11,t12,t13⟩:S27) [.int .i64 t11, .int .i64 t12, .int .i64 t13] from (k27_mkM _ _ _ (⟨t11,t12,t13⟩:S27))) (Reps.none _ _))))
    intro v22 w33 ho34 hb hg_ hnew_
    clear hg_ hnew_
    (first|rw [←Ny21.out] at ho34|(simp only [Int.reduceToNat] at ho34;rw [←Ny21.out] at ho34))
    replace HO_16:=am_ (Kd.R_below (zr_ HO_16) hb)
    replace HO_9000:=am_ (Kd.R_below (zr_ HO_9000) hb)
    have HO23:=am_ (Kd.R_lower (Kd.R_newB (Kd.R_new' ho34 (Kd.R_lt (zr_ HO17))) (g:=gb14) (o:= .cells #[.int .i64 t11, .int .i64 t12, .int .i64 t13] 27 (0,0)) (zb_ BK14)) (below_size (zl4_ HB GE1 GE8 GE10 GE14)))
    replace HO17:=am_ (Kd.R_elder' (zr_ HO17) (Kd.R_base ho34) hb)
    replace BK1:=am_ (blk_below (zb_ BK1) hb)
    replace BK8:=am_ (blk_below (zb_ BK8) hb)
    replace BK10:=am_ (blk_below (zb_ BK10) hb)
    replace BK14:=am_ (blk_below (zb_ BK14) hb)
    replace HB:=am_ (below_step (zl4_ HB GE1 GE8 GE10 GE14) hb)
    clear hb ho34
    obtain ⟨Ao35,co35,eo35⟩:=Kd.R_slice HO17.out
    (first|subst eo35|(injection eo35 with f1_ f2_ f3_;have f4_:=f1_.symm;have f5_:=f3_.symm;clear f1_ f2_ f3_;subst f4_;subst f5_))
    refine hK.out _ _ ⟨(blk_cell BK8.out 0).trans rfl,(blk_cell BK8.out 1).trans rfl,(blk_cell BK8.out 2).trans rfl,(blk_cell BK8.out 3).trans rfl,(blk_cell BK14.out 0).trans rfl,(blk_cell BK14.out 1).trans rfl,(blk_cell BK14.out 2).trans rfl⟩ (fun hHeld=> ?_)
    clear hK K
    refine no_ (N:=some 32) ?_
    refine on_ (i:=4) (N:=some 28) (bt_ 13 511) HT_ (fun K hK=> ?_)
    refine gs_ Try.func119 #[.slice Ao35 y15.length co35] ?_
    with_reducible refine (vec_Add.calls _ _ y15 t18 t19 t20 _ ?side1 ?side2 A16.out).mono ?_
    (case side1=>exact zc_ (Kd.R_reads' HO17.out).2.2)
    (case side2=>exact (Kd.R_reads' HO17.out).2.1)
    rintro e w36 ⟨rfl,hb⟩
    refine ⟨_,rfl, ?_⟩
    replace HO_16:=am_ (Kd.R_below (zr_ HO_16) hb)
    replace HO_9000:=am_ (Kd.R_below (zr_ HO_9000) hb)
    replace HO17:=am_ (Kd.R_below (zr_ HO17) hb)
    replace HO23:=am_ (Kd.R_below (zr_ HO23) hb)
    replace BK1:=am_ (blk_below (zb_ BK1) hb)
    replace BK8:=am_ (blk_below (zb_ BK8) hb)
    replace BK10:=am_ (blk_below (zb_ BK10) hb)
    replace BK14:=am_ (blk_below (zb_ BK14) hb)
    replace HB:=am_ (below_step (zl4_ HB GE1 GE8 GE10 GE14) hb)
    (try clear hb)
    (try clear hb2)
    (try clear hk)
    (try clear hi)
    refine hK.out _ _ ⟨(blk_cell BK8.out 0).trans rfl,(blk_cell BK8.out 1).trans rfl,(blk_cell BK8.out 2).trans rfl,(blk_cell BK8.out 3).trans rfl,(blk_cell BK14.out 0).trans rfl,(blk_cell BK14.out 1).trans rfl,(blk_cell BK14.out 2).trans rfl⟩ (fun hHeld=> ?_)
    clear hK K
    refine no_ (N:=some 28) ?_
    exact norm_ (by simp only [putAll,Act.put,List.setIfInBounds_toArray,List.set_cons_zero,List.set_cons_succ]) (hCont (.slice Ao35 y15.length co35,v22) _ ⟨hHeld,(by refine zt_ ?_;exact Kd.R_mono HO17.out (fun _ hk=>⟨hk.2,hk.1.2⟩)),(by refine zt_ ?_;exact Kd.R_mono HO23.out (fun _ hk=>⟨hk.1.2,hk.2⟩)),(zr_ HO_16),(zr_ HO_9000),(zb_ BK1),(zb_ BK10),(zb_ BK14),(zb_ BK8),(zl4_ HB GE1 GE8 GE10 GE14)⟩)
   rintro ⟨v16,v22⟩ w37 ⟨hS_,h0_,h1_,h2_,h3_,h4_,h5_,h6_,h7_,h8_⟩
   have n0_:Aside0 (Kd.R k27 27 w37 w.heap.size (fun k_=>some k_≠(v22:Value).ownBlock∧k_≠gb14) v16 y15):=⟨h0_⟩
   have n1_:Aside0 (Kd.R k27 27 w37 w.heap.size (fun k_=>some k_≠(v16:Value).ownBlock∧k_≠gb14) v22 y21):=⟨h1_⟩
   have n2_:Aside0 (Kd.R k31 31 w37 w.heap.size (fun k_=>k_≠gb10) (.slice (some ad9) t2.length co8) t2):=⟨h2_⟩
   have n3_:Aside0 (Kd.R k31 31 w37 w.heap.size (fun k_=>k_≠gb10) (.slice (some ad9) t2.length co8) t2):=⟨h3_⟩
   have n4_:Aside0 (w37.heap[gb1]?=some (.cells #[.slice none 0 0, .int .i64 0, .int .i64 0, .int .i64 0] 127 (0,0))):=⟨h4_⟩
   have n5_:Aside0 (w37.heap[gb10]?=some (.cells #[.string ((rd_T31 t2 x18_1).f0), .string ((rd_T31 t2 x18_1).f1), .int .i64 ((rd_T31 t2 x18_1).f2.f0), .int .i64 ((rd_T31 t2 x18_1).f2.f1), .int .i64 ((rd_T31 t2 x18_1).f2.f2), .int .i64 ((rd_T31 t2 x18_1).f3.f0), .int .i64 ((rd_T31 t2 x18_1).f3.f1), .int .i64 ((rd_T31 t2 x18_1).f3.f2), .int .i64 ((rd_T31 t2 x18_1).f4.f0), .int .i64 ((rd_T31 t2 x18_1).f4.f1), .int .i64 ((rd_T31 t2 x18_1).f4.f2), .int .i64 ((rd_T31 t2 x18_1).f5)] 31 (0,0))):=⟨h5_⟩
   have n6_:Aside0 (w37.heap[gb14]?=some (.cells #[.int .i64 t11, .int .i64 t12, .int .i64 t13] 27 (0,0))):=⟨h6_⟩
   have n7_:Aside0 (w37.heap[gb8]?=some (.cells #[.slice (some ad9) t2.length co8, .int .i64 x9001_1, .int .i64 x9002_1, .int .i64 x9003_1] 127 (0,0))):=⟨h7_⟩
   have n8_:Aside0 (Below w.heap.size w w37):=⟨h8_⟩
   clear HO_16
   clear HO_9000
   clear BK1
   clear BK8
   clear BK10
   clear BK14
   clear HB
   clear h0_ h1_ h2_ h3_ h4_ h5_ h6_ h7_ h8_
   have HO17:=n0_
   have HO23:=n1_
   have HO_16:=n2_
   have HO_9000:=n3_
   have BK1:=n4_
   have BK10:=n5_
   have BK14:=n6_
   have BK8:=n7_
   have HB:=n8_
   clear n0_ n1_ n2_ n3_ n4_ n5_ n6_ n7_ n8_
   have hHeld:w37.cell? ⟨gb8,0,none⟩=some (.slice (some ad9) t2.length co8)∧w37.cell? ⟨gb8,1,none⟩=some (.int .i64 x9001_1)∧w37.cell? ⟨gb8,2,none⟩=some (.int .i64 x9002_1)∧w37.cell? ⟨gb8,3,none⟩=some (.int .i64 x9003_1)∧w37.cell? ⟨gb14,0,none⟩=some (.int .i64 t11)∧w37.cell? ⟨gb14,1,none⟩=some (.int .i64 t12)∧w37.cell? ⟨gb14,2,none⟩=some (.int .i64 t13):=hS_
   obtain ⟨Ao38,co38,eo38⟩:=Kd.R_slice HO23.out
   (first|subst eo38|(injection eo38 with f1_ f2_ f3_;have f4_:=f1_.symm;have f5_:=f3_.symm;clear f1_ f2_ f3_;subst f4_;subst f5_))
   refine norm_ (a':= ?_) ?_ ?_
   rotate_left
   ·simp only [putAll,Act.put,List.setIfInBounds_toArray,List.set_cons_zero,List.set_cons_succ]
    rfl
   refine on_ (i:=9) (N:=some 33) (bt_ 13 1023) HT_ (fun K hK=> ?_)
   refine gs_ Try.func159 #[.slice Ao38 y21.length co38] ?_
   with_reducible refine (vec_Max.calls _ _ y21 t24 t25 t26 _ ?side1 ?side2 A17.out).mono ?_
   (case side1=>exact zc_ (Kd.R_reads' HO23.out).2.2)
   (case side2=>exact (Kd.R_reads' HO23.out).2.1)
   rintro e w39 ⟨rfl,hb⟩
   refine ⟨_,rfl, ?_⟩
   replace HO_16:=am_ (Kd.R_below (zr_ HO_16) hb)
   replace HO_9000:=am_ (Kd.R_below (zr_ HO_9000) hb)
   replace HO17:=am_ (Kd.R_below (zr_ HO17) hb)
   replace HO23:=am_ (Kd.R_below (zr_ HO23) hb)
   replace BK1:=am_ (blk_below (zb_ BK1) hb)
   replace BK8:=am_ (blk_below (zb_ BK8) hb)
   replace BK10:=am_ (blk_below (zb_ BK10) hb)
   replace BK14:=am_ (blk_below (zb_ BK14) hb)
   replace HB:=am_ (below_step (zl4_ HB GE1 GE8 GE10 GE14) hb)
   (try clear hb)
   (try clear hb2)
   (try clear hk)
   (try clear hi)
   refine hK.out _ _ ⟨(blk_cell BK8.out 0).trans rfl,(blk_cell BK8.out 1).trans rfl,(blk_cell BK8.out 2).trans rfl,(blk_cell BK8.out 3).trans rfl,(blk_cell BK14.out 0).trans rfl,(blk_cell BK14.out 1).trans rfl,(blk_cell BK14.out 2).trans rfl⟩ (fun hHeld=> ?_)
   clear hK K
   refine no_ (N:=some 33) ?_
   refine on_ (i:=10) (N:=some 34) (bt_ 13 2047) HT_ (fun K hK=> ?_)
   refine gs_ Try.func134 #[.agg #[.int .i64 t18, .int .i64 t19, .int .i64 t20], .agg #[.int .i64 t24, .int .i64 t25, .int .i64 t26]] ?_
   with_reducible refine (vec_Sub.calls t18 t19 t20 t24 t25 t26 t27 t28 t29 _ A18.out).mono ?_
   rintro e w40 ⟨rfl,hb⟩
   refine ⟨_,rfl, ?_⟩
   replace HO_16:=am_ (Kd.R_below (zr_ HO_16) hb)
   replace HO_9000:=am_ (Kd.R_below (zr_ HO_9000) hb)
   replace HO17:=am_ (Kd.R_below (zr_ HO17) hb)
   replace HO23:=am_ (Kd.R_below (zr_ HO23) hb)
   replace BK1:=am_ (blk_below (zb_ BK1) hb)
   replace BK8:=am_ (blk_below (zb_ BK8) hb)
   replace BK10:=am_ (blk_below (zb_ BK10) hb)
   replace BK14:=am_ (blk_below (zb_ BK14) hb)
   replace HB:=am_ (below_step (zl4_ HB GE1 GE8 GE10 GE14) hb)
   (try clear hb)
   (try clear hb2)
   (try clear hk)
   (try clear hi)
   refine hK.out _ _ ⟨(blk_cell BK8.out 0).trans rfl,(blk_cell BK8.out 1).trans rfl,(blk_cell BK8.out 2).trans rfl,(blk_cell BK8.out 3).trans rfl,(blk_cell BK14.out 0).trans rfl,(blk_cell BK14.out 1).trans rfl,(blk_cell BK14.out 2).trans rfl⟩ (fun hHeld=> ?_)
   clear hK K
   refine no_ (N:=some 34) ?_
   refine pu_ (i:=11) (N:=some 35) (bt_ 13 4095) HT_ ?_
   refine last_ (i:=12) (N:=none) (bt_ 13 8191) rfl rfl (one_of HT_.out (by kernel_rfl)) (by decide) (fun K hK=> ?_)
   have hfs41:=blk_frozen BK8.out 1
   have hfs42:=blk_frozen BK8.out 2
   have hfs43:=blk_frozen BK8.out 3
   refine skip_ (w1:= ?_) (by rfl) rfl ?_ ?_
   rotate_left
   ·go_simp
    rfl
   refine hK.out _ _ ?_
   clear hK K
   refine done_ (done_of HT_.out (by kernel_rfl)) ?_
   try go_wp2
   go_roundg k1
   case measure=>have:=HK1.out;omega
   case rel=>exact ⟨(wrap64 (x18_1+1)),(t27),(t28),(t29),(by first|rfl|(simp;done)|(simp [*];done)),H',⟨by have:=HK1.out;omega⟩,⟨zy_ HO_16 BK8⟩,⟨zy_ HO_9000 BK8⟩,⟨zw_ BK1⟩,⟨zw_ BK8⟩,⟨zl4_ HB GE1 GE8 GE10 GE14⟩⟩
def room_Of.f (k:Nat) (l0:List (S31)) (a1:ByteArray):Option (Int×Int×Int×Bool):=(room_made.f k l0 a1).bind fun bt2=>(if (bt2.1.length:Int)=0 then (some (0,0,0,false)) else (some (bt2.2.1,bt2.2.2.1,bt2.2.2.2,true)))
theorem room_Of.mono: ∀a0 a1 k,LeO (room_Of.f k a0 a1) (room_Of.f (k+1) a0 a1):=by
 intro a0 a1 k
 unfold room_Of.f
 repeat' first
  |(with_reducible exact room_made.mono _ _ _)
  |(with_reducible exact LeO.refl _)
  |(with_reducible exact LeO.none _)
  |(with_reducible refine LeO.ite ?_ ?_)
  |(with_reducible refine LeO.bind ?_ (fun _=> ?_))
  |exact room_made.mono _ _ _
  |exact LeO.none _
  |refine LeO.ite ?_ ?_
  |refine LeO.bind ?_ (fun _=> ?_)
set_option maxHeartbeats 8000000 in
set_option maxRecDepth 100000 in
theorem room_Of.calls (k:Nat) (A0:Option Addr) (c0:Nat) (l0:List (S31)) (a1:ByteArray) (r1:Int) (r2:Int) (r3:Int) (r4:Bool) (w:World) (hr0:Kd.C k31 w A0 l0.length l0) (hc0:l0.length≤c0) (h:room_Of.f k l0 a1=some (r1,r2,r3,r4)):
  Calls Try.prog 33 #[.slice A0 l0.length c0, .string a1] w fun e w'=>e= .returned (.tuple #[.agg #[.int .i64 r1, .int .i64 r2, .int .i64 r3], .bool r4])∧Below w.heap.size w w':=by
 have HR0:=Aside0.mk hr0
 have HC0:=Aside0.mk hc0
 clear hr0 hc0
 have HB:=am_ (Below.refl w.heap.size w)
 have H:((room_made.f k l0 a1).bind fun bt2=>(if (bt2.1.length:Int)=0 then (some (0,0,0,false)) else (some (bt2.2.1,bt2.2.2.1,bt2.2.2.2,true))))=some (r1,r2,r3,r4):=h
 clear h
 replace H:=Option.bind_eq_some_iff.mp H
 obtain ⟨⟨t2,t5,t6,t7⟩,A30,H⟩:=H
 try dsimp only at H
 have A3:=Aside0.mk A30
 clear A30
 by_cases c4:(t2.length:Int)=0
 ·rw [if_pos c4] at H
  have c4b0:((t2.length:Int)==0)=true:=beq_iff_eq.mpr c4
  clear c4
  simp only [Option.some.injEq,Prod.mk.injEq] at H
  obtain ⟨rfl,rfl,rfl,rfl⟩:=H
  go_enter Try.func33,Try.ntmps33
  go_wp2_with (first|((with_reducible refine gate_dst (N:=4) rfl ?_);refine bx_ (N:=4) (cs:=#[.int .i64 0, .int .i64 0, .int .i64 0]) (t:=27) ?_;intro gb1 hg w5 hbox hb;have n0_:=am_ (below_step (zl0_ HB) hb);have n1_:=am_ (hbox);have n2_:=am_ ((zg0_ HB hg:w.heap.size≤gb1));have n3_:=am_ ((zg0_ HB hg:w.heap.size≤gb1));clear HB;have HB:=n0_;have BK1:=n1_;have GE1:=n3_;clear n0_ n1_ n2_ n3_;clear hb hbox hg)|((with_reducible refine gate_callee (f:=104) rfl ?_);refine gl_ (some 9) Try.func104 #[.slice A0 l0.length c0, .string a1] ?_;(with_reducible refine (room_made.calls k _ _ l0 a1 t2 t5 t6 t7 _ ?side1 ?side2 A3.out).mono ?_);(case side1=>exact zc_ (Kd.C_below HR0.out HB.out));(case side2=>exact HC0.out);rintro e w6 ⟨v3,rfl,ho0,hb⟩;refine ⟨_,rfl, ?_⟩;have HO4:=am_ (Kd.R_lower ho0 (below_size (zl1_ HB GE1)));replace BK1:=am_ (blk_below (zb_ BK1) hb);replace HB:=am_ (below_step (zl1_ HB GE1) hb);(try clear hb);(try clear hb2);(try clear hk);(try clear hi);(try clear ho0))|((with_reducible refine gate_dst (N:=6) rfl ?_);refine bx_ (N:=6) (cs:=#[.slice none 0 0, .int .i64 0, .int .i64 0, .int .i64 0]) (t:=127) ?_;intro gb8 hg w7 hbox hb;have n0_:=am_ (Kd.R_below (zr_ HO4) hb);have n1_:=am_ (blk_below (zb_ BK1) hb);have n2_:=am_ (below_step (zl1_ HB GE1) hb);have n3_:=am_ (hbox);have n5_:=am_ ((zg1_ HB GE1 hg:w.heap.size≤gb8));have n6_:=am_ ((zn_ BK1 hg:gb1≠gb8));have n7_:=am_ ((zm_ BK1 hg:gb8≠gb1));clear HO4;clear BK1;clear HB;have HO4:=n0_;have BK1:=n1_;have HB:=n2_;have BK8:=n3_;have GE8:=n5_;have NB1_8:=n6_;clear n0_ n1_ n2_ n3_ n5_ n6_ n7_;clear hb hbox hg;obtain ⟨Ao8,co8,eo8⟩:=Kd.R_slice HO4.out;subst eo8;have hnc9:=NB1_8.out;obtain ⟨hcz10_0,hcz10_1,hcz10_2,hcz10_3,hfz10_0,hfz10_1,hfz10_2,hfz10_3⟩:=y4_ BK8;obtain ⟨hcz11_0,hcz11_1,hcz11_2⟩:=x3_ BK1;have hfz11_0:=blk_frozen BK1.out 0;have hfz11_1:=blk_frozen BK1.out 1;have hfz11_2:=blk_frozen BK1.out 2))
  refine bodyPost_ret (results_ct rfl _ _ gb1 27 #[.int .i64 0, .int .i64 0, .int .i64 0] (0,0) _ rfl (zw_ BK1) Try.underlying27 rfl (by kernel_rfl)) rfl ?_
  exact ⟨by first|rfl|(simp [errW_none,errW_some]<;>rfl)|(simp [*,errW_none,errW_some]<;>rfl),zl2_ HB GE1 GE8⟩
 rw [if_neg c4] at H
 have c4b0:((t2.length:Int)==0)=false:=beq_eq_false_iff_ne.mpr c4
 simp only [Option.some.injEq,Prod.mk.injEq] at H
 obtain ⟨rfl,rfl,rfl,rfl⟩:=H
 go_enter Try.func33,Try.ntmps33
 go_wp2_with (first|((with_reducible refine gate_dst (N:=4) rfl ?_);refine bx_ (N:=4) (cs:=#[.int .i64 0, .int .i64 0, .int .i64 0]) (t:=27) ?_;intro gb1 hg w12 hbox hb;have n0_:=am_ (below_step (zl0_ HB) hb);have n1_:=am_ (hbox);have n2_:=am_ ((zg0_ HB hg:w.heap.size≤gb1));have n3_:=am_ ((zg0_ HB hg:w.heap.size≤gb1));clear HB;have HB:=n0_;have BK1:=n1_;have GE1:=n3_;clear n0_ n1_ n2_ n3_;clear hb hbox hg)|((with_reducible refine gate_callee (f:=104) rfl ?_);refine gl_ (some 9) Try.func104 #[.slice A0 l0.length c0, .string a1] ?_;(with_reducible refine (room_made.calls k _ _ l0 a1 t2 t5 t6 t7 _ ?side1 ?side2 A3.out).mono ?_);(case side1=>exact zc_ (Kd.C_below HR0.out HB.out));(case side2=>exact HC0.out);rintro e w13 ⟨v3,rfl,ho0,hb⟩;refine ⟨_,rfl, ?_⟩;have HO4:=am_ (Kd.R_lower ho0 (below_size (zl1_ HB GE1)));replace BK1:=am_ (blk_below (zb_ BK1) hb);replace HB:=am_ (below_step (zl1_ HB GE1) hb);(try clear hb);(try clear hb2);(try clear hk);(try clear hi);(try clear ho0))|((with_reducible refine gate_dst (N:=6) rfl ?_);refine bx_ (N:=6) (cs:=#[.slice none 0 0, .int .i64 0, .int .i64 0, .int .i64 0]) (t:=127) ?_;intro gb8 hg w14 hbox hb;have n0_:=am_ (Kd.R_below (zr_ HO4) hb);have n1_:=am_ (blk_below (zb_ BK1) hb);have n2_:=am_ (below_step (zl1_ HB GE1) hb);have n3_:=am_ (hbox);have n5_:=am_ ((zg1_ HB GE1 hg:w.heap.size≤gb8));have n6_:=am_ ((zn_ BK1 hg:gb1≠gb8));have n7_:=am_ ((zm_ BK1 hg:gb8≠gb1));clear HO4;clear BK1;clear HB;have HO4:=n0_;have BK1:=n1_;have HB:=n2_;have BK8:=n3_;have GE8:=n5_;have NB1_8:=n6_;clear n0_ n1_ n2_ n3_ n5_ n6_ n7_;clear hb hbox hg;obtain ⟨Ao15,co15,eo15⟩:=Kd.R_slice HO4.out;subst eo15;have hnc16:=NB1_8.out;obtain ⟨hcz17_0,hcz17_1,hcz17_2,hcz17_3,hfz17_0,hfz17_1,hfz17_2,hfz17_3⟩:=y4_ BK8;obtain ⟨hcz18_0,hcz18_1,hcz18_2⟩:=x3_ BK1;have hfz18_0:=blk_frozen BK1.out 0;have hfz18_1:=blk_frozen BK1.out 1;have hfz18_2:=blk_frozen BK1.out 2))
 refine bodyPost_ret (results_ct rfl _ _ gb1 27 #[.int .i64 t5, .int .i64 t6, .int .i64 t7] (0,0) _ rfl (zw_ BK1) Try.underlying27 rfl (by kernel_rfl)) rfl ?_
 exact ⟨by first|rfl|(simp [errW_none,errW_some]<;>rfl)|(simp [*,errW_none,errW_some]<;>rfl),zl2_ HB GE1 GE8⟩

def trial_live_fits.f (k:Nat) (l0_0:List (S31)) (a1:ByteArray) (a2_0:Int) (a2_1:Int) (a2_2:Int):Option (Bool):=(room_Of.f k l0_0 a1).bind fun bt3=>(if bt3.2.2.2=true then ((vec_May.f a2_0 a2_1 a2_2).bind fun t8=>(if t8=true then ((vec_Le.f a2_0 a2_1 a2_2 bt3.1 bt3.2.1 bt3.2.2.1).bind fun t9=>(some t9)) else (some false))) else (some false))
theorem trial_live_fits.mono: ∀a0 a1 a2 a3 a4 k,LeO (trial_live_fits.f k a0 a1 a2 a3 a4) (trial_live_fits.f (k+1) a0 a1 a2 a3 a4):=by
 intro a0 a1 a2 a3 a4 k
 unfold trial_live_fits.f
 repeat' first
  |(with_reducible exact room_Of.mono _ _ _)
  |(with_reducible exact LeO.refl _)
  |(with_reducible exact LeO.none _)
  |(with_reducible refine LeO.ite ?_ ?_)
  |(with_reducible refine LeO.bind ?_ (fun _=> ?_))
  |exact room_Of.mono _ _ _
  |exact LeO.none _
  |refine LeO.ite ?_ ?_
  |refine LeO.bind ?_ (fun _=> ?_)
set_option maxHeartbeats 8000000 in
set_option maxRecDepth 100000 in
theorem trial_live_fits.calls (k:Nat) (A0_0:Option Addr) (c0_0:Nat) (l0_0:List (S31)) (a1:ByteArray) (a2_0:Int) (a2_1:Int) (a2_2:Int) (r:Bool) (w:World) (hr0_0:Kd.C k31 w A0_0 l0_0.length l0_0) (hc0_0:l0_0.length≤c0_0) (h:trial_live_fits.f k l0_0 a1 a2_0 a2_1 a2_2=some r):
  Calls Try.prog 155 #[.agg #[.slice A0_0 l0_0.length c0_0], .string a1, .agg #[.int .i64 a2_0, .int .i64 a2_1, .int .i64 a2_2]] w fun e w'=>e= .returned (.bool r)∧Below w.heap.size w w':=by
 have HR0_0:=Aside0.mk hr0_0
 have HC0_0:=Aside0.mk hc0_0
 clear hr0_0 hc0_0
 have HB:=am_ (Below.refl w.heap.size w)
 have H:((room_Of.f k l0_0 a1).bind fun bt3=>(if bt3.2.2.2=true then ((vec_May.f a2_0 a2_1 a2_2).bind fun t8=>(if t8=true then ((vec_Le.f a2_0 a2_1 a2_2 bt3.1 bt3.2.1 bt3.2.2.1).bind fun t9=>(some t9)) else (some false))) else (some false)))=some r:=h
 clear h
 replace H:=Option.bind_eq_some_iff.mp H
 obtain ⟨⟨t3,t4,t5,t6⟩,A40,H⟩:=H
 try dsimp only at H
 have A4:=Aside0.mk A40
 clear A40
 by_cases c5:t6=true
 rotate_left
 ·replace c5:=Bool.eq_false_iff.mpr c5
  subst c5
  have H1:(some false)=some r:=by rw [if_neg (show¬(false=true) by decide)] at H;exact H
  clear H
  have H:=H1
  clear H1
  obtain rfl:=Option.some.inj H
  go_enter Try.func155,Try.ntmps155
  go_wp2_with (first|((with_reducible refine gate_dst (N:=3) rfl ?_);refine bx_ (N:=3) (cs:=#[.slice A0_0 l0_0.length c0_0]) (t:=186) ?_;intro gb1 hg w34 hbox hb;have n0_:=am_ (below_step (zl0_ HB) hb);have n1_:=am_ (hbox);have n2_:=am_ ((zg0_ HB hg:w.heap.size≤gb1));have n3_:=am_ ((zg0_ HB hg:w.heap.size≤gb1));clear HB;have HB:=n0_;have BK1:=n1_;have GE1:=n3_;clear n0_ n1_ n2_ n3_;clear hb hbox hg)|((with_reducible refine gate_dst (N:=5) rfl ?_);refine bx_ (N:=5) (cs:=#[.int .i64 a2_0, .int .i64 a2_1, .int .i64 a2_2]) (t:=27) ?_;intro gb2 hg w35 hbox hb;have n0_:=am_ (blk_below (zb_ BK1) hb);have n1_:=am_ (below_step (zl1_ HB GE1) hb);have n2_:=am_ (hbox);have n3_:=am_ ((zg1_ HB GE1 hg:w.heap.size≤gb2));have n4_:=am_ ((zg1_ HB GE1 hg:w.heap.size≤gb2));have n5_:=am_ ((zn_ BK1 hg:gb1≠gb2));have n6_:=am_ ((zm_ BK1 hg:gb2≠gb1));clear BK1;clear HB;have BK1:=n0_;have HB:=n1_;have BK2:=n2_;have GE2:=n4_;clear n0_ n1_ n2_ n3_ n4_ n5_ n6_;clear hb hbox hg;have hcz37_0:=zz_ BK1 0)|((with_reducible refine gate_callee (f:=33) rfl ?_);refine gl_ (some 13) Try.func33 #[.slice A0_0 l0_0.length c0_0, .string a1] ?_;(with_reducible refine (room_Of.calls k _ _ l0_0 a1 t3 t4 t5 false _ ?side1 ?side2 A4.out).mono ?_);(case side1=>exact zc_ (Kd.C_below HR0_0.out HB.out));(case side2=>exact HC0_0.out);rintro e w38 ⟨rfl,hb⟩;refine ⟨_,rfl, ?_⟩;replace BK1:=am_ (blk_below (zb_ BK1) hb);replace BK2:=am_ (blk_below (zb_ BK2) hb);replace HB:=am_ (below_step (zl2_ HB GE1 GE2) hb);(try clear hb);(try clear hb2);(try clear hk);(try clear hi))|((with_reducible refine gate_dst (N:=7) rfl ?_);refine bx_ (N:=7) (cs:=#[.int .i64 0, .int .i64 0, .int .i64 0]) (t:=27) ?_;intro gb7 hg w39 hbox hb;have n0_:=am_ (blk_below (zb_ BK1) hb);have n1_:=am_ (blk_below (zb_ BK2) hb);have n2_:=am_ (below_step (zl2_ HB GE1 GE2) hb);have n3_:=am_ (hbox);have n4_:=am_ ((zg2_ HB GE1 GE2 hg:w.heap.size≤gb7));have n5_:=am_ ((zg2_ HB GE1 GE2 hg:w.heap.size≤gb7));have n6_:=am_ ((zn_ BK1 hg:gb1≠gb7));have n7_:=am_ ((zm_ BK1 hg:gb7≠gb1));have n8_:=am_ ((zn_ BK2 hg:gb2≠gb7));have n9_:=am_ ((zm_ BK2 hg:gb7≠gb2));clear BK1;clear BK2;clear HB;have BK1:=n0_;have BK2:=n1_;have HB:=n2_;have BK7:=n3_;have GE7:=n5_;have NB1_7:=n6_;have NB2_7:=n8_;clear n0_ n1_ n2_ n3_ n4_ n5_ n6_ n7_ n8_ n9_;clear hb hbox hg;obtain ⟨hcz42_0,hcz42_1,hcz42_2⟩:=x3_ BK7;have hfz42_0:=blk_frozen BK7.out 0;have hfz42_1:=blk_frozen BK7.out 1;have hfz42_2:=blk_frozen BK7.out 2))
  go_ret
  exact ⟨by first|rfl|(simp [errW_none,errW_some]<;>rfl)|(simp [*,errW_none,errW_some]<;>rfl),zl3_ HB GE1 GE2 GE7⟩

 subst c5
 have H1:((vec_May.f a2_0 a2_1 a2_2).bind fun t8=>(if t8=true then ((vec_Le.f a2_0 a2_1 a2_2 t3 t4 t5).bind fun t9=>(some t9)) else (some false)))=some r:=by rw [if_pos rfl] at H;exact H
 clear H
 have H:=H1
 clear H1
 replace H:=Option.bind_eq_some_iff.mp H
 obtain ⟨t8,A60,H⟩:=H
 try dsimp only at H
 have A6:=Aside0.mk A60
 clear A60
 by_cases c7:t8=true
 rotate_left
 ·replace c7:=Bool.eq_false_iff.mpr c7
  subst c7
  have H1:(some false)=some r:=by rw [if_neg (show¬(false=true) by decide)] at H;exact H
  clear H
  have H:=H1
  clear H1
  obtain rfl:=Option.some.inj H
  go_enter Try.func155,Try.ntmps155
  go_wp2_with (first|((with_reducible refine gate_dst (N:=3) rfl ?_);refine bx_ (N:=3) (cs:=#[.slice A0_0 l0_0.length c0_0]) (t:=186) ?_;intro gb1 hg w23 hbox hb;have n0_:=am_ (below_step (zl0_ HB) hb);have n1_:=am_ (hbox);have n2_:=am_ ((zg0_ HB hg:w.heap.size≤gb1));have n3_:=am_ ((zg0_ HB hg:w.heap.size≤gb1));clear HB;have HB:=n0_;have BK1:=n1_;have GE1:=n3_;clear n0_ n1_ n2_ n3_;clear hb hbox hg)|((with_reducible refine gate_dst (N:=5) rfl ?_);refine bx_ (N:=5) (cs:=#[.int .i64 a2_0, .int .i64 a2_1, .int .i64 a2_2]) (t:=27) ?_;intro gb2 hg w24 hbox hb;have n0_:=am_ (blk_below (zb_ BK1) hb);have n1_:=am_ (below_step (zl1_ HB GE1) hb);have n2_:=am_ (hbox);have n3_:=am_ ((zg1_ HB GE1 hg:w.heap.size≤gb2));have n4_:=am_ ((zg1_ HB GE1 hg:w.heap.size≤gb2));have n5_:=am_ ((zn_ BK1 hg:gb1≠gb2));have n6_:=am_ ((zm_ BK1 hg:gb2≠gb1));clear BK1;clear HB;have BK1:=n0_;have HB:=n1_;have BK2:=n2_;have GE2:=n4_;clear n0_ n1_ n2_ n3_ n4_ n5_ n6_;clear hb hbox hg;have hcz26_0:=zz_ BK1 0)|((with_reducible refine gate_callee (f:=33) rfl ?_);refine gl_ (some 13) Try.func33 #[.slice A0_0 l0_0.length c0_0, .string a1] ?_;(with_reducible refine (room_Of.calls k _ _ l0_0 a1 t3 t4 t5 true _ ?side1 ?side2 A4.out).mono ?_);(case side1=>exact zc_ (Kd.C_below HR0_0.out HB.out));(case side2=>exact HC0_0.out);rintro e w27 ⟨rfl,hb⟩;refine ⟨_,rfl, ?_⟩;replace BK1:=am_ (blk_below (zb_ BK1) hb);replace BK2:=am_ (blk_below (zb_ BK2) hb);replace HB:=am_ (below_step (zl2_ HB GE1 GE2) hb);(try clear hb);(try clear hb2);(try clear hk);(try clear hi))|((with_reducible refine gate_dst (N:=7) rfl ?_);refine bx_ (N:=7) (cs:=#[.int .i64 0, .int .i64 0, .int .i64 0]) (t:=27) ?_;intro gb7 hg w28 hbox hb;have n0_:=am_ (blk_below (zb_ BK1) hb);have n1_:=am_ (blk_below (zb_ BK2) hb);have n2_:=am_ (below_step (zl2_ HB GE1 GE2) hb);have n3_:=am_ (hbox);have n4_:=am_ ((zg2_ HB GE1 GE2 hg:w.heap.size≤gb7));have n5_:=am_ ((zg2_ HB GE1 GE2 hg:w.heap.size≤gb7));have n6_:=am_ ((zn_ BK1 hg:gb1≠gb7));have n7_:=am_ ((zm_ BK1 hg:gb7≠gb1));have n8_:=am_ ((zn_ BK2 hg:gb2≠gb7));have n9_:=am_ ((zm_ BK2 hg:gb7≠gb2));clear BK1;clear BK2;clear HB;have BK1:=n0_;have BK2:=n1_;have HB:=n2_;have BK7:=n3_;have GE7:=n5_;have NB1_7:=n6_;have NB2_7:=n8_;clear n0_ n1_ n2_ n3_ n4_ n5_ n6_ n7_ n8_ n9_;clear hb hbox hg;have hnc30:=NB2_7.out;obtain ⟨hcz31_0,hcz31_1,hcz31_2,hfz31_0,hfz31_1,hfz31_2⟩:=y3_ BK7;obtain ⟨hcz32_0,hcz32_1,hcz32_2⟩:=x3_ BK2)|(go_at_call 115;(with_reducible refine (vec_May.calls a2_0 a2_1 a2_2 false _ A6.out).mono ?_);rintro e w33 ⟨rfl,hb⟩;replace BK1:=am_ (blk_below (g:=gb1) (o:= .cells #[.slice A0_0 l0_0.length c0_0] 186 (0,0)) (zw_ BK1) hb);replace BK2:=am_ (blk_below (g:=gb2) (o:= .cells #[.int .i64 a2_0, .int .i64 a2_1, .int .i64 a2_2] 27 (0,0)) (zw_ BK2) hb);replace BK7:=am_ (blk_below (g:=gb7) (o:= .cells #[.int .i64 t3, .int .i64 t4, .int .i64 t5] 27 (0,0)) (zw_ BK7) hb);replace HB:=am_ (below_step (zl3_ HB GE1 GE2 GE7) hb);(try clear hb);(try clear hb2);(try clear hk);(try clear hi)))
  go_ret
  exact ⟨by first|rfl|(simp [errW_none,errW_some]<;>rfl)|(simp [*,errW_none,errW_some]<;>rfl),zl3_ HB GE1 GE2 GE7⟩
 subst c7
 have H1:((vec_Le.f a2_0 a2_1 a2_2 t3 t4 t5).bind fun t9=>(some t9))=some r:=by rw [if_pos rfl] at H;exact H
 clear H
 have H:=H1
 clear H1
 replace H:=Option.bind_eq_some_iff.mp H
 obtain ⟨t9,A80,H⟩:=H
 try dsimp only at H
 have A8:=Aside0.mk A80
 clear A80
 obtain rfl:=Option.some.inj H
 go_enter Try.func155,Try.ntmps155
 go_wp2_with (first|((with_reducible refine gate_dst (N:=3) rfl ?_);refine bx_ (N:=3) (cs:=#[.slice A0_0 l0_0.length c0_0]) (t:=186) ?_;intro gb1 hg w9 hbox hb;have n0_:=am_ (below_step (zl0_ HB) hb);have n1_:=am_ (hbox);have n2_:=am_ ((zg0_ HB hg:w.heap.size≤gb1));have n3_:=am_ ((zg0_ HB hg:w.heap.size≤gb1));clear HB;have HB:=n0_;have BK1:=n1_;have GE1:=n3_;clear n0_ n1_ n2_ n3_;clear hb hbox hg)|((with_reducible refine gate_dst (N:=5) rfl ?_);refine bx_ (N:=5) (cs:=#[.int .i64 a2_0, .int .i64 a2_1, .int .i64 a2_2]) (t:=27) ?_;intro gb2 hg w10 hbox hb;have n0_:=am_ (blk_below (zb_ BK1) hb);have n1_:=am_ (below_step (zl1_ HB GE1) hb);have n2_:=am_ (hbox);have n3_:=am_ ((zg1_ HB GE1 hg:w.heap.size≤gb2));have n4_:=am_ ((zg1_ HB GE1 hg:w.heap.size≤gb2));have n5_:=am_ ((zn_ BK1 hg:gb1≠gb2));have n6_:=am_ ((zm_ BK1 hg:gb2≠gb1));clear BK1;clear HB;have BK1:=n0_;have HB:=n1_;have BK2:=n2_;have GE2:=n4_;clear n0_ n1_ n2_ n3_ n4_ n5_ n6_;clear hb hbox hg;have hcz12_0:=zz_ BK1 0)|((with_reducible refine gate_callee (f:=33) rfl ?_);refine gl_ (some 13) Try.func33 #[.slice A0_0 l0_0.length c0_0, .string a1] ?_;(with_reducible refine (room_Of.calls k _ _ l0_0 a1 t3 t4 t5 true _ ?side1 ?side2 A4.out).mono ?_);(case side1=>exact zc_ (Kd.C_below HR0_0.out HB.out));(case side2=>exact HC0_0.out);rintro e w13 ⟨rfl,hb⟩;refine ⟨_,rfl, ?_⟩;replace BK1:=am_ (blk_below (zb_ BK1) hb);replace BK2:=am_ (blk_below (zb_ BK2) hb);replace HB:=am_ (below_step (zl2_ HB GE1 GE2) hb);(try clear hb);(try clear hb2);(try clear hk);(try clear hi))|((with_reducible refine gate_dst (N:=7) rfl ?_);refine bx_ (N:=7) (cs:=#[.int .i64 0, .int .i64 0, .int .i64 0]) (t:=27) ?_;intro gb7 hg w14 hbox hb;have n0_:=am_ (blk_below (zb_ BK1) hb);have n1_:=am_ (blk_below (zb_ BK2) hb);have n2_:=am_ (below_step (zl2_ HB GE1 GE2) hb);have n3_:=am_ (hbox);have n4_:=am_ ((zg2_ HB GE1 GE2 hg:w.heap.size≤gb7));have n5_:=am_ ((zg2_ HB GE1 GE2 hg:w.heap.size≤gb7));have n6_:=am_ ((zn_ BK1 hg:gb1≠gb7));have n7_:=am_ ((zm_ BK1 hg:gb7≠gb1));have n8_:=am_ ((zn_ BK2 hg:gb2≠gb7));have n9_:=am_ ((zm_ BK2 hg:gb7≠gb2));clear BK1;clear BK2;clear HB;have BK1:=n0_;have BK2:=n1_;have HB:=n2_;have BK7:=n3_;have GE7:=n5_;have NB1_7:=n6_;have NB2_7:=n8_;clear n0_ n1_ n2_ n3_ n4_ n5_ n6_ n7_ n8_ n9_;clear hb hbox hg;have hnc16:=NB2_7.out;obtain ⟨hcz17_0,hcz17_1,hcz17_2,hfz17_0,hfz17_1,hfz17_2⟩:=y3_ BK7;obtain ⟨hcz18_0,hcz18_1,hcz18_2⟩:=x3_ BK2)|(go_at_call 115;(with_reducible refine (vec_May.calls a2_0 a2_1 a2_2 true _ A6.out).mono ?_);rintro e w19 ⟨rfl,hb⟩;replace BK1:=am_ (blk_below (g:=gb1) (o:= .cells #[.slice A0_0 l0_0.length c0_0] 186 (0,0)) (zw_ BK1) hb);replace BK2:=am_ (blk_below (g:=gb2) (o:= .cells #[.int .i64 a2_0, .int .i64 a2_1, .int .i64 a2_2] 27 (0,0)) (zw_ BK2) hb);replace BK7:=am_ (blk_below (g:=gb7) (o:= .cells #[.int .i64 t3, .int .i64 t4, .int .i64 t5] 27 (0,0)) (zw_ BK7) hb);replace HB:=am_ (below_step (zl3_ HB GE1 GE2 GE7) hb);(try clear hb);(try clear hb2);(try clear hk);(try clear hi);obtain ⟨hcz20_0,hcz20_1,hcz20_2⟩:=x3_ BK2;obtain ⟨hcz21_0,hcz21_1,hcz21_2⟩:=x3_ BK7)|(go_at_call 118;(with_reducible refine (vec_Le.calls a2_0 a2_1 a2_2 t3 t4 t5 t9 _ A8.out).mono ?_);rintro e w22 ⟨rfl,hb⟩;replace BK1:=am_ (blk_below (zb_ BK1) hb);replace BK2:=am_ (blk_below (zb_ BK2) hb);replace BK7:=am_ (blk_below (zb_ BK7) hb);replace HB:=am_ (below_step (zl3_ HB GE1 GE2 GE7) hb);(try clear hb);(try clear hb2);(try clear hk);(try clear hi)))
 go_ret
 exact ⟨by first|rfl|(simp [errW_none,errW_some]<;>rfl)|(simp [*,errW_none,errW_some]<;>rfl),zl3_ HB GE1 GE2 GE7⟩
def hasStr (l:List ByteArray) (s:ByteArray):Bool:=l.any (fun x=>decide (s.toList=x.toList))
theorem index_some (l:List ByteArray) (s:ByteArray) (hl:l.length<1000000000): ∀(d i:Nat),l.length - i=d→i≤l.length→ ∃r,slices_Index_string_string.l0 (d+1) l s l.length i=some r∧decide (r≥0)=hasStr (l.drop i) s
  | 0, i, hd, hi => by
    obtain rfl:i=l.length:=by omega
    refine ⟨-1, ?_,by rw [List.drop_length];rfl⟩
    simp only [slices_Index_string_string.l0]
    rw [if_neg (by omega)]
  | d + 1, i, hd, hi => by
    have hlt:i<l.length:=by omega
    have hrd:rdOf ByteArray.empty l (i:Int)=l[i]:=by simp [rdOf,hlt]
    rw [List.drop_eq_getElem_cons hlt]
    obtain ⟨r,h1,h2⟩:=index_some l s hl d (i+1) (by omega) (by omega)
    rw [slices_Index_string_string.l0,if_pos (by omega),if_pos (by omega),if_pos (by omega),hrd]
    by_cases e:s.toList=l[i].toList
    · refine ⟨i, if_pos e, ?_⟩
      unfold hasStr
      rw [List.any_cons,decide_eq_true e]
      simp
    refine ⟨r, ?_, ?_⟩
    · rw [if_neg e,show wrap64 ((i:Int)+1)=((i+1:Nat):Int) from by unfold wrap64;omega];exact h1
    rw [h2];unfold hasStr;rw [List.any_cons,decide_eq_false e,Bool.false_or]
end Go.Proofs.Ytcgefpklljclgaa.Print

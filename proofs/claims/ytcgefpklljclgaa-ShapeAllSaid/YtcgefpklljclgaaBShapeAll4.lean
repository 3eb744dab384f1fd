/- A part of the proof of ShapeAll: the machine's side by the kit's print, contracts and lemmas by this session. -/
import Derived.Laws.Cover1
import Derived.Laws.Strings
import Derived.Deep.Slices
import Derived.Deep.Fields
import Derived.ChangeSame
import Derived.Shelf.Abstract
import Derived.Test.YtcgefpklljclgaaBShapeAll0
import Derived.Test.YtcgefpklljclgaaBShapeAll1
import Derived.Test.YtcgefpklljclgaaBShapeAll2
import Derived.Test.YtcgefpklljclgaaBShapeAll3
namespace Go.Proofs.Ytcgefpklljclgaa.Print
open Go.RowKit Go.Proofs.YtcgefpklljclgaaW.PrintWords Go.Proofs.YtcgefpklljclgaaW.PrintLast Go.Proofs.YtcgefpklljclgaaW.PrintMore
attribute [local go_sem] max2_int min2_int max_two min_two max_three min_three max_four min_four   -- for this text's walks alone
set_option linter.unusedVariables false
set_option linter.unusedSimpArgs false

/-! ### shape_Move: function 88 -/
def shape_Move.f (k:Nat) (l0:List (S31)) (a1:ByteArray) (a2:ByteArray) (a3:Int):Option ((List (S31))×Int):=
 (shape_made.f l0 a1).bind fun p=>(guardF p.1 p.2 a3).bind fun e=>if e≠0 then some ([],e) else (tree_Up.f k l0 a2).bind fun ts=>(shape_change_parent.f p.1 p.2 a2).bind fun q=>if q=false then some ([],2) else
  (slices_Contains_string_string.f k ts a1).bind fun c=>if c=true then some ([],10) else (olderF p.1 p.2).bind fun o=>if o.1≠0 then some ([],o.1) else
   (tree_Up.f k l0 (rd_T31 o.2 p.2).f1).bind fun fs=>(fitsF k l0 fs (rd_T31 o.2 p.2).f4 ts).bind fun b=>if b=false then some ([],12) else
    (shiftF (mvSub (rd_T31 o.2 p.2).f4) fs o.2).bind fun l3=>(shiftF (mvAdd (rd_T31 o.2 p.2).f4) ts l3).bind fun l4=>some (l4.set p.2.toNat (parF a2 (rd_T31 l4 p.2)),0)
theorem shape_Move.mono: ∀a0 a1 a2 a3 k,LeO (shape_Move.f k a0 a1 a2 a3) (shape_Move.f (k+1) a0 a1 a2 a3):=by
 intro a0 a1 a2 a3 k
 unfold shape_Move.f
 repeat' first
  |(with_reducible exact tree_Up.mono _ _ _)
  |(with_reducible exact slices_Contains_string_string.mono _ _ _)
  |(with_reducible exact fitsF_mono _ _ _ _ _)
  |(with_reducible exact LeO.refl _)
  |(with_reducible exact LeO.none _)
  |(with_reducible refine LeO.ite ?_ ?_)
  |(with_reducible refine LeO.bind ?_ (fun _=> ?_))
set_option maxHeartbeats 8000000 in
set_option maxRecDepth 100000 in
theorem shape_Move.calls (k:Nat) (A0:Option Addr) (c0:Nat) (l0:List (S31)) (a1:ByteArray) (a2:ByteArray) (a3:Int) (r1:List (S31)) (r2:Int) (w:World) (hr0:Kd.C k31 w A0 l0.length l0) (hc0:l0.length≤c0) (h:shape_Move.f k l0 a1 a2 a3=some (r1,r2)):
    Calls Try.prog 88 #[.slice A0 l0.length c0, .string a1, .string a2, .int .i64 a3] w fun e w'=> ∃v0_:Value,e= .returned (.tuple #[v0_, .int .i64 r2])∧Kd.R k31 31 w' w.heap.size (fun _=>True) v0_ r1∧Below w.heap.size w w':=by
  have hu168:=Try.underlying168
  have hu166:=Try.underlying166
  have hu31:=Try.underlying31
  have hu27:=Try.underlying27
  unfold shape_Move.f at h
  obtain ⟨⟨out,j⟩,hmd,h1⟩:=Option.bind_eq_some_iff.1 h
  clear h
  obtain ⟨e0,hgd,h2⟩:=Option.bind_eq_some_iff.1 h1
  clear h1
  dsimp only at hgd h2
  have HR:=Aside0.mk hr0
  have HC:=Aside0.mk hc0
  have HM:=Aside0.mk hmd
  have HG:=Aside0.mk hgd
  have HB:=am_ (Below.refl w.heap.size w)
  have HH:=Aside0.mk h2
  clear hr0 hc0 hmd hgd h2
  go_enter Try.func88,Try.ntmps88
  go_wp2_with fail
  refine (shape_made.calls _ _ _ _ _ _ _ (Kd.C_below HR.out HB.out) HC.out HM.out).mono ?_
  rintro e w3 ⟨v0,rfl,ho,hb⟩
  have HO:=am_ (Kd.R_lower ho (below_size HB.out))
  have n0_:=am_ (below_step HB.out hb);clear HB;have HB:=n0_;clear n0_
  clear ho hb
  obtain ⟨A5,c5,rfl⟩: ∃A5 c5,v0= .slice A5 out.length c5:=Kd.R_slice HO.out
  have HLT:=am_ (Kd.R_lt HO.out)
  go_wp2_with (first|((with_reducible refine gate_dst (N:=10) rfl ?_);refine box_event ?hg (N:=10) ?hd (cs:=#[.slice none 0 0, .int .i64 0]) (t:=168) ?hr ?_;(case hd=>rfl);(case hg=>rfl);(case hr=>first|(go_simp;done)|(go_simp;rfl));intro gb2 hg w4 hbox hb;have n0_:=am_ (Kd.R_below HO.out hb);have n1_:=am_ (below_step HB.out hb);have n2_:=am_ (hbox);have n3_:=am_ ((by rw [hg];exact below_size HB.out:w.heap.size≤gb2));have n4_:=am_ (hg);clear HO;clear HB;have HO:=n0_;have HB:=n1_;have BK2:=n2_;have GE2:=n3_;have EQ2:=n4_;clear n0_ n1_ n2_ n3_ n4_;clear hb hbox hg)|((with_reducible refine gate_store (t:=168) (p:=10) (v:= .tmp 21) rfl ?_);refine store_all BK2.out 168 (.tmp 10) (.tmp 21) rfl rfl rfl (.agg #[.slice A5 out.length c5, .int .i64 j]) [.slice A5 out.length c5, .int .i64 j] rfl rfl rfl (by kernel_rfl) rfl (by intro q hq;simp only [List.mem_cons,List.not_mem_nil,or_false] at hq;rcases hq with rfl|rfl<;>rfl) ?_;intro w5 hbk hg;have n0_:=am_ (R_put HO.out BK2.out (by decide) hg);have n1_:=am_ (below_put HB.out (below_size HB.out) hg GE2.out);have n2_:=am_ (hbk);clear HO;clear HB;clear BK2;have HO:=n0_;have HB:=n1_;have BK2:=n2_;clear n0_ n1_ n2_;clear hbk hg;have cgb2_0:=(blk_cell BK2.out 0).trans rfl;have cgb2_1:=(blk_cell BK2.out 1).trans rfl))
  have NE2:=am_ (show some gb2≠(Value.slice A5 out.length c5).ownBlock from fun e=>by have:=HLT.out _ e.symm;have:=EQ2.out;omega)
  refine (shapeGuard_calls _ _ _ out j a3 e0 HO.out HG.out).mono ?_
  rintro e w6 ⟨rfl,hb⟩
  clear cgb2_0 cgb2_1
  have n0_:=am_ (Kd.R_below HO.out hb);have n1_:=am_ (blk_below BK2.out hb);have n2_:=am_ (below_step HB.out hb);clear HO;clear BK2;clear HB;have HO:=n0_;have BK2:=n1_;have HB:=n2_;clear n0_ n1_ n2_
  clear hb
  have cgb2_0:=(blk_cell BK2.out 0).trans rfl
  have cgb2_1:=(blk_cell BK2.out 1).trans rfl
  have h2:=HH.out
  clear HH
  by_cases c1:e0=0
  · cases c1
    rw [if_neg (by simp)] at h2
    obtain ⟨ts,hts,h3⟩:=Option.bind_eq_some_iff.1 h2
    obtain ⟨q,hq,h4⟩:=Option.bind_eq_some_iff.1 h3
    clear h2 h3
    have HTS:=Aside0.mk hts
    have HQ:=Aside0.mk hq
    have HH:=Aside0.mk h4
    clear hts hq h4
    go_wp2_with fail
    refine (tree_Up.calls k _ _ _ _ _ _ (Kd.C_below HR.out HB.out) HC.out HTS.out).mono ?_
    rintro e w7 ⟨vt,rfl,hot,hb⟩
    clear cgb2_0 cgb2_1
    have HTO:=am_ (Kd.R_lower hot (below_size HB.out))
    have n0_:=am_ (Kd.R_below HO.out hb);have n1_:=am_ (blk_below BK2.out hb);have n2_:=am_ (below_step HB.out hb);clear HO;clear BK2;clear HB;have HO:=n0_;have BK2:=n1_;have HB:=n2_;clear n0_ n1_ n2_
    clear hb hot
    have cgb2_0:=(blk_cell BK2.out 0).trans rfl
    have cgb2_1:=(blk_cell BK2.out 1).trans rfl
    obtain ⟨At,ct,rfl⟩: ∃At ct,vt= .slice At ts.length ct:=Kd.R_slice HTO.out
    go_wp2_with fail
    refine (shape_change_parent.calls _ _ _ _ _ _ _ (Kd.R_reads' HO.out).2.2 (Kd.R_reads' HO.out).2.1 HQ.out).mono ?_
    rintro e w8 ⟨rfl,hb⟩
    clear cgb2_0 cgb2_1
    have n0_:=am_ (Kd.R_below HO.out hb);have n1_:=am_ (Kd.R_below HTO.out hb);have n2_:=am_ (blk_below BK2.out hb);have n3_:=am_ (below_step HB.out hb);clear HO;clear HTO;clear BK2;clear HB;have HO:=n0_;have HTO:=n1_;have BK2:=n2_;have HB:=n3_;clear n0_ n1_ n2_ n3_
    clear hb
    have cgb2_0:=(blk_cell BK2.out 0).trans rfl
    have cgb2_1:=(blk_cell BK2.out 1).trans rfl
    have h4:=HH.out
    clear HH
    cases q with
    | false =>
      rw [if_pos rfl] at h4
      cases h4
      go_wp2_with fail
      go_ret2
      exact ⟨_,rfl,Kd.R_nil _ _ _ _ _,HB.out⟩
    | true =>
      rw [if_neg (by simp)] at h4
      obtain ⟨c,hc,h5⟩:=Option.bind_eq_some_iff.1 h4
      have HCO:=Aside0.mk hc
      have HH:=Aside0.mk h5
      clear hc h4 h5
      go_wp2_with fail
      refine (slices_Contains_string_string.calls k _ _ ts _ _ _ (Kd.R_reads' HTO.out).2.2 (Kd.R_reads' HTO.out).2.1 HCO.out).mono ?_
      rintro e w9 ⟨rfl,hd⟩
      have hb:=hd.below
      clear cgb2_0 cgb2_1 hd
      have n0_:=am_ (Kd.R_below HO.out hb);have n1_:=am_ (Kd.R_below HTO.out hb);have n2_:=am_ (blk_below BK2.out hb);have n3_:=am_ (below_step HB.out hb);clear HO;clear HTO;clear BK2;clear HB;have HO:=n0_;have HTO:=n1_;have BK2:=n2_;have HB:=n3_;clear n0_ n1_ n2_ n3_
      clear hb
      have cgb2_0:=(blk_cell BK2.out 0).trans rfl
      have cgb2_1:=(blk_cell BK2.out 1).trans rfl
      have h5:=HH.out
      clear HH
      cases c with
      | true =>
        rw [if_pos rfl] at h5
        cases h5
        go_wp2_with fail
        go_ret2
        exact ⟨_,rfl,Kd.R_nil _ _ _ _ _,HB.out⟩
      | false =>
        rw [if_neg (by simp)] at h5
        obtain ⟨⟨e1,l2⟩,hol,h6⟩:=Option.bind_eq_some_iff.1 h5
        clear h5
        have HOL:=Aside0.mk hol
        have HH:=Aside0.mk h6
        clear hol h6
        go_wp2_with fail
        refine (shapeOlder_calls _ _ _ out l2 j e1 HO.out (below_size HB.out) HOL.out).mono ?_
        rintro e w10 ⟨rfl,ho,ht⟩
        clear cgb2_0 cgb2_1
        have n0_:=am_ (R_turned HTO.out HO.out (by decide) ht);have n1_:=am_ (ht.block _ _ BK2.out NE2.out);have n2_:=am_ (HB.out.trans ht.below);have n3_:=am_ (ho);clear HTO;clear BK2;clear HB;clear HO;have HTO:=n0_;have BK2:=n1_;have HB:=n2_;have HO:=n3_;clear n0_ n1_ n2_ n3_
        clear ho ht
        have cgb2_0:=(blk_cell BK2.out 0).trans rfl
        have cgb2_1:=(blk_cell BK2.out 1).trans rfl
        have h6:=HH.out
        clear HH
        by_cases c2:e1=0
        · cases c2
          rw [if_neg (by simp)] at h6
          obtain ⟨hj0,hj1⟩:=older_zero HOL.out
          obtain ⟨gb,cap,hv0,hgb,hgl⟩:=sh_head HO.out (by have:=older_len HOL.out;omega)
          rw [older_len HOL.out] at hv0
          cases hv0
          have hcs:=sh_cells' HO.out (older_len HOL.out) j hj0 hj1
          have HJ0:=Aside0.mk hj0
          have HJ1:=Aside0.mk hj1
          have HGB:=Aside0.mk hgb
          have HGL:=Aside0.mk hgl
          have HLEN:=am_ (older_len HOL.out)
          generalize hy:rd_T31 l2 j=y at hcs h6
          have HY:=Aside0.mk hy
          obtain ⟨fs,hfs,h7⟩:=Option.bind_eq_some_iff.1 h6
          clear h6
          have HFS:=Aside0.mk hfs
          have HH:=Aside0.mk h7
          have HCS:=Aside0.mk hcs
          clear hj0 hj1 hgb hgl hy hfs h7 hcs
          go_wp2_with fail
          refine (shapeItem_calls _ ⟨gb,0,none⟩ out.length c5 j HJ0.out HJ1.out).mono ?_
          rintro e w11 ⟨rfl,hb⟩
          clear cgb2_0 cgb2_1
          have HCS1:=am_ (fun j' u hu=>(hb.cell (p:=⟨gb,j.toNat*12+j',none⟩) HGL.out).trans (HCS.out j' u hu))
          have HGL1:=am_ (Nat.lt_of_lt_of_le HGL.out hb.size)
          have n0_:=am_ (Kd.R_below HO.out hb);have n1_:=am_ (Kd.R_below HTO.out hb);have n2_:=am_ (blk_below BK2.out hb);have n3_:=am_ (below_step HB.out hb);clear HO;clear HTO;clear BK2;clear HB;have HO:=n0_;have HTO:=n1_;have BK2:=n2_;have HB:=n3_;clear n0_ n1_ n2_ n3_
          clear hb HCS HGL
          have cgb2_0:=(blk_cell BK2.out 0).trans rfl
          have cgb2_1:=(blk_cell BK2.out 1).trans rfl
          have k1:w11.cell? ⟨gb,j.toNat*12+1,none⟩=some (.string y.f1):=HCS1.out 1 _ rfl
          go_wp2_with fail
          clear k1
          refine (tree_Up.calls k _ _ _ _ _ _ (Kd.C_below HR.out HB.out) HC.out HFS.out).mono ?_
          rintro e w12 ⟨vf,rfl,hof,hb⟩
          clear cgb2_0 cgb2_1
          have HFR:=am_ (Kd.R_lower hof (below_size HB.out))
          have HCS2:=am_ (fun j' u hu=>(hb.cell (p:=⟨gb,j.toNat*12+j',none⟩) HGL1.out).trans (HCS1.out j' u hu))
          have HGL2:=am_ (Nat.lt_of_lt_of_le HGL1.out hb.size)
          have n0_:=am_ (Kd.R_below HO.out hb);have n1_:=am_ (Kd.R_below HTO.out hb);have n2_:=am_ (blk_below BK2.out hb);have n3_:=am_ (below_step HB.out hb);clear HO;clear HTO;clear BK2;clear HB;have HO:=n0_;have HTO:=n1_;have BK2:=n2_;have HB:=n3_;clear n0_ n1_ n2_ n3_
          clear hb hof HCS1 HGL1
          have cgb2_0:=(blk_cell BK2.out 0).trans rfl
          have cgb2_1:=(blk_cell BK2.out 1).trans rfl
          obtain ⟨Af,cf,rfl⟩: ∃Af cf,vf= .slice Af fs.length cf:=Kd.R_slice HFR.out
          go_wp2_with fail
          refine (shapeItem_calls _ ⟨gb,0,none⟩ out.length c5 j HJ0.out HJ1.out).mono ?_
          rintro e w13 ⟨rfl,hb⟩
          clear cgb2_0 cgb2_1
          have HCS3:=am_ (fun j' u hu=>(hb.cell (p:=⟨gb,j.toNat*12+j',none⟩) HGL2.out).trans (HCS2.out j' u hu))
          have HGL3:=am_ (Nat.lt_of_lt_of_le HGL2.out hb.size)
          have n0_:=am_ (Kd.R_below HO.out hb);have n1_:=am_ (Kd.R_below HTO.out hb);have n2_:=am_ (Kd.R_below HFR.out hb);have n3_:=am_ (blk_below BK2.out hb);have n4_:=am_ (below_step HB.out hb);clear HO;clear HTO;clear HFR;clear BK2;clear HB;have HO:=n0_;have HTO:=n1_;have HFR:=n2_;have BK2:=n3_;have HB:=n4_;clear n0_ n1_ n2_ n3_ n4_
          clear hb HCS2 HGL2
          have cgb2_0:=(blk_cell BK2.out 0).trans rfl
          have cgb2_1:=(blk_cell BK2.out 1).trans rfl
          have k8:w13.cell? ⟨gb,j.toNat*12+8,none⟩=some (.int .i64 y.f4.f0):=HCS3.out 8 _ rfl
          have k9:w13.cell? ⟨gb,j.toNat*12+8+1,none⟩=some (.int .i64 y.f4.f1):=HCS3.out 9 _ rfl
          have k10:w13.cell? ⟨gb,j.toNat*12+8+2,none⟩=some (.int .i64 y.f4.f2):=HCS3.out 10 _ rfl
          generalize hsb:y.f4=sb at k8 k9 k10
          have HSB:=Aside0.mk hsb
          have GB2:=am_ (blk_lt BK2.out)
          have hm:ts.length≤9223372036854775807:=(Kd.R_reads' HTO.out).2.2.2.1
          clear hsb
          have GLT15:=am_ (show gb<w13.heap.size from HGL3.out)
          go_wp2_with (first|((with_reducible refine gate_dst (N:=15) rfl ?_);refine box_event ?hg (N:=15) ?hd (cs:=#[.int .i64 0, .int .i64 0, .int .i64 0]) (t:=27) ?hr ?_;(case hd=>rfl);(case hg=>rfl);(case hr=>first|(go_simp;done)|(go_simp;rfl));intro gb15 hg wa hbox hb;have n0_:=am_ (Kd.R_below HO.out hb);have n1_:=am_ (Kd.R_below HTO.out hb);have n2_:=am_ (Kd.R_below HFR.out hb);have n3_:=am_ (blk_below BK2.out hb);have n4_:=am_ (below_step HB.out hb);have n5_:=am_ (hbox);have n6_:=am_ ((by rw [hg];exact below_size HB.out:w.heap.size≤gb15));have n7_:=am_ (hg);clear HO;clear HTO;clear HFR;clear BK2;clear HB;have HO:=n0_;have HTO:=n1_;have HFR:=n2_;have BK2:=n3_;have HB:=n4_;have BK15:=n5_;have GE15:=n6_;have EQ15:=n7_;clear n0_ n1_ n2_ n3_ n4_ n5_ n6_ n7_;clear hb hbox hg)|((with_reducible refine gate_store (t:=27) (p:=15) (v:= .tmp 56) rfl ?_);refine store_all BK15.out 27 (.tmp 15) (.tmp 56) rfl rfl rfl (.agg #[.int .i64 sb.f0, .int .i64 sb.f1, .int .i64 sb.f2]) [.int .i64 sb.f0, .int .i64 sb.f1, .int .i64 sb.f2] rfl rfl rfl (by kernel_rfl) rfl (by intro q hq;simp only [List.mem_cons,List.not_mem_nil,or_false] at hq;rcases hq with rfl|rfl|rfl<;>rfl) ?_;intro wb hbk hg;have n0_:=am_ (R_put HO.out BK15.out (by decide) hg);have n1_:=am_ (R_put HTO.out BK15.out (by decide) hg);have n2_:=am_ (R_put HFR.out BK15.out (by decide) hg);have n3_:=am_ (blk_put_other BK2.out hg (by have:=blk_lt BK2.out;have:=EQ15.out;have:=GB2.out;omega));have n4_:=am_ (below_put HB.out (below_size HB.out) hg GE15.out);have n5_:=am_ (hbk);clear HO;clear HTO;clear HFR;clear BK2;clear HB;clear BK15;have HO:=n0_;have HTO:=n1_;have HFR:=n2_;have BK2:=n3_;have HB:=n4_;have BK15:=n5_;clear n0_ n1_ n2_ n3_ n4_ n5_;clear hbk hg;have cgb15_0:=(blk_cell BK15.out 0).trans rfl;have cgb15_1:=(blk_cell BK15.out 1).trans rfl;have cgb15_2:=(blk_cell BK15.out 2).trans rfl))
          have h7:=HH.out
          clear HH
          rw [HSB.out] at h7
          obtain ⟨bb,hfit,h8⟩:=Option.bind_eq_some_iff.1 h7
          clear h7
          have HFIT:=Aside0.mk hfit
          have HH:=Aside0.mk h8
          clear hfit h8 HCS3 HGL3 k8 k9 k10 GB2
          have NE2:=am_ (show gb2≠gb from fun e=>NE2.out (by rw [e];rfl))
          have NE15:=am_ (show gb15≠gb from fun e=>by have:=GLT15.out;have:=EQ15.out;omega)
          go_loopg [17,18,59] ts.length (fun kq s17 s18 s59 wr=> ∃i:Nat,i≤ts.length∧ts.length - i≤kq∧s59= .int .i64 i∧Aside0 (fitsF k l0 fs sb (ts.drop i)=some bb)∧Aside0 (Below w.heap.size w wr)∧Aside0 (wr.heap[gb2]?=some (.cells #[.slice (some ⟨gb,0,none⟩) out.length c5, .int .i64 j] 168 (0,0)))∧Aside0 (wr.heap[gb15]?=some (.cells #[.int .i64 sb.f0, .int .i64 sb.f1, .int .i64 sb.f2] 27 (0,0)))∧Aside0 (Kd.R k31 31 wr w.heap.size (fun _=>True) (.slice (some ⟨gb,0,none⟩) out.length c5) l2)∧Aside0 (Kd.R Kd.string 9 wr w.heap.size (fun _=>True) (.slice At ts.length ct) ts)∧Aside0 (Kd.R Kd.string 9 wr w.heap.size (fun _=>True) (.slice Af fs.length cf) fs))
          case atStart=>exact ⟨0,by omega,by omega,rfl,HFIT,HB,BK2,BK15,HO,HTO,HFR⟩
          case round=>
            clear HFIT HB BK2 BK15 HO HTO HFR cgb2_0 cgb2_1 cgb15_0 cgb15_1 cgb15_2
            obtain ⟨i,hi,hg,rfl,HFIT,HB,BK2,BK15,HO,HTO,HFR⟩:=hrel
            by_cases hlt:i<ts.length
            · have hltz : (i : Int) < (ts.length : Int) := by omega
              have hdr:ts.drop i=ts[i]::ts.drop (i+1):=List.drop_eq_getElem_cons hlt
              have hst:rdOf ByteArray.empty ts (i:Int)=ts[i]:=by simp [rdOf,hlt]
              have hf:=HFIT.out
              rw [hdr,←hst] at hf
              unfold fitsF at hf
              obtain ⟨jx,hjx,hf2⟩:=Option.bind_eq_some_iff.1 hf
              split at hf2
              case isFalse=>cases hf2
              case isTrue hjb=>
              obtain ⟨c,hcn,hf3⟩:=Option.bind_eq_some_iff.1 hf2
              obtain ⟨ad,e1,h0⟩:=at_str (Kd.R_reads' HTO.out).2.2 (i:Int) (by omega) (by omega)
              cases e1
              simp only [Int.toNat_natCast] at h0
              have HJX:=Aside0.mk hjx
              have HCN:=Aside0.mk hcn
              have HF3:=Aside0.mk hf3
              have HX0:=Aside0.mk hjb.1
              have HX1:=Aside0.mk hjb.2
              clear hdr hst hf hf2 hf3 hjx hcn HFIT hjb
              go_wp2_with fail
              refine (tree_Find.calls _ _ l0 _ jx _ (Kd.C_below HR.out HB.out) HC.out HJX.out).mono ?_
              rintro e wa1 ⟨rfl,hb⟩
              clear h0
              have n0_:=am_ (Kd.R_below HO.out hb);have n1_:=am_ (Kd.R_below HTO.out hb);have n2_:=am_ (Kd.R_below HFR.out hb);have n3_:=am_ (blk_below BK2.out hb);have n4_:=am_ (blk_below BK15.out hb);have n5_:=am_ (below_step HB.out hb);clear HO;clear HTO;clear HFR;clear BK2;clear BK15;clear HB;have HO:=n0_;have HTO:=n1_;have HFR:=n2_;have BK2:=n3_;have BK15:=n4_;have HB:=n5_;clear n0_ n1_ n2_ n3_ n4_ n5_
              clear hb
              obtain ⟨adx,e1,k0,k1,k2,k3,k4,k5,k6,k7,k8,k9,k10,k11⟩:=at_T31 (Kd.C_below HR.out HB.out) jx HX0.out HX1.out
              cases e1
              have q0:(0≤jx)=True:=eq_true HX0.out
              have q1:(jx<(l0.length:Int))=True:=eq_true HX1.out
              have hf3:=HF3.out
              clear HF3
              generalize hx:rd_T31 l0 jx=x at k0 k1 k2 k3 k4 k5 k6 k7 k8 k9 k10 k11 hf3
              have HF3:=Aside0.mk hf3
              have LT2:=am_ (blk_lt BK2.out)
              have LT15:=am_ (blk_lt BK15.out)
              clear hx hf3
              have HO1:=am_ (Kd.R_mono (ok':=fun k_=>k_<wa1.heap.size) (Kd.R_bound HO.out) (fun _ hk=>hk.2.2.1))
              clear HO
              have HO:=HO1
              clear HO1
              go_wp2_with (first|((with_reducible refine gate_dst (N:=18) rfl ?_);refine box_event ?hg (N:=18) ?hd (cs:=#[.string ⟨#[]⟩, .string ⟨#[]⟩, .int .i64 0, .int .i64 0, .int .i64 0, .int .i64 0, .int .i64 0, .int .i64 0, .int .i64 0, .int .i64 0, .int .i64 0, .int .i64 0]) (t:=31) ?hr ?_;(case hd=>rfl);(case hg=>rfl);(case hr=>first|(go_simp;done)|(go_simp;rfl));intro gb18 hg we hbox hb;have n0_:=am_ (Kd.R_below HO.out hb);have n1_:=am_ (Kd.R_below HTO.out hb);have n2_:=am_ (Kd.R_below HFR.out hb);have n3_:=am_ (blk_below BK2.out hb);have n4_:=am_ (blk_below BK15.out hb);have n5_:=am_ (below_step HB.out hb);have n6_:=am_ (hbox);have n7_:=am_ ((by rw [hg];exact below_size HB.out:w.heap.size≤gb18));have n8_:=am_ (hg);clear HO;clear HTO;clear HFR;clear BK2;clear BK15;clear HB;have HO:=n0_;have HTO:=n1_;have HFR:=n2_;have BK2:=n3_;have BK15:=n4_;have HB:=n5_;have BK18:=n6_;have GE18:=n7_;have EQ18:=n8_;clear n0_ n1_ n2_ n3_ n4_ n5_ n6_ n7_ n8_;clear hb hbox hg)|((with_reducible refine gate_store (t:=31) (p:=18) (v:= .tmp 68) rfl ?_);refine store_all BK18.out 31 (.tmp 18) (.tmp 68) rfl rfl rfl (.agg #[.string x.f0, .string x.f1, .int .i64 x.f2.f0, .int .i64 x.f2.f1, .int .i64 x.f2.f2, .int .i64 x.f3.f0, .int .i64 x.f3.f1, .int .i64 x.f3.f2, .int .i64 x.f4.f0, .int .i64 x.f4.f1, .int .i64 x.f4.f2, .int .i64 x.f5]) [.string x.f0, .string x.f1, .int .i64 x.f2.f0, .int .i64 x.f2.f1, .int .i64 x.f2.f2, .int .i64 x.f3.f0, .int .i64 x.f3.f1, .int .i64 x.f3.f2, .int .i64 x.f4.f0, .int .i64 x.f4.f1, .int .i64 x.f4.f2, .int .i64 x.f5] rfl rfl rfl (by kernel_rfl) rfl (by intro q hq;simp only [List.mem_cons,List.not_mem_nil,or_false] at hq;rcases hq with rfl|rfl|rfl|rfl|rfl|rfl|rfl|rfl|rfl|rfl|rfl|rfl<;>rfl) ?_;intro wf hbk hg;have n0_:=am_ (R_put HTO.out BK18.out (by decide) hg);have n1_:=am_ (R_put HFR.out BK18.out (by decide) hg);have n2_:=am_ (blk_put_other BK2.out hg (by have:=EQ18.out;have:=LT2.out;omega));have n3_:=am_ (blk_put_other BK15.out hg (by have:=EQ18.out;have:=LT15.out;omega));have n4_:=am_ (below_put HB.out (below_size HB.out) hg GE18.out);have n5_:=am_ (Kd.R_mono (Kd.R_grown HO.out hg (fun k_ hk e=>by have:=EQ18.out;have:=Option.some.inj e;have:k_<wa1.heap.size:=hk;omega)) (fun _ _=>trivial));have n6_:=am_ (hbk);clear HTO;clear HFR;clear BK2;clear BK15;clear HB;clear HO;clear BK18;have HTO:=n0_;have HFR:=n1_;have BK2:=n2_;have BK15:=n3_;have HB:=n4_;have HO:=n5_;have BK18:=n6_;clear n0_ n1_ n2_ n3_ n4_ n5_ n6_;clear hbk hg;have cgb18_0:=(blk_cell BK18.out 0).trans rfl;have cgb18_1:=(blk_cell BK18.out 1).trans rfl;have cgb18_2:=(blk_cell BK18.out 2).trans rfl;have cgb18_3:=(blk_cell BK18.out 3).trans rfl;have cgb18_4:=(blk_cell BK18.out 4).trans rfl;have cgb18_5:=(blk_cell BK18.out 5).trans rfl;have cgb18_6:=(blk_cell BK18.out 6).trans rfl;have cgb18_7:=(blk_cell BK18.out 7).trans rfl;have cgb18_8:=(blk_cell BK18.out 8).trans rfl;have cgb18_9:=(blk_cell BK18.out 9).trans rfl;have cgb18_10:=(blk_cell BK18.out 10).trans rfl;have cgb18_11:=(blk_cell BK18.out 11).trans rfl))
              clear k0 k1 k2 k3 k4 k5 k6 k7 k8 k9 k10 k11
              have cgb15_0:=(blk_cell BK15.out 0).trans rfl
              have cgb15_1:=(blk_cell BK15.out 1).trans rfl
              have cgb15_2:=(blk_cell BK15.out 2).trans rfl
              have hf3:=HF3.out
              clear HF3
              cases c with
              | true =>
                rw [if_pos rfl] at hf3
                have HF4:=Aside0.mk hf3
                clear hf3
                refine start_ (n:=15) (S:=fun w'=>w'.cell? ⟨gb18,2,none⟩=some (.int .i64 x.f2.f0)∧w'.cell? ⟨gb18,3,none⟩=some (.int .i64 x.f2.f1)∧w'.cell? ⟨gb18,4,none⟩=some (.int .i64 x.f2.f2)∧w'.cell? ⟨gb18,8,none⟩=some (.int .i64 x.f4.f0)∧w'.cell? ⟨gb18,9,none⟩=some (.int .i64 x.f4.f1)∧w'.cell? ⟨gb18,10,none⟩=some (.int .i64 x.f4.f2)∧w'.cell? ⟨gb15,0,none⟩=some (.int .i64 sb.f0)∧w'.cell? ⟨gb15,1,none⟩=some (.int .i64 sb.f1)∧w'.cell? ⟨gb15,2,none⟩=some (.int .i64 sb.f2)∧Below wf.heap.size wf w') (ds:=[]) (bt_ 15 0) (by kernel_rfl) rfl rfl ⟨cgb18_2,cgb18_3,cgb18_4,cgb18_8,cgb18_9,cgb18_10,cgb15_0,cgb15_1,cgb15_2,below_drew (Below.refl _ _)⟩ (fun hHeld=> ?_)
                refine pure_ (i:=0) (N:=some 69) (v:= ?_) (a':= ?_) (bt_ 15 1) rfl rfl (by kernel_rfl) (fun _ _ _ h=>h) (Or.inl ⟨by rfl, ?_⟩) ?_ ?_;rotate_left;(intro w';go_simp;with_reducible rfl);rotate_left;(simp only [Act.put,List.setIfInBounds_toArray,List.set_cons_zero,List.set_cons_succ,i64_w,i32_w];rfl)
                refine pure_ (i:=1) (N:=some 70) (v:= ?_) (a':= ?_) (bt_ 15 3) rfl rfl (by kernel_rfl) (fun _ _ _ h=>h) (Or.inl ⟨by rfl, ?_⟩) ?_ ?_;rotate_left;(intro w';go_simp;with_reducible rfl);rotate_left;(simp only [Act.put,List.setIfInBounds_toArray,List.set_cons_zero,List.set_cons_succ,i64_w,i32_w];rfl)
                refine one_ (i:=2) (N:=some 71) (bt_ 15 7) rfl rfl (by kernel_rfl) (by decide) (fun K hK=> ?_)
                refine goes_ Try.func131 (by kernel_rfl) rfl #[.slice Af fs.length cf, .string (rdOf ByteArray.empty ts i)] (by rfl) rfl rfl (by (try simp only [List.map_toArray,List.map_cons,List.map_nil]);rfl) ?_
                refine (slices_Contains_string_string.calls k _ _ fs _ _ _ (Kd.R_reads' (Kd.R_below HFR.out (hHeld.2.2.2.2.2.2.2.2.2))).2.2 (Kd.R_reads' HFR.out).2.1 HCN.out).mono ?_
                rintro e wd ⟨rfl,hd⟩
                have hb:=hd.below
                refine ⟨_,rfl, ?_⟩
                refine hK.out _ _ ⟨zh_ hb hHeld.1,zh_ hb hHeld.2.1,zh_ hb hHeld.2.2.1,zh_ hb hHeld.2.2.2.1,zh_ hb hHeld.2.2.2.2.1,zh_ hb hHeld.2.2.2.2.2.1,zh_ hb hHeld.2.2.2.2.2.2.1,zh_ hb hHeld.2.2.2.2.2.2.2.1,zh_ hb hHeld.2.2.2.2.2.2.2.2.1,below_step hHeld.2.2.2.2.2.2.2.2.2 hb⟩ (fun hHeld=> ?_)
                clear hK K hb hd
                refine norm_ (a':= ?_) ?_ ?_
                rotate_left
                · show Act.put _ (some 71) _ = _
                  simp only [Act.put,List.setIfInBounds_toArray,List.set_cons_zero,List.set_cons_succ,i64_w,i32_w]
                  rfl
                refine pure_ (i:=3) (N:=some 72) (v:= ?_) (a':= ?_) (bt_ 15 15) rfl rfl (by kernel_rfl) (fun _ _ _ h=>h) (Or.inl ⟨by rfl, ?_⟩) ?_ ?_;rotate_left;(intro w';go_simp;with_reducible rfl);rotate_left;(simp only [Act.put,List.setIfInBounds_toArray,List.set_cons_zero,List.set_cons_succ,i64_w,i32_w];rfl)
                refine pure_ (i:=4) (N:=some 73) (v:= ?_) (a':= ?_) (bt_ 15 31) rfl rfl (by kernel_rfl) (fun _ _ _ h=>h) (Or.inl ⟨by rfl, ?_⟩) ?_ ?_;rotate_left;(intro w';go_simp;with_reducible rfl);rotate_left;(simp only [Act.put,List.setIfInBounds_toArray,List.set_cons_zero,List.set_cons_succ,i64_w,i32_w];rfl)
                refine take_ (i:=5) (N:=some 74) (v:=undef) (a':= ?_) (bt_ 15 63) rfl rfl (by kernel_rfl) (fun _ _ _ h=>h) (Or.inr ⟨by rfl,rfl⟩) hHeld ?_ ?_;rotate_left;(simp only [Act.put,List.setIfInBounds_toArray,List.set_cons_zero,List.set_cons_succ,i64_w,i32_w];rfl)
                refine take_ (i:=6) (N:=some 75) (v:=undef) (a':= ?_) (bt_ 15 127) rfl rfl (by kernel_rfl) (fun _ _ _ h=>h) (Or.inr ⟨by rfl,rfl⟩) hHeld ?_ ?_;rotate_left;(simp only [Act.put,List.setIfInBounds_toArray,List.set_cons_zero,List.set_cons_succ,i64_w,i32_w];rfl)
                refine take_ (i:=7) (N:=some 76) (v:=undef) (a':= ?_) (bt_ 15 255) rfl rfl (by kernel_rfl) (fun _ _ _ h=>h) (Or.inr ⟨by rfl,rfl⟩) hHeld ?_ ?_;rotate_left;(simp only [Act.put,List.setIfInBounds_toArray,List.set_cons_zero,List.set_cons_succ,i64_w,i32_w];rfl)
                refine take_ (i:=8) (N:=some 77) (v:=undef) (a':= ?_) (bt_ 15 511) rfl rfl (by kernel_rfl) (fun _ _ _ h=>h) (Or.inr ⟨by rfl,rfl⟩) hHeld ?_ ?_;rotate_left;(simp only [Act.put,List.setIfInBounds_toArray,List.set_cons_zero,List.set_cons_succ,i64_w,i32_w];rfl)
                refine take_ (i:=9) (N:=some 78) (v:=undef) (a':= ?_) (bt_ 15 1023) rfl rfl (by kernel_rfl) (fun _ _ _ h=>h) (Or.inr ⟨by rfl,rfl⟩) hHeld ?_ ?_;rotate_left;(simp only [Act.put,List.setIfInBounds_toArray,List.set_cons_zero,List.set_cons_succ,i64_w,i32_w];rfl)
                refine take_ (i:=10) (N:=some 79) (v:=undef) (a':= ?_) (bt_ 15 2047) rfl rfl (by kernel_rfl) (fun _ _ _ h=>h) (Or.inr ⟨by rfl,rfl⟩) hHeld ?_ ?_;rotate_left;(simp only [Act.put,List.setIfInBounds_toArray,List.set_cons_zero,List.set_cons_succ,i64_w,i32_w];rfl)
                refine take_ (i:=11) (N:=some 80) (v:=undef) (a':= ?_) (bt_ 15 4095) rfl rfl (by kernel_rfl) (fun _ _ _ h=>h) (Or.inr ⟨by rfl,rfl⟩) hHeld ?_ ?_;rotate_left;(simp only [Act.put,List.setIfInBounds_toArray,List.set_cons_zero,List.set_cons_succ,i64_w,i32_w];rfl)
                refine take_ (i:=12) (N:=some 81) (v:=undef) (a':= ?_) (bt_ 15 8191) rfl rfl (by kernel_rfl) (fun _ _ _ h=>h) (Or.inr ⟨by rfl,rfl⟩) hHeld ?_ ?_;rotate_left;(simp only [Act.put,List.setIfInBounds_toArray,List.set_cons_zero,List.set_cons_succ,i64_w,i32_w];rfl)
                refine take_ (i:=13) (N:=some 82) (v:=undef) (a':= ?_) (bt_ 15 16383) rfl rfl (by kernel_rfl) (fun _ _ _ h=>h) (Or.inr ⟨by rfl,rfl⟩) hHeld ?_ ?_;rotate_left;(simp only [Act.put,List.setIfInBounds_toArray,List.set_cons_zero,List.set_cons_succ,i64_w,i32_w];rfl)
                refine pure_ (i:=14) (N:=some 83) (v:= ?_) (a':= ?_) (bt_ 15 32767) rfl rfl (by kernel_rfl) (fun _ _ _ h=>h) (Or.inl ⟨by rfl, ?_⟩) ?_ ?_;rotate_left;(intro w';go_simp;with_reducible rfl);rotate_left;(simp only [Act.put,List.setIfInBounds_toArray,List.set_cons_zero,List.set_cons_succ,i64_w,i32_w];rfl)
                refine done_ (by kernel_rfl) ?_
                have hBz:Below wf.heap.size wf wd:=hHeld.2.2.2.2.2.2.2.2.2
                clear hHeld
                have n0_:=am_ (Kd.R_below HO.out hBz);have n1_:=am_ (Kd.R_below HTO.out hBz);have n2_:=am_ (Kd.R_below HFR.out hBz);have n3_:=am_ (blk_below BK2.out hBz);have n4_:=am_ (blk_below BK15.out hBz);have n5_:=am_ (below_step HB.out hBz);clear HO;clear HTO;clear HFR;clear BK2;clear BK15;clear HB;have HO:=n0_;have HTO:=n1_;have HFR:=n2_;have BK2:=n3_;have BK15:=n4_;have HB:=n5_;clear n0_ n1_ n2_ n3_ n4_ n5_
                clear hBz
                go_wp2_with fail
                go_roundg (ts.length - (i+1))
                case measure=>omega
                case rel=>exact ⟨i+1,by omega,by omega,by go_num,HF4,HB,BK2,BK15,HO,HTO,HFR⟩
              | false =>
                rw [if_neg (by simp)] at hf3
                obtain ⟨b,hle,hf4⟩:=Option.bind_eq_some_iff.1 hf3
                obtain ⟨⟨q1,q2,q3⟩,hqv⟩: ∃q:Int×Int×Int,vec_Add.f [x.f4,sb]=some q:=⟨_,rfl⟩
                rw [show mvAdd sb x.f4=⟨q1,q2,q3⟩ from by unfold mvAdd;rw [hqv];rfl] at hle
                have HQV:=Aside0.mk hqv
                have HLE:=Aside0.mk hle
                have HF4:=Aside0.mk hf4
                clear hf3 hle hf4 hqv
                refine start_ (n:=15) (S:=fun w'=>w'.cell? ⟨gb18,2,none⟩=some (.int .i64 x.f2.f0)∧w'.cell? ⟨gb18,3,none⟩=some (.int .i64 x.f2.f1)∧w'.cell? ⟨gb18,4,none⟩=some (.int .i64 x.f2.f2)∧w'.cell? ⟨gb18,8,none⟩=some (.int .i64 x.f4.f0)∧w'.cell? ⟨gb18,9,none⟩=some (.int .i64 x.f4.f1)∧w'.cell? ⟨gb18,10,none⟩=some (.int .i64 x.f4.f2)∧w'.cell? ⟨gb15,0,none⟩=some (.int .i64 sb.f0)∧w'.cell? ⟨gb15,1,none⟩=some (.int .i64 sb.f1)∧w'.cell? ⟨gb15,2,none⟩=some (.int .i64 sb.f2)∧Below wf.heap.size wf w') (ds:=[]) (bt_ 15 0) (by kernel_rfl) rfl rfl ⟨cgb18_2,cgb18_3,cgb18_4,cgb18_8,cgb18_9,cgb18_10,cgb15_0,cgb15_1,cgb15_2,below_drew (Below.refl _ _)⟩ (fun hHeld=> ?_)
                refine pure_ (i:=0) (N:=some 69) (v:= ?_) (a':= ?_) (bt_ 15 1) rfl rfl (by kernel_rfl) (fun _ _ _ h=>h) (Or.inl ⟨by rfl, ?_⟩) ?_ ?_;rotate_left;(intro w';go_simp;with_reducible rfl);rotate_left;(simp only [Act.put,List.setIfInBounds_toArray,List.set_cons_zero,List.set_cons_succ,i64_w,i32_w];rfl)
                refine pure_ (i:=1) (N:=some 70) (v:= ?_) (a':= ?_) (bt_ 15 3) rfl rfl (by kernel_rfl) (fun _ _ _ h=>h) (Or.inl ⟨by rfl, ?_⟩) ?_ ?_;rotate_left;(intro w';go_simp;with_reducible rfl);rotate_left;(simp only [Act.put,List.setIfInBounds_toArray,List.set_cons_zero,List.set_cons_succ,i64_w,i32_w];rfl)
                refine one_ (i:=2) (N:=some 71) (bt_ 15 7) rfl rfl (by kernel_rfl) (by decide) (fun K hK=> ?_)
                refine goes_ Try.func131 (by kernel_rfl) rfl #[.slice Af fs.length cf, .string (rdOf ByteArray.empty ts i)] (by rfl) rfl rfl (by (try simp only [List.map_toArray,List.map_cons,List.map_nil]);rfl) ?_
                refine (slices_Contains_string_string.calls k _ _ fs _ _ _ (Kd.R_reads' (Kd.R_below HFR.out (hHeld.2.2.2.2.2.2.2.2.2))).2.2 (Kd.R_reads' HFR.out).2.1 HCN.out).mono ?_
                rintro e wd ⟨rfl,hd⟩
                have hb:=hd.below
                refine ⟨_,rfl, ?_⟩
                refine hK.out _ _ ⟨zh_ hb hHeld.1,zh_ hb hHeld.2.1,zh_ hb hHeld.2.2.1,zh_ hb hHeld.2.2.2.1,zh_ hb hHeld.2.2.2.2.1,zh_ hb hHeld.2.2.2.2.2.1,zh_ hb hHeld.2.2.2.2.2.2.1,zh_ hb hHeld.2.2.2.2.2.2.2.1,zh_ hb hHeld.2.2.2.2.2.2.2.2.1,below_step hHeld.2.2.2.2.2.2.2.2.2 hb⟩ (fun hHeld=> ?_)
                clear hK K hb hd
                refine norm_ (a':= ?_) ?_ ?_
                rotate_left
                · show Act.put _ (some 71) _ = _
                  simp only [Act.put,List.setIfInBounds_toArray,List.set_cons_zero,List.set_cons_succ,i64_w,i32_w]
                  rfl
                refine pure_ (i:=3) (N:=some 72) (v:= ?_) (a':= ?_) (bt_ 15 15) rfl rfl (by kernel_rfl) (fun _ _ _ h=>h) (Or.inl ⟨by rfl, ?_⟩) ?_ ?_;rotate_left;(intro w';go_simp;with_reducible rfl);rotate_left;(simp only [Act.put,List.setIfInBounds_toArray,List.set_cons_zero,List.set_cons_succ,i64_w,i32_w];rfl)
                refine pure_ (i:=4) (N:=some 73) (v:= ?_) (a':= ?_) (bt_ 15 31) rfl rfl (by kernel_rfl) (fun _ _ _ h=>h) (Or.inl ⟨by rfl, ?_⟩) ?_ ?_;rotate_left;(intro w';go_simp;with_reducible rfl);rotate_left;(simp only [Act.put,List.setIfInBounds_toArray,List.set_cons_zero,List.set_cons_succ,i64_w,i32_w];rfl)
                refine pure_ (i:=5) (N:=some 74) (v:= ?_) (a':= ?_) (bt_ 15 63) rfl rfl (by kernel_rfl) (fun _ _ _ h=>h) (Or.inl ⟨by rfl, ?_⟩) ?_ ?_;rotate_left;(intro w';go_simp;with_reducible rfl);rotate_left;(simp only [Act.put,List.setIfInBounds_toArray,List.set_cons_zero,List.set_cons_succ,i64_w,i32_w];rfl)
                refine take_ (i:=6) (N:=some 75) (v:= ?_) (a':= ?_) (bt_ 15 127) rfl rfl (by kernel_rfl) (fun _ _ _ h=>h) (Or.inl ⟨by rfl, ?_⟩) hHeld ?_ ?_;rotate_left;(rintro w' ⟨s0,s1,s2,s3,s4,s5,s6,s7,s8,s9⟩;go_simp;with_reducible rfl);rotate_left;(simp only [Act.put,List.setIfInBounds_toArray,List.set_cons_zero,List.set_cons_succ,i64_w,i32_w];rfl)
                refine take_ (i:=7) (N:=some 76) (v:= ?_) (a':= ?_) (bt_ 15 255) rfl rfl (by kernel_rfl) (fun _ _ _ h=>h) (Or.inl ⟨by rfl, ?_⟩) hHeld ?_ ?_;rotate_left;(rintro w' ⟨s0,s1,s2,s3,s4,s5,s6,s7,s8,s9⟩;go_simp;with_reducible rfl);rotate_left;(simp only [Act.put,List.setIfInBounds_toArray,List.set_cons_zero,List.set_cons_succ,i64_w,i32_w];rfl)
                refine pure_ (i:=10) (N:=some 79) (v:= ?_) (a':= ?_) (bt_ 15 1279) rfl rfl (by kernel_rfl) (fun _ _ _ h=>h) (Or.inl ⟨by rfl, ?_⟩) ?_ ?_;rotate_left;(intro w';go_simp;with_reducible rfl);rotate_left;(simp only [Act.put,List.setIfInBounds_toArray,List.set_cons_zero,List.set_cons_succ,i64_w,i32_w];rfl)
                refine take_ (i:=11) (N:=some 80) (v:= ?_) (a':= ?_) (bt_ 15 3327) rfl rfl (by kernel_rfl) (fun _ _ _ h=>h) (Or.inl ⟨by rfl, ?_⟩) hHeld ?_ ?_;rotate_left;(rintro w' ⟨s0,s1,s2,s3,s4,s5,s6,s7,s8,s9⟩;go_simp;with_reducible rfl);rotate_left;(simp only [Act.put,List.setIfInBounds_toArray,List.set_cons_zero,List.set_cons_succ,i64_w,i32_w];rfl)
                refine one_ (i:=8) (N:=some 77) (bt_ 15 3583) rfl rfl (by kernel_rfl) (by decide) (fun K hK=> ?_)
                obtain ⟨wz,hwz⟩: ∃wz,wz=wd.alloc (.cells #[.int .i64 x.f4.f0, .int .i64 x.f4.f1, .int .i64 x.f4.f2, .int .i64 sb.f0, .int .i64 sb.f1, .int .i64 sb.f2] 27):=⟨_,rfl⟩
                refine value_ (v:= .slice (some ⟨wd.heap.size,0,none⟩) 2 2) (w1:=wz) (by rfl) rfl (by rw [hwz];first|(go_simp;done)|(go_simp;rfl)) ?_
                have hb:Below wd.heap.size wd wz:=by rw [hwz];exact below_alloc (Below.refl _ _) _
                have BKV:=am_ (show wz.heap[wd.heap.size]?=some (.cells #[.int .i64 x.f4.f0, .int .i64 x.f4.f1, .int .i64 x.f4.f2, .int .i64 sb.f0, .int .i64 sb.f1, .int .i64 sb.f2] 27 (0,0)) from by rw [hwz];exact blk_new _ _)
                clear hwz
                refine hK.out _ _ ⟨zh_ hb hHeld.1,zh_ hb hHeld.2.1,zh_ hb hHeld.2.2.1,zh_ hb hHeld.2.2.2.1,zh_ hb hHeld.2.2.2.2.1,zh_ hb hHeld.2.2.2.2.2.1,zh_ hb hHeld.2.2.2.2.2.2.1,zh_ hb hHeld.2.2.2.2.2.2.2.1,zh_ hb hHeld.2.2.2.2.2.2.2.2.1,below_step hHeld.2.2.2.2.2.2.2.2.2 hb⟩ (fun hHeld=> ?_)
                clear hK K hb
                refine norm_ (a':= ?_) ?_ ?_
                rotate_left
                · show Act.put _ (some 77) _ = _
                  simp only [Act.put,List.setIfInBounds_toArray,List.set_cons_zero,List.set_cons_succ,i64_w,i32_w]
                  rfl
                refine one_ (i:=9) (N:=some 78) (bt_ 15 4095) rfl rfl (by kernel_rfl) (by decide) (fun K hK=> ?_)
                refine goes_ Try.func119 (by kernel_rfl) rfl #[.slice (some ⟨wd.heap.size,0,none⟩) 2 2] (by rfl) rfl rfl (by (try simp only [List.map_toArray,List.map_cons,List.map_nil]);rfl) ?_
                refine (vec_Add.calls (some ⟨_,0,none⟩) 2 [x.f4,sb] q1 q2 q3 _ (vec_two_row x.f4 sb BKV.out) (Nat.le_refl _) HQV.out).mono ?_
                rintro e wy ⟨rfl,hb⟩
                refine ⟨_,rfl, ?_⟩
                refine hK.out _ _ ⟨zh_ hb hHeld.1,zh_ hb hHeld.2.1,zh_ hb hHeld.2.2.1,zh_ hb hHeld.2.2.2.1,zh_ hb hHeld.2.2.2.2.1,zh_ hb hHeld.2.2.2.2.2.1,zh_ hb hHeld.2.2.2.2.2.2.1,zh_ hb hHeld.2.2.2.2.2.2.2.1,zh_ hb hHeld.2.2.2.2.2.2.2.2.1,below_step hHeld.2.2.2.2.2.2.2.2.2 hb⟩ (fun hHeld=> ?_)
                clear hK K hb BKV
                refine norm_ (a':= ?_) ?_ ?_
                rotate_left
                · show Act.put _ (some 78) _ = _
                  simp only [Act.put,List.setIfInBounds_toArray,List.set_cons_zero,List.set_cons_succ,i64_w,i32_w]
                  rfl
                refine one_ (i:=12) (N:=some 81) (bt_ 15 8191) rfl rfl (by kernel_rfl) (by decide) (fun K hK=> ?_)
                refine goes_ Try.func118 (by kernel_rfl) rfl #[.agg #[.int .i64 q1, .int .i64 q2, .int .i64 q3], .agg #[.int .i64 x.f2.f0, .int .i64 x.f2.f1, .int .i64 x.f2.f2]] (by rfl) rfl rfl (by (try simp only [List.map_toArray,List.map_cons,List.map_nil]);rfl) ?_
                refine (vec_Le.calls _ _ _ _ _ _ _ _ HLE.out).mono ?_
                rintro e wx ⟨rfl,hb⟩
                refine ⟨_,rfl, ?_⟩
                refine hK.out _ _ ⟨zh_ hb hHeld.1,zh_ hb hHeld.2.1,zh_ hb hHeld.2.2.1,zh_ hb hHeld.2.2.2.1,zh_ hb hHeld.2.2.2.2.1,zh_ hb hHeld.2.2.2.2.2.1,zh_ hb hHeld.2.2.2.2.2.2.1,zh_ hb hHeld.2.2.2.2.2.2.2.1,zh_ hb hHeld.2.2.2.2.2.2.2.2.1,below_step hHeld.2.2.2.2.2.2.2.2.2 hb⟩ (fun hHeld=> ?_)
                clear hK K hb
                refine norm_ (a':= ?_) ?_ ?_
                rotate_left
                · show Act.put _ (some 81) _ = _
                  simp only [Act.put,List.setIfInBounds_toArray,List.set_cons_zero,List.set_cons_succ,i64_w,i32_w]
                  rfl
                refine pure_ (i:=13) (N:=some 82) (v:= ?_) (a':= ?_) (bt_ 15 16383) rfl rfl (by kernel_rfl) (fun _ _ _ h=>h) (Or.inl ⟨by rfl, ?_⟩) ?_ ?_;rotate_left;(intro w';go_simp;with_reducible rfl);rotate_left;(simp only [Act.put,List.setIfInBounds_toArray,List.set_cons_zero,List.set_cons_succ,i64_w,i32_w];rfl)
                refine pure_ (i:=14) (N:=some 83) (v:= ?_) (a':= ?_) (bt_ 15 32767) rfl rfl (by kernel_rfl) (fun _ _ _ h=>h) (Or.inl ⟨by rfl, ?_⟩) ?_ ?_;rotate_left;(intro w';go_simp;with_reducible rfl);rotate_left;(simp only [Act.put,List.setIfInBounds_toArray,List.set_cons_zero,List.set_cons_succ,i64_w,i32_w];rfl)
                refine done_ (by kernel_rfl) ?_
                have hBz:Below wf.heap.size wf wx:=hHeld.2.2.2.2.2.2.2.2.2
                clear hHeld
                have n0_:=am_ (Kd.R_below HO.out hBz);have n1_:=am_ (Kd.R_below HTO.out hBz);have n2_:=am_ (Kd.R_below HFR.out hBz);have n3_:=am_ (blk_below BK2.out hBz);have n4_:=am_ (blk_below BK15.out hBz);have n5_:=am_ (below_step HB.out hBz);clear HO;clear HTO;clear HFR;clear BK2;clear BK15;clear HB;have HO:=n0_;have HTO:=n1_;have HFR:=n2_;have BK2:=n3_;have BK15:=n4_;have HB:=n5_;clear n0_ n1_ n2_ n3_ n4_ n5_
                clear hBz
                have hf4:=HF4.out
                clear HF4
                cases b with
                | true =>
                  rw [if_pos rfl] at hf4
                  have HF4:=Aside0.mk hf4
                  clear hf4
                  go_wp2_with fail
                  go_roundg (ts.length - (i+1))
                  case measure=>omega
                  case rel=>exact ⟨i+1,by omega,by omega,by go_num,HF4,HB,BK2,BK15,HO,HTO,HFR⟩
                | false =>
                  rw [if_neg (by simp)] at hf4
                  cases hf4
                  have h8:=HH.out
                  rw [if_pos rfl] at h8
                  cases h8
                  go_wp2_with fail
                  go_ret2
                  exact ⟨_,rfl,Kd.R_nil _ _ _ _ _,HB.out⟩
            · obtain rfl : i = ts.length := by omega
              have hf:=HFIT.out
              rw [List.drop_length] at hf
              cases hf
              have h8:=HH.out
              clear HH HFIT
              rw [if_neg (by simp)] at h8
              obtain ⟨l3,hs3,h9⟩:=Option.bind_eq_some_iff.1 h8
              obtain ⟨l4,hs4,h10⟩:=Option.bind_eq_some_iff.1 h9
              cases h10
              have HS3:=Aside0.mk hs3
              have HS4:=Aside0.mk hs4
              have cgb2_0:=(blk_cell BK2.out 0).trans rfl
              have cgb2_1:=(blk_cell BK2.out 1).trans rfl
              clear h8 h9 hs3 hs4
              go_wp2_with fail
              refine (shapeShift_calls 145 #[.pointer (some ⟨gb15,0,none⟩)] (mvSub sb) gb15 _ w.heap.size w.heap.size _ l2 l3 j Af cf fs _ (enters_of Try.func145 (by kernel_rfl) rfl) HO.out (below_size HB.out) BK15.out (fun e=>NE15.out (Option.some.inj e)) HFR.out (fun W' u hb=>shMove1_calls W' gb15 sb u hb) HS3.out).mono ?_
              rintro e ws1 ⟨rfl,ho,ht⟩
              clear cgb2_0 cgb2_1
              have n0_:=am_ (R_turned HTO.out HO.out (by decide) ht);have n1_:=am_ (ht.block _ _ BK2.out (fun e=>NE2.out (Option.some.inj e)));have n2_:=am_ (ht.block _ _ BK15.out (fun e=>NE15.out (Option.some.inj e)));have n3_:=am_ (HB.out.trans ht.below);have n4_:=am_ (ho);clear HTO;clear BK2;clear BK15;clear HB;clear HO;have HTO:=n0_;have BK2:=n1_;have BK15:=n2_;have HB:=n3_;have HO:=n4_;clear n0_ n1_ n2_ n3_ n4_
              clear ho ht HFR
              have cgb2_0:=(blk_cell BK2.out 0).trans rfl
              have cgb2_1:=(blk_cell BK2.out 1).trans rfl
              go_wp2_with fail
              refine (shapeShift_calls 146 #[.pointer (some ⟨gb15,0,none⟩)] (mvAdd sb) gb15 _ w.heap.size w.heap.size _ l3 l4 j At ct ts _ (enters_of Try.func146 (by kernel_rfl) rfl) HO.out (below_size HB.out) BK15.out (fun e=>NE15.out (Option.some.inj e)) HTO.out (fun W' u hb=>shMove2_calls W' gb15 sb u hb) HS4.out).mono ?_
              rintro e ws2 ⟨rfl,ho,ht⟩
              clear cgb2_0 cgb2_1
              have n0_:=am_ (ht.block _ _ BK2.out (fun e=>NE2.out (Option.some.inj e)));have n1_:=am_ (HB.out.trans ht.below);have n2_:=am_ (ho);clear BK2;clear HB;clear HO;have BK2:=n0_;have HB:=n1_;have HO:=n2_;clear n0_ n1_ n2_
              clear ho ht HTO BK15
              have cgb2_0:=(blk_cell BK2.out 0).trans rfl
              have cgb2_1:=(blk_cell BK2.out 1).trans rfl
              have hl4:l4.length=out.length:=by rw [shiftF_len _ _ _ _ HS4.out,shiftF_len _ _ _ _ HS3.out,HLEN.out]
              have hcs:=sh_cells' HO.out hl4 j HJ0.out HJ1.out
              generalize hyy:rd_T31 l4 j=yy at hcs
              have HYY:=Aside0.mk hyy
              have HCS:=Aside0.mk hcs
              have HGL:=am_ (show gb<ws2.heap.size from Kd.R_lt HO.out gb rfl)
              have HL4:=Aside0.mk hl4
              clear hcs hl4 hyy
              go_wp2_with fail
              refine (shapeItem_calls _ ⟨gb,0,none⟩ out.length c5 j HJ0.out HJ1.out).mono ?_
              rintro e ws3 ⟨rfl,hb⟩
              clear cgb2_0 cgb2_1
              have HCS1:=am_ (fun j' u hu=>(hb.cell (p:=⟨gb,j.toNat*12+j',none⟩) HGL.out).trans (HCS.out j' u hu))
              have n0_:=am_ (Kd.R_below HO.out hb);have n1_:=am_ (blk_below BK2.out hb);have n2_:=am_ (below_step HB.out hb);clear HO;clear BK2;clear HB;have HO:=n0_;have BK2:=n1_;have HB:=n2_;clear n0_ n1_ n2_
              clear hb HCS HGL
              have cgb2_0:=(blk_cell BK2.out 0).trans rfl
              have cgb2_1:=(blk_cell BK2.out 1).trans rfl
              go_wp2_with ((with_reducible refine gate_store (t:=9) (p:=97) (v:= .tmp 95) rfl ?_);refine Kd.R_store k31 (w0:=ws3) w.heap.size rfl rfl 9 (.tmp 97) (.tmp 95) rfl 31 (g:=gb) (n:=out.length) (cap:=c5) (o':=j.toNat*12+1) j 1 l4 (parF a2 yy) (.string a2) [.string a2] (shCells yy) (fun _=>True) (fun _=>False) rfl rfl rfl rfl ?ct ?c1 HO.out ?c2 ?c3 rfl HCS1.out (by show 1+1≤12;omega) ?cM (fun _ h=>h.elim) (Below.refl _ _) ?_;(case ct=>kernel_rfl);(case c1=>intro q hq;simp only [List.mem_cons,List.not_mem_nil,or_false] at hq;rcases hq with rfl;rfl);(case c2=>exact HJ0.out);(case c3=>exact HJ1.out);(case cM=>exact k31_mkM _ _ _ (parF a2 yy));intro ws4 ho hb hg;have HO9:=Aside0.mk ho;have HB9:=am_ (below_put HB.out (below_size HB.out) hg HGB.out);have BK9:=am_ (blk_put_other BK2.out hg NE2.out);clear cgb2_0 cgb2_1;have cgb2_0:=(blk_cell BK9.out 0).trans rfl;have cgb2_1:=(blk_cell BK9.out 1).trans rfl;clear ho hb hg)
              go_ret2
              refine ⟨_,rfl, ?_,HB9.out⟩
              show Kd.R k31 31 _ _ _ _ (l4.set j.toNat (parF a2 (rd_T31 l4 j)))
              rw [HYY.out]
              exact HO9.out
        · rw [if_pos c2] at h6
          cases h6
          have q2:(r2==0)=false:=by simpa using c2
          go_wp2_with fail
          go_ret2
          exact ⟨_,rfl,Kd.R_nil _ _ _ _ _,HB.out⟩
  · rw [if_pos c1] at h2
    cases h2
    have q1:(r2==0)=false:=by simpa using c1
    go_wp2_with fail
    go_ret2
    exact ⟨_,rfl,Kd.R_nil _ _ _ _ _,HB.out⟩


end Go.Proofs.Ytcgefpklljclgaa.Print

namespace Go.Proofs.Ytcgefpklljclgaa.Print
open Go.RowKit Go.Proofs.YtcgefpklljclgaaW.PrintWords Go.Proofs.YtcgefpklljclgaaW.PrintLast Go.Proofs.YtcgefpklljclgaaW.PrintMore
attribute [local go_sem] max2_int min2_int max_two min_two max_three min_three max_four min_four   -- for this text's walks alone
set_option linter.unusedVariables false
set_option linter.unusedSimpArgs false

/-! ### shape_Do: function 89 -/
def shape_Do.f (k:Nat) (l0:List (S31)) (a1_0:Int) (a1_1:ByteArray) (a1_2:ByteArray) (a1_3:Int) (a1_4:Int) (a1_5:Int) (a2:Int):Option ((List (S31))×Int):=if a1_0=1 then ((shape_Create.f l0 a1_1 a1_2 a1_3 a1_4 a1_5).bind fun bt2=>(some (bt2.1,bt2.2))) else (if a1_0=2 then ((shape_Limit.f l0 a1_1 a1_3 a1_4 a1_5 a2).bind fun bt6=>(some (bt6.1,bt6.2))) else (if a1_0=3 then ((shape_Move.f k l0 a1_1 a1_2 a2).bind fun bt10=>(some (bt10.1,bt10.2))) else (if a1_0=4 then ((shape_Delete.f k l0 a1_1 a2).bind fun bt14=>(some (bt14.1,bt14.2))) else (some (([]:List (S31)),1)))))
theorem shape_Do.mono: ∀a0 a1 a2 a3 a4 a5 a6 a7 k,LeO (shape_Do.f k a0 a1 a2 a3 a4 a5 a6 a7) (shape_Do.f (k+1) a0 a1 a2 a3 a4 a5 a6 a7):=by
 intro a0 a1 a2 a3 a4 a5 a6 a7 k
 unfold shape_Do.f
 repeat' first
  |(with_reducible exact shape_Delete.mono _ _ _ _)
  |(with_reducible exact shape_Move.mono _ _ _ _ _)
  |(with_reducible exact LeO.refl _)
  |(with_reducible exact LeO.none _)
  |(with_reducible refine LeO.ite ?_ ?_)
  |(with_reducible refine LeO.bind ?_ (fun _=> ?_))
  |exact shape_Delete.mono _ _ _ _
  |exact shape_Move.mono _ _ _ _ _
  |exact LeO.none _
  |refine LeO.ite ?_ ?_
  |refine LeO.bind ?_ (fun _=> ?_)
set_option maxHeartbeats 8000000 in
set_option maxRecDepth 100000 in
theorem shape_Do.calls (k:Nat) (A0:Option Addr) (c0:Nat) (l0:List (S31)) (a1_0:Int) (a1_1:ByteArray) (a1_2:ByteArray) (a1_3:Int) (a1_4:Int) (a1_5:Int) (a2:Int) (r1:List (S31)) (r2:Int) (w:World) (hr0:Kd.C k31 w A0 l0.length l0) (hc0:l0.length≤c0) (h:shape_Do.f k l0 a1_0 a1_1 a1_2 a1_3 a1_4 a1_5 a2=some (r1,r2)):
  Calls Try.prog 89 #[.slice A0 l0.length c0, .agg #[.int .i64 a1_0, .string a1_1, .string a1_2, .int .i64 a1_3, .int .i64 a1_4, .int .i64 a1_5], .int .i64 a2] w fun e w'=> ∃v0_:Value,e= .returned (.tuple #[v0_, .int .i64 r2])∧Kd.R k31 31 w' w.heap.size (fun _=>True) v0_ r1∧Below w.heap.size w w':=by
 have hu58:=Try.underlying58
 have hu27:=Try.underlying27
 have HR0:=Aside0.mk hr0
 have HC0:=Aside0.mk hc0
 clear hr0 hc0
 have HB:=am_ (Below.refl w.heap.size w)
 have H:(if a1_0=1 then ((shape_Create.f l0 a1_1 a1_2 a1_3 a1_4 a1_5).bind fun bt2=>(some (bt2.1,bt2.2))) else (if a1_0=2 then ((shape_Limit.f l0 a1_1 a1_3 a1_4 a1_5 a2).bind fun bt6=>(some (bt6.1,bt6.2))) else (if a1_0=3 then ((shape_Move.f k l0 a1_1 a1_2 a2).bind fun bt10=>(some (bt10.1,bt10.2))) else (if a1_0=4 then ((shape_Delete.f k l0 a1_1 a2).bind fun bt14=>(some (bt14.1,bt14.2))) else (some (([]:List (S31)),1))))))=some (r1,r2):=h
 clear h
 by_cases c4:a1_0=1
 ·rw [if_pos c4] at H
  have c4b0:(a1_0==1)=true:=beq_iff_eq.mpr c4
  have c4b1:(a1_0 !=1)=false:=bne_eq_false_iff_eq.mpr c4
  clear c4
  replace H:=Option.bind_eq_some_iff.mp H
  obtain ⟨⟨t2,t5⟩,A50,H⟩:=H
  replace H:(some (t2,t5))=some (r1,r2):=H
  have A5:=Aside0.mk A50
  clear A50
  simp only [Option.some.injEq,Prod.mk.injEq] at H
  obtain ⟨rfl,rfl⟩:=H
  go_enter Try.func89,Try.ntmps89
  go_wp2_with (first|((with_reducible refine gate_dst (N:=4) rfl ?_);refine box_event ?hg (N:=4) ?hd (cs:=#[.int .i64 a1_0, .string a1_1, .string a1_2, .int .i64 a1_3, .int .i64 a1_4, .int .i64 a1_5]) (t:=58) ?hr ?_;(case hd=>rfl);(case hg=>rfl);(case hr=>first|(go_simp;done)|(go_simp;rfl));intro gb1 hg w6 hbox hb;have n0_:=am_ (below_step (zl0_ HB) hb);have n1_:=am_ (hbox);have n2_:=am_ ((zg0_ HB hg:w.heap.size≤gb1));have n3_:=am_ ((zg0_ HB hg:w.heap.size≤gb1));clear HB;have HB:=n0_;have BK1:=n1_;have GW1:=n2_;have GE1:=n3_;clear n0_ n1_ n2_ n3_;clear hb hbox hg;have hcz7_0:w6.cell? ⟨gb1,0,none⟩=some (.int .i64 a1_0):=(blk_cell BK1.out 0).trans rfl;have hcz7_1:w6.cell? ⟨gb1,1,none⟩=some (.string a1_1):=(blk_cell BK1.out 1).trans rfl;have hcz7_2:w6.cell? ⟨gb1,2,none⟩=some (.string a1_2):=(blk_cell BK1.out 2).trans rfl;have hcz7_3:w6.cell? ⟨gb1,3,none⟩=some (.int .i64 a1_3):=(blk_cell BK1.out 3).trans rfl;have hcz7_4:w6.cell? ⟨gb1,4,none⟩=some (.int .i64 a1_4):=(blk_cell BK1.out 4).trans rfl;have hcz7_5:w6.cell? ⟨gb1,5,none⟩=some (.int .i64 a1_5):=(blk_cell BK1.out 5).trans rfl;have hfz7_0:=blk_frozen BK1.out 0;have hfz7_1:=blk_frozen BK1.out 1;have hfz7_2:=blk_frozen BK1.out 2;have hfz7_3:=blk_frozen BK1.out 3;have hfz7_4:=blk_frozen BK1.out 4;have hfz7_5:=blk_frozen BK1.out 5)|((with_reducible refine gate_callee (f:=84) rfl ?_);refine goesL_ (some 19) rfl rfl Try.func84 (by kernel_rfl) rfl #[.slice A0 l0.length c0, .string a1_1, .string a1_2, .agg #[.int .i64 a1_3, .int .i64 a1_4, .int .i64 a1_5]] rfl zs_ ?_;(with_reducible refine (shape_Create.calls _ _ l0 a1_1 a1_2 a1_3 a1_4 a1_5 t2 t5 _ ?side1 ?side2 A5.out).mono ?_);(case side1=>exact zc_ (Kd.C_below HR0.out HB.out));(case side2=>exact HC0.out);rintro e w8 ⟨v3,rfl,ho0,hb⟩;refine ⟨_,rfl, ?_⟩;have n0_:=am_ (Kd.R_lower ho0 (below_size (zl1_ HB GE1)));have n1_:=am_ (blk_below (zb_ BK1) hb);have n2_:=am_ (below_step (zl1_ HB GE1) hb);clear BK1;clear HB;have HO4:=n0_;have BK1:=n1_;have HB:=n2_;clear n0_ n1_ n2_;(try clear hb);(try clear hb2);(try clear hk);(try clear hi);(try clear ho0)))
  go_ret2
  exact ⟨_,by first|rfl|(simp [errW_none,errW_some]<;>rfl)|(simp [*,errW_none,errW_some]<;>rfl),by (with_reducible repeat (first|apply Kd.R_alloc|apply Kd.R_drewN|apply Kd.R_drew));exact HO4.out,zl1_ HB GE1⟩
 ·rw [if_neg c4] at H
  have c4b0:(a1_0==1)=false:=beq_eq_false_iff_ne.mpr c4
  have c4b1:(a1_0 !=1)=true:=bne_iff_ne.mpr c4
  by_cases c9:a1_0=2
  ·rw [if_pos c9] at H
   have c9b0:(a1_0==2)=true:=beq_iff_eq.mpr c9
   have c9b1:(a1_0 !=2)=false:=bne_eq_false_iff_eq.mpr c9
   clear c9
   replace H:=Option.bind_eq_some_iff.mp H
   obtain ⟨⟨t6,t9⟩,A100,H⟩:=H
   replace H:(some (t6,t9))=some (r1,r2):=H
   have A10:=Aside0.mk A100
   clear A100
   simp only [Option.some.injEq,Prod.mk.injEq] at H
   obtain ⟨rfl,rfl⟩:=H
   go_enter Try.func89,Try.ntmps89
   go_wp2_with (first|((with_reducible refine gate_dst (N:=4) rfl ?_);refine box_event ?hg (N:=4) ?hd (cs:=#[.int .i64 a1_0, .string a1_1, .string a1_2, .int .i64 a1_3, .int .i64 a1_4, .int .i64 a1_5]) (t:=58) ?hr ?_;(case hd=>rfl);(case hg=>rfl);(case hr=>first|(go_simp;done)|(go_simp;rfl));intro gb1 hg w11 hbox hb;have n0_:=am_ (below_step (zl0_ HB) hb);have n1_:=am_ (hbox);have n2_:=am_ ((zg0_ HB hg:w.heap.size≤gb1));have n3_:=am_ ((zg0_ HB hg:w.heap.size≤gb1));clear HB;have HB:=n0_;have BK1:=n1_;have GW1:=n2_;have GE1:=n3_;clear n0_ n1_ n2_ n3_;clear hb hbox hg;have hcz12_0:w11.cell? ⟨gb1,0,none⟩=some (.int .i64 a1_0):=(blk_cell BK1.out 0).trans rfl;have hcz12_1:w11.cell? ⟨gb1,1,none⟩=some (.string a1_1):=(blk_cell BK1.out 1).trans rfl;have hcz12_2:w11.cell? ⟨gb1,2,none⟩=some (.string a1_2):=(blk_cell BK1.out 2).trans rfl;have hcz12_3:w11.cell? ⟨gb1,3,none⟩=some (.int .i64 a1_3):=(blk_cell BK1.out 3).trans rfl;have hcz12_4:w11.cell? ⟨gb1,4,none⟩=some (.int .i64 a1_4):=(blk_cell BK1.out 4).trans rfl;have hcz12_5:w11.cell? ⟨gb1,5,none⟩=some (.int .i64 a1_5):=(blk_cell BK1.out 5).trans rfl;have hfz12_0:=blk_frozen BK1.out 0;have hfz12_1:=blk_frozen BK1.out 1;have hfz12_2:=blk_frozen BK1.out 2;have hfz12_3:=blk_frozen BK1.out 3;have hfz12_4:=blk_frozen BK1.out 4;have hfz12_5:=blk_frozen BK1.out 5)|((with_reducible refine gate_callee (f:=87) rfl ?_);refine goesL_ (some 30) rfl rfl Try.func87 (by kernel_rfl) rfl #[.slice A0 l0.length c0, .string a1_1, .agg #[.int .i64 a1_3, .int .i64 a1_4, .int .i64 a1_5], .int .i64 a2] rfl zs_ ?_;(with_reducible refine (shape_Limit.calls _ _ l0 a1_1 a1_3 a1_4 a1_5 a2 t6 t9 _ ?side1 ?side2 A10.out).mono ?_);(case side1=>exact zc_ (Kd.C_below HR0.out HB.out));(case side2=>exact HC0.out);rintro e w13 ⟨v7,rfl,ho0,hb⟩;refine ⟨_,rfl, ?_⟩;have n0_:=am_ (Kd.R_lower ho0 (below_size (zl1_ HB GE1)));have n1_:=am_ (blk_below (zb_ BK1) hb);have n2_:=am_ (below_step (zl1_ HB GE1) hb);clear BK1;clear HB;have HO8:=n0_;have BK1:=n1_;have HB:=n2_;clear n0_ n1_ n2_;(try clear hb);(try clear hb2);(try clear hk);(try clear hi);(try clear ho0)))
   go_ret2
   exact ⟨_,by first|rfl|(simp [errW_none,errW_some]<;>rfl)|(simp [*,errW_none,errW_some]<;>rfl),by (with_reducible repeat (first|apply Kd.R_alloc|apply Kd.R_drewN|apply Kd.R_drew));exact HO8.out,zl1_ HB GE1⟩
  ·rw [if_neg c9] at H
   have c9b0:(a1_0==2)=false:=beq_eq_false_iff_ne.mpr c9
   have c9b1:(a1_0 !=2)=true:=bne_iff_ne.mpr c9
   by_cases c14:a1_0=3
   ·rw [if_pos c14] at H
    have c14b0:(a1_0==3)=true:=beq_iff_eq.mpr c14
    have c14b1:(a1_0 !=3)=false:=bne_eq_false_iff_eq.mpr c14
    clear c14
    replace H:=Option.bind_eq_some_iff.mp H
    obtain ⟨⟨t10,t11⟩,A150,H⟩:=H
    replace H:(some (t10,t11))=some (r1,r2):=H
    have A15:=Aside0.mk A150
    clear A150
    simp only [Option.some.injEq,Prod.mk.injEq] at H
    obtain ⟨rfl,rfl⟩:=H
    go_enter Try.func89,Try.ntmps89
    go_wp2_with (first|((with_reducible refine gate_dst (N:=4) rfl ?_);refine box_event ?hg (N:=4) ?hd (cs:=#[.int .i64 a1_0, .string a1_1, .string a1_2, .int .i64 a1_3, .int .i64 a1_4, .int .i64 a1_5]) (t:=58) ?hr ?_;(case hd=>rfl);(case hg=>rfl);(case hr=>first|(go_simp;done)|(go_simp;rfl));intro gb1 hg w16 hbox hb;have n0_:=am_ (below_step (zl0_ HB) hb);have n1_:=am_ (hbox);have n2_:=am_ ((zg0_ HB hg:w.heap.size≤gb1));have n3_:=am_ ((zg0_ HB hg:w.heap.size≤gb1));clear HB;have HB:=n0_;have BK1:=n1_;have GW1:=n2_;have GE1:=n3_;clear n0_ n1_ n2_ n3_;clear hb hbox hg;have hcz17_0:w16.cell? ⟨gb1,0,none⟩=some (.int .i64 a1_0):=(blk_cell BK1.out 0).trans rfl;have hcz17_1:w16.cell? ⟨gb1,1,none⟩=some (.string a1_1):=(blk_cell BK1.out 1).trans rfl;have hcz17_2:w16.cell? ⟨gb1,2,none⟩=some (.string a1_2):=(blk_cell BK1.out 2).trans rfl;have hcz17_3:w16.cell? ⟨gb1,3,none⟩=some (.int .i64 a1_3):=(blk_cell BK1.out 3).trans rfl;have hcz17_4:w16.cell? ⟨gb1,4,none⟩=some (.int .i64 a1_4):=(blk_cell BK1.out 4).trans rfl;have hcz17_5:w16.cell? ⟨gb1,5,none⟩=some (.int .i64 a1_5):=(blk_cell BK1.out 5).trans rfl;have hfz17_0:=blk_frozen BK1.out 0;have hfz17_1:=blk_frozen BK1.out 1;have hfz17_2:=blk_frozen BK1.out 2;have hfz17_3:=blk_frozen BK1.out 3;have hfz17_4:=blk_frozen BK1.out 4;have hfz17_5:=blk_frozen BK1.out 5)|((with_reducible refine gate_callee (f:=88) rfl ?_);refine goesL_ (some 41) rfl rfl Try.func88 (by kernel_rfl) rfl #[.slice A0 l0.length c0, .string a1_1, .string a1_2, .int .i64 a2] rfl zs_ ?_;(with_reducible refine (shape_Move.calls k _ _ l0 a1_1 a1_2 a2 t10 t11 _ ?side1 ?side2 A15.out).mono ?_);(case side1=>exact zc_ (Kd.C_below HR0.out HB.out));(case side2=>exact HC0.out);rintro e w18 ⟨v12,rfl,ho0,hb⟩;refine ⟨_,rfl, ?_⟩;have n0_:=am_ (Kd.R_lower ho0 (below_size (zl1_ HB GE1)));have n1_:=am_ (blk_below (zb_ BK1) hb);have n2_:=am_ (below_step (zl1_ HB GE1) hb);clear BK1;clear HB;have HO13:=n0_;have BK1:=n1_;have HB:=n2_;clear n0_ n1_ n2_;(try clear hb);(try clear hb2);(try clear hk);(try clear hi);(try clear ho0)))
    go_ret2
    exact ⟨_,by first|rfl|(simp [errW_none,errW_some]<;>rfl)|(simp [*,errW_none,errW_some]<;>rfl),by (with_reducible repeat (first|apply Kd.R_alloc|apply Kd.R_drewN|apply Kd.R_drew));exact HO13.out,zl1_ HB GE1⟩
   ·rw [if_neg c14] at H
    have c14b0:(a1_0==3)=false:=beq_eq_false_iff_ne.mpr c14
    have c14b1:(a1_0 !=3)=true:=bne_iff_ne.mpr c14
    by_cases c19:a1_0=4
    ·rw [if_pos c19] at H
     have c19b0:(a1_0==4)=true:=beq_iff_eq.mpr c19
     have c19b1:(a1_0 !=4)=false:=bne_eq_false_iff_eq.mpr c19
     clear c19
     replace H:=Option.bind_eq_some_iff.mp H
     obtain ⟨⟨t14,t15⟩,A200,H⟩:=H
     replace H:(some (t14,t15))=some (r1,r2):=H
     have A20:=Aside0.mk A200
     clear A200
     simp only [Option.some.injEq,Prod.mk.injEq] at H
     obtain ⟨rfl,rfl⟩:=H
     go_enter Try.func89,Try.ntmps89
     go_wp2_with (first|((with_reducible refine gate_dst (N:=4) rfl ?_);refine box_event ?hg (N:=4) ?hd (cs:=#[.int .i64 a1_0, .string a1_1, .string a1_2, .int .i64 a1_3, .int .i64 a1_4, .int .i64 a1_5]) (t:=58) ?hr ?_;(case hd=>rfl);(case hg=>rfl);(case hr=>first|(go_simp;done)|(go_simp;rfl));intro gb1 hg w21 hbox hb;have n0_:=am_ (below_step (zl0_ HB) hb);have n1_:=am_ (hbox);have n2_:=am_ ((zg0_ HB hg:w.heap.size≤gb1));have n3_:=am_ ((zg0_ HB hg:w.heap.size≤gb1));clear HB;have HB:=n0_;have BK1:=n1_;have GW1:=n2_;have GE1:=n3_;clear n0_ n1_ n2_ n3_;clear hb hbox hg;have hcz22_0:w21.cell? ⟨gb1,0,none⟩=some (.int .i64 a1_0):=(blk_cell BK1.out 0).trans rfl;have hcz22_1:w21.cell? ⟨gb1,1,none⟩=some (.string a1_1):=(blk_cell BK1.out 1).trans rfl;have hcz22_2:w21.cell? ⟨gb1,2,none⟩=some (.string a1_2):=(blk_cell BK1.out 2).trans rfl;have hcz22_3:w21.cell? ⟨gb1,3,none⟩=some (.int .i64 a1_3):=(blk_cell BK1.out 3).trans rfl;have hcz22_4:w21.cell? ⟨gb1,4,none⟩=some (.int .i64 a1_4):=(blk_cell BK1.out 4).trans rfl;have hcz22_5:w21.cell? ⟨gb1,5,none⟩=some (.int .i64 a1_5):=(blk_cell BK1.out 5).trans rfl;have hfz22_0:=blk_frozen BK1.out 0;have hfz22_1:=blk_frozen BK1.out 1;have hfz22_2:=blk_frozen BK1.out 2;have hfz22_3:=blk_frozen BK1.out 3;have hfz22_4:=blk_frozen BK1.out 4;have hfz22_5:=blk_frozen BK1.out 5)|((with_reducible refine gate_callee (f:=86) rfl ?_);refine goesL_ (some 50) rfl rfl Try.func86 (by kernel_rfl) rfl #[.slice A0 l0.length c0, .string a1_1, .int .i64 a2] rfl zs_ ?_;(with_reducible refine (shape_Delete.calls k _ _ l0 a1_1 a2 t14 t15 _ ?side1 ?side2 A20.out).mono ?_);(case side1=>exact zc_ (Kd.C_below HR0.out HB.out));(case side2=>exact HC0.out);rintro e w23 ⟨v16,rfl,ho0,hb⟩;refine ⟨_,rfl, ?_⟩;have n0_:=am_ (Kd.R_lower ho0 (below_size (zl1_ HB GE1)));have n1_:=am_ (blk_below (zb_ BK1) hb);have n2_:=am_ (below_step (zl1_ HB GE1) hb);clear BK1;clear HB;have HO17:=n0_;have BK1:=n1_;have HB:=n2_;clear n0_ n1_ n2_;(try clear hb);(try clear hb2);(try clear hk);(try clear hi);(try clear ho0)))
     go_ret2
     exact ⟨_,by first|rfl|(simp [errW_none,errW_some]<;>rfl)|(simp [*,errW_none,errW_some]<;>rfl),by (with_reducible repeat (first|apply Kd.R_alloc|apply Kd.R_drewN|apply Kd.R_drew));exact HO17.out,zl1_ HB GE1⟩
    ·rw [if_neg c19] at H
     have c19b0:(a1_0==4)=false:=beq_eq_false_iff_ne.mpr c19
     have c19b1:(a1_0 !=4)=true:=bne_iff_ne.mpr c19
     simp only [Option.some.injEq,Prod.mk.injEq] at H
     obtain ⟨rfl,rfl⟩:=H
     go_enter Try.func89,Try.ntmps89
     go_wp2_with ((with_reducible refine gate_dst (N:=4) rfl ?_);refine box_event ?hg (N:=4) ?hd (cs:=#[.int .i64 a1_0, .string a1_1, .string a1_2, .int .i64 a1_3, .int .i64 a1_4, .int .i64 a1_5]) (t:=58) ?hr ?_;(case hd=>rfl);(case hg=>rfl);(case hr=>first|(go_simp;done)|(go_simp;rfl));intro gb1 hg w24 hbox hb;have n0_:=am_ (below_step (zl0_ HB) hb);have n1_:=am_ (hbox);have n2_:=am_ ((zg0_ HB hg:w.heap.size≤gb1));have n3_:=am_ ((zg0_ HB hg:w.heap.size≤gb1));clear HB;have HB:=n0_;have BK1:=n1_;have GW1:=n2_;have GE1:=n3_;clear n0_ n1_ n2_ n3_;clear hb hbox hg;have hcz25_0:w24.cell? ⟨gb1,0,none⟩=some (.int .i64 a1_0):=(blk_cell BK1.out 0).trans rfl;have hcz25_1:w24.cell? ⟨gb1,1,none⟩=some (.string a1_1):=(blk_cell BK1.out 1).trans rfl;have hcz25_2:w24.cell? ⟨gb1,2,none⟩=some (.string a1_2):=(blk_cell BK1.out 2).trans rfl;have hcz25_3:w24.cell? ⟨gb1,3,none⟩=some (.int .i64 a1_3):=(blk_cell BK1.out 3).trans rfl;have hcz25_4:w24.cell? ⟨gb1,4,none⟩=some (.int .i64 a1_4):=(blk_cell BK1.out 4).trans rfl;have hcz25_5:w24.cell? ⟨gb1,5,none⟩=some (.int .i64 a1_5):=(blk_cell BK1.out 5).trans rfl;have hfz25_0:=blk_frozen BK1.out 0;have hfz25_1:=blk_frozen BK1.out 1;have hfz25_2:=blk_frozen BK1.out 2;have hfz25_3:=blk_frozen BK1.out 3;have hfz25_4:=blk_frozen BK1.out 4;have hfz25_5:=blk_frozen BK1.out 5)
     go_ret2
     exact ⟨_,by first|rfl|(simp [errW_none,errW_some]<;>rfl)|(simp [*,errW_none,errW_some]<;>rfl),by first|exact Kd.R_nil _ _ _ _ _|exact Kd.N_nil _ _ _ _ _|exact Kd.V_nil _ _ _ _ _|exact Kd.Q_nil _ _ _ _ _|exact Kd.S_nil _ _ _ _ _,zl1_ HB GE1⟩

end Go.Proofs.Ytcgefpklljclgaa.Print

namespace Go.Proofs.Ytcgefpklljclgaa.Print
open Go.RowKit Go.Proofs.YtcgefpklljclgaaW.PrintWords Go.Proofs.YtcgefpklljclgaaW.PrintLast Go.Proofs.YtcgefpklljclgaaW.PrintMore
attribute [local go_sem] max2_int min2_int max_two min_two max_three min_three max_four min_four   -- for this text's walks alone
set_option linter.unusedVariables false
set_option linter.unusedSimpArgs false

mutual
def law12_Great.l0:Nat→List (S31)→Int→Option (Bool)
 |0,_,_=>none
 |k+1,x0,x3=>if x3<(x0.length:Int) then (law12_Great.j1 k x0 x3 (decide (x3<150))) else (law12_Great.j1 k x0 x3 false)
def law12_Great.j1:Nat→List (S31)→Int→Bool→Option (Bool)
 |0,_,_,_=>none
 |k+1,x0,x3,x11=>if x11=true then (if 0≤x3 then (if x3<(x0.length:Int) then (if (((rd_T31 x0 x3).f0).size:Int)>100 then (some true) else (if (((rd_T31 x0 x3).f1).size:Int)>100 then (some true) else (law12_Great.l0 k x0 (wrap64 (x3+1))))) else (none)) else (none)) else (some (decide ((x0.length:Int)>130)))
end
def law12_Great.f (k:Nat) (l0:List (S31)):Option (Bool):=law12_Great.l0 k l0 0
theorem law12_Great.mono_l: ∀k,(∀y0 y1,LeO (law12_Great.l0 k y0 y1) (law12_Great.l0 (k+1) y0 y1))∧(∀y0 y1 y2,LeO (law12_Great.j1 k y0 y1 y2) (law12_Great.j1 (k+1) y0 y1 y2))
 |0=>⟨fun _ _ r h=>by simp [law12_Great.l0] at h,fun _ _ _ r h=>by simp [law12_Great.j1] at h⟩
 |k+1=>by
  obtain ⟨ih0,ih1⟩:=law12_Great.mono_l k
  refine ⟨?_, ?_⟩
  ·intro y0 y1
   unfold law12_Great.l0
   repeat' first
   |(with_reducible exact ih0 _ _)
   |(with_reducible exact ih1 _ _ _)
   |(with_reducible exact LeO.refl _)
   |(with_reducible exact LeO.none _)
   |(with_reducible refine LeO.ite ?_ ?_)
   |(with_reducible refine LeO.bind ?_ (fun _=> ?_))
   |exact ih0 _ _
   |exact ih1 _ _ _
   |exact LeO.none _
   |refine LeO.ite ?_ ?_
   |refine LeO.bind ?_ (fun _=> ?_)
  ·intro y0 y1 y2
   unfold law12_Great.j1
   repeat' first
   |(with_reducible exact ih0 _ _)
   |(with_reducible exact ih1 _ _ _)
   |(with_reducible exact LeO.refl _)
   |(with_reducible exact LeO.none _)
   |(with_reducible refine LeO.ite ?_ ?_)
   |(with_reducible refine LeO.bind ?_ (fun _=> ?_))
   |exact ih0 _ _
   |exact ih1 _ _ _
   |exact LeO.none _
   |refine LeO.ite ?_ ?_
   |refine LeO.bind ?_ (fun _=> ?_)
theorem law12_Great.mono: ∀a0 k,LeO (law12_Great.f k a0) (law12_Great.f (k+1) a0):=by
 intro a0 k
 obtain ⟨ih0,ih1⟩:=law12_Great.mono_l k
 unfold law12_Great.f
 repeat' first
  |(with_reducible exact ih0 _ _)
  |(with_reducible exact ih1 _ _ _)
  |(with_reducible exact LeO.refl _)
  |(with_reducible exact LeO.none _)
  |(with_reducible refine LeO.ite ?_ ?_)
  |(with_reducible refine LeO.bind ?_ (fun _=> ?_))
  |exact ih0 _ _
  |exact ih1 _ _ _
  |exact LeO.none _
  |refine LeO.ite ?_ ?_
  |refine LeO.bind ?_ (fun _=> ?_)
set_option maxHeartbeats 8000000 in
set_option maxRecDepth 100000 in
theorem law12_Great.calls (k:Nat) (A0:Option Addr) (c0:Nat) (l0:List (S31)) (r:Bool) (w:World) (hr0:Kd.C k31 w A0 l0.length l0) (hc0:l0.length≤c0) (h:law12_Great.f k l0=some r):
  Calls Try.prog 36 #[.slice A0 l0.length c0] w fun e w'=>e= .returned (.bool r)∧Drawn0 w w':=by
 have HR0:=Aside0.mk hr0
 have HC0:=Aside0.mk hc0
 clear hr0 hc0
 have H:(law12_Great.l0 k l0 0)=some r:=h
 clear h
 have H':=Aside0.mk H
 clear H
 go_enter Try.func36,Try.ntmps36
 go_wp2
 go_loopg [3] k (fun kq v3 w'=> ∃(x3_1:Int),v3= .int .i64 x3_1∧Aside0 (law12_Great.l0 kq l0 x3_1=some r)∧Aside0 (kq≤k)∧Drawn0 w w')
 case atStart=>exact ⟨(0),(by first|rfl|(simp;done)|(simp [*];done)),H',⟨Nat.le_refl _⟩,by repeat (first|exact Drawn0.refl _|apply Drawn0.step)⟩
 case round=>
  clear H'
  obtain ⟨x3_1,rfl,HA,HK1,⟨m1,rfl⟩⟩:=hrel
  cases gk with
  |zero=>exact absurd HA.out (by simp [law12_Great.l0])
  |succ k1=>
   have H:=HA.out
   clear HA
   simp only [law12_Great.l0] at H
   have HC2:=Aside0.mk H
   clear H
   go_upto_region 2 with (fail)
   go_cut [11] (fun v11 wc=> ∃(kq:Nat) (x11_1:Bool),v11= .bool x11_1∧Aside0 (law12_Great.j1 kq l0 x3_1 x11_1=some r)∧Aside0 (kq≤k1)∧Drawn0 w wc)
   case first=>
    have H:=HC2.out
    clear HC2
    by_cases c3:x3_1<(l0.length:Int)
    ·rw [if_pos c3] at H
     have c3b0:decide (x3_1<(l0.length:Int))=true:=decide_eq_true c3
     clear c3
     (first|rw [c3b0]|(simp only [i64_w,i32_w];rw [c3b0])|skip)
     have H':=Aside0.mk H
     clear H
     go_wp2
     go_meet
     case rel=>exact ⟨_,(decide (x3_1<150)),(by first|rfl|(simp;done)|(simp [*];done)),H',⟨by have:=HK1.out;first|omega|exact Nat.le_refl _⟩,by repeat (first|exact Drawn0.refl _|apply Drawn0.step)⟩
    ·rw [if_neg c3] at H
     have c3b0:decide (x3_1<(l0.length:Int))=false:=decide_eq_false c3
     clear c3
     (first|rw [c3b0]|(simp only [i64_w,i32_w];rw [c3b0])|skip)
     have H':=Aside0.mk H
     clear H
     go_wp2
     go_meet
     case rel=>exact ⟨_,(false),(by first|rfl|(simp;done)|(simp [*];done)),H',⟨by have:=HK1.out;first|omega|exact Nat.le_refl _⟩,by repeat (first|exact Drawn0.refl _|apply Drawn0.step)⟩
   case rest=>
    clear HC2
    try clear p2
    try clear c3
    try clear c3b0
    obtain ⟨kq,x11_1,rfl,HA,HJ1,⟨mc1,rfl⟩⟩:=hcut
    cases kq with
    |zero=>exact absurd HA.out (by simp [law12_Great.j1])
    |succ kj1=>
     have H:=HA.out
     clear HA
     simp only [law12_Great.j1] at H
     by_cases c4:x11_1=true
     ·subst c4
      have H1:(if 0≤x3_1 then (if x3_1<(l0.length:Int) then (if (((rd_T31 l0 x3_1).f0).size:Int)>100 then (some true) else (if (((rd_T31 l0 x3_1).f1).size:Int)>100 then (some true) else (law12_Great.l0 kj1 l0 (wrap64 (x3_1+1))))) else (none)) else (none))=some r:=by rw [if_pos rfl] at H;exact H
      clear H
      have H:=H1
      clear H1
      by_cases c5:0≤x3_1
      ·rw [if_pos c5] at H
       have c5b0:decide (0≤x3_1)=true:=decide_eq_true c5
       clear c5
       by_cases c6:x3_1<(l0.length:Int)
       ·rw [if_pos c6] at H
        have c6b0:decide (x3_1<(l0.length:Int))=true:=decide_eq_true c6
        clear c6
        by_cases c7:(((rd_T31 l0 x3_1).f0).size:Int)>100
        ·rw [if_pos c7] at H
         have c7b0:decide (100<(((rd_T31 l0 x3_1).f0).size:Int))=true:=decide_eq_true c7
         have c7b1:decide (100<((rd_T31 l0 x3_1).f0).size)=true:=decide_eq_true (by omega)
         clear c7
         obtain rfl:=Option.some.inj H
         have p1:0≤(x3_1:Int):=of_decide_eq_true zq_
         have q1:x3_1<(l0.length:Int):=of_decide_eq_true zq_
         obtain ⟨ad1,e1,hx1_0,hx1_1,hx1_2,hx1_3,hx1_4,hx1_5,hx1_6,hx1_7,hx1_8,hx1_9,hx1_10,hx1_11⟩:=at_T31 HR0.out x3_1 p1 q1
         cases e1
         replace p1:=eq_true p1
         replace q1:=eq_true q1
         go_wp2
         go_ret
         exact ⟨by first|rfl|(simp;done)|(simp [*];done),by repeat (first|exact Drawn0.refl _|apply Drawn0.step)⟩
        ·rw [if_neg c7] at H
         have c7b0:decide (100<(((rd_T31 l0 x3_1).f0).size:Int))=false:=decide_eq_false c7
         have c7b1:decide (100<((rd_T31 l0 x3_1).f0).size)=false:=decide_eq_false (by omega)
         clear c7
         by_cases c8:(((rd_T31 l0 x3_1).f1).size:Int)>100
         ·rw [if_pos c8] at H
          have c8b0:decide (100<(((rd_T31 l0 x3_1).f1).size:Int))=true:=decide_eq_true c8
          have c8b1:decide (100<((rd_T31 l0 x3_1).f1).size)=true:=decide_eq_true (by omega)
          clear c8
          obtain rfl:=Option.some.inj H
          have p1:0≤(x3_1:Int):=of_decide_eq_true zq_
          have q1:x3_1<(l0.length:Int):=of_decide_eq_true zq_
          obtain ⟨ad1,e1,hx1_0,hx1_1,hx1_2,hx1_3,hx1_4,hx1_5,hx1_6,hx1_7,hx1_8,hx1_9,hx1_10,hx1_11⟩:=at_T31 HR0.out x3_1 p1 q1
          cases e1
          replace p1:=eq_true p1
          replace q1:=eq_true q1
          have p2:0≤(x3_1:Int):=of_decide_eq_true zq_
          have q2:x3_1<(l0.length:Int):=of_decide_eq_true zq_
          obtain ⟨ad2,e2,hx2_0,hx2_1,hx2_2,hx2_3,hx2_4,hx2_5,hx2_6,hx2_7,hx2_8,hx2_9,hx2_10,hx2_11⟩:=at_T31 HR0.out x3_1 p2 q2
          obtain rfl:ad1=ad2:=(by injection e2)
          replace p2:=eq_true p2
          replace q2:=eq_true q2
          go_wp2
          go_ret
          exact ⟨by first|rfl|(simp;done)|(simp [*];done),by repeat (first|exact Drawn0.refl _|apply Drawn0.step)⟩
         ·rw [if_neg c8] at H
          have c8b0:decide (100<(((rd_T31 l0 x3_1).f1).size:Int))=false:=decide_eq_false c8
          have c8b1:decide (100<((rd_T31 l0 x3_1).f1).size)=false:=decide_eq_false (by omega)
          clear c8
          have H':=Aside0.mk H
          clear H
          have p1:0≤(x3_1:Int):=of_decide_eq_true zq_
          have q1:x3_1<(l0.length:Int):=of_decide_eq_true zq_
          obtain ⟨ad1,e1,hx1_0,hx1_1,hx1_2,hx1_3,hx1_4,hx1_5,hx1_6,hx1_7,hx1_8,hx1_9,hx1_10,hx1_11⟩:=at_T31 HR0.out x3_1 p1 q1
          cases e1
          replace p1:=eq_true p1
          replace q1:=eq_true q1
          have p2:0≤(x3_1:Int):=of_decide_eq_true zq_
          have q2:x3_1<(l0.length:Int):=of_decide_eq_true zq_
          obtain ⟨ad2,e2,hx2_0,hx2_1,hx2_2,hx2_3,hx2_4,hx2_5,hx2_6,hx2_7,hx2_8,hx2_9,hx2_10,hx2_11⟩:=at_T31 HR0.out x3_1 p2 q2
          obtain rfl:ad1=ad2:=(by injection e2)
          replace p2:=eq_true p2
          replace q2:=eq_true q2
          go_wp2
          go_roundg kj1
          case measure=>have:=HK1.out;have:=HJ1.out;omega
          case rel=>exact ⟨(wrap64 (x3_1+1)),(by first|rfl|(simp;done)|(simp [*];done)),H',⟨by have:=HK1.out;have:=HJ1.out;omega⟩,by repeat (first|exact Drawn0.refl _|apply Drawn0.step)⟩
       ·rw [if_neg c6] at H
        exact absurd H (by simp)
      ·rw [if_neg c5] at H
       exact absurd H (by simp)
     ·replace c4:=Bool.eq_false_iff.mpr c4
      subst c4
      have H1:(some (decide ((l0.length:Int)>130)))=some r:=by rw [if_neg (show¬(false=true) by decide)] at H;exact H
      clear H
      have H:=H1
      clear H1
      obtain rfl:=Option.some.inj H
      go_wp2
      go_ret
      exact ⟨by first|rfl|(simp;done)|(simp [*];done),by repeat (first|exact Drawn0.refl _|apply Drawn0.step)⟩

end Go.Proofs.Ytcgefpklljclgaa.Print

namespace Go.Proofs.Ytcgefpklljclgaa.Print
open Go.RowKit Go.Proofs.YtcgefpklljclgaaW.PrintWords Go.Proofs.YtcgefpklljclgaaW.PrintLast Go.Proofs.YtcgefpklljclgaaW.PrintMore
attribute [local go_sem] max2_int min2_int max_two min_two max_three min_three max_four min_four   -- for this text's walks alone
set_option linter.unusedVariables false
set_option linter.unusedSimpArgs false

/-! ### law1_Num: function 61 -/
def law1_Num.f (a0:Int):Option (Int):=some a0
set_option maxHeartbeats 8000000 in
set_option maxRecDepth 100000 in
theorem law1_Num.calls (a0:Int) (r:Int) (w:World) (h:law1_Num.f a0=some r):
  Calls Try.prog 61 #[.int .i64 a0] w fun e w'=>e= .returned (.int .i64 r)∧Drawn0 w w':=by
 have H:(some a0)=some r:=h
 clear h
 obtain rfl:=Option.some.inj H
 go_enter Try.func61,Try.ntmps61
 go_wp2
 go_ret
 exact ⟨by first|rfl|(simp;done)|(simp [*];done),by repeat (first|exact Drawn0.refl _|apply Drawn0.step)⟩

end Go.Proofs.Ytcgefpklljclgaa.Print

namespace Go.Proofs.Ytcgefpklljclgaa.Print
open Go.RowKit Go.Proofs.YtcgefpklljclgaaW.PrintWords Go.Proofs.YtcgefpklljclgaaW.PrintLast Go.Proofs.YtcgefpklljclgaaW.PrintMore
attribute [local go_sem] max2_int min2_int max_two min_two max_three min_three max_four min_four   -- for this text's walks alone
set_option linter.unusedVariables false
set_option linter.unusedSimpArgs false

attribute [local go_sem high] eqA31
/-! ### law15_awake: function 85 -/
def law15_awake.f:Option (Bool):=(shape_Create.f ([]:List (S31)) (⟨#[97]⟩:ByteArray) (⟨#[]⟩:ByteArray) 1 0 0).bind fun bt1=>((law1_Num.f bt1.2).bind fun t5=>(if t5=0 then (if (bt1.1.length:Int)=1 then (if 0<(bt1.1.length:Int) then (some ((((rd_T31 bt1.1 0).f0).toList)==([97]:List UInt8) && ((((rd_T31 bt1.1 0).f1).toList)==([]:List UInt8) && ((((rd_T31 bt1.1 0).f2.f0)==1 && (((rd_T31 bt1.1 0).f2.f1)==0 && (((rd_T31 bt1.1 0).f2.f2)==0))) && ((((rd_T31 bt1.1 0).f3.f0)==0 && (((rd_T31 bt1.1 0).f3.f1)==0 && (((rd_T31 bt1.1 0).f3.f2)==0))) && ((((rd_T31 bt1.1 0).f4.f0)==0 && (((rd_T31 bt1.1 0).f4.f1)==0 && (((rd_T31 bt1.1 0).f4.f2)==0))) && (((rd_T31 bt1.1 0).f5)==1))))))) else (none)) else (some false)) else (some false)))
set_option maxHeartbeats 8000000 in
set_option maxRecDepth 100000 in
theorem law15_awake.calls (r:Bool) (w:World) (h:law15_awake.f=some r):
  Calls Try.prog 85 #[] w fun e w'=>e= .returned (.bool r)∧Below w.heap.size w w':=by
 have hu27:=Try.underlying27
 have hu31:=Try.underlying31
 have HB:=am_ (Below.refl w.heap.size w)
 have H:((shape_Create.f ([]:List (S31)) (⟨#[97]⟩:ByteArray) (⟨#[]⟩:ByteArray) 1 0 0).bind fun bt1=>((law1_Num.f bt1.2).bind fun t5=>(if t5=0 then (if (bt1.1.length:Int)=1 then (if 0<(bt1.1.length:Int) then (some ((((rd_T31 bt1.1 0).f0).toList)==([97]:List UInt8) && ((((rd_T31 bt1.1 0).f1).toList)==([]:List UInt8) && ((((rd_T31 bt1.1 0).f2.f0)==1 && (((rd_T31 bt1.1 0).f2.f1)==0 && (((rd_T31 bt1.1 0).f2.f2)==0))) && ((((rd_T31 bt1.1 0).f3.f0)==0 && (((rd_T31 bt1.1 0).f3.f1)==0 && (((rd_T31 bt1.1 0).f3.f2)==0))) && ((((rd_T31 bt1.1 0).f4.f0)==0 && (((rd_T31 bt1.1 0).f4.f1)==0 && (((rd_T31 bt1.1 0).f4.f2)==0))) && (((rd_T31 bt1.1 0).f5)==1))))))) else (none)) else (some false)) else (some false))))=some r:=h
 clear h
 replace H:=Option.bind_eq_some_iff.mp H
 obtain ⟨⟨t1,t4⟩,A10,H⟩:=H
 replace H:((law1_Num.f t4).bind fun t5=>(if t5=0 then (if (t1.length:Int)=1 then (if 0<(t1.length:Int) then (some ((((rd_T31 t1 0).f0).toList)==([97]:List UInt8) && ((((rd_T31 t1 0).f1).toList)==([]:List UInt8) && ((((rd_T31 t1 0).f2.f0)==1 && (((rd_T31 t1 0).f2.f1)==0 && (((rd_T31 t1 0).f2.f2)==0))) && ((((rd_T31 t1 0).f3.f0)==0 && (((rd_T31 t1 0).f3.f1)==0 && (((rd_T31 t1 0).f3.f2)==0))) && ((((rd_T31 t1 0).f4.f0)==0 && (((rd_T31 t1 0).f4.f1)==0 && (((rd_T31 t1 0).f4.f2)==0))) && (((rd_T31 t1 0).f5)==1))))))) else (none)) else (some false)) else (some false)))=some r:=H
 have A1:=Aside0.mk A10
 clear A10
 replace H:=Option.bind_eq_some_iff.mp H
 obtain ⟨t5,A20,H⟩:=H
 replace H:(if t5=0 then (if (t1.length:Int)=1 then (if 0<(t1.length:Int) then (some ((((rd_T31 t1 0).f0).toList)==([97]:List UInt8) && ((((rd_T31 t1 0).f1).toList)==([]:List UInt8) && ((((rd_T31 t1 0).f2.f0)==1 && (((rd_T31 t1 0).f2.f1)==0 && (((rd_T31 t1 0).f2.f2)==0))) && ((((rd_T31 t1 0).f3.f0)==0 && (((rd_T31 t1 0).f3.f1)==0 && (((rd_T31 t1 0).f3.f2)==0))) && ((((rd_T31 t1 0).f4.f0)==0 && (((rd_T31 t1 0).f4.f1)==0 && (((rd_T31 t1 0).f4.f2)==0))) && (((rd_T31 t1 0).f5)==1))))))) else (none)) else (some false)) else (some false))=some r:=H
 have A2:=Aside0.mk A20
 clear A20
 by_cases c3:t5=0
 ·rw [if_pos c3] at H
  have c3b0:(t5==0)=true:=beq_iff_eq.mpr c3
  have c3b1:(t5 !=0)=false:=bne_eq_false_iff_eq.mpr c3
  clear c3
  by_cases c4:(t1.length:Int)=1
  ·rw [if_pos c4] at H
   have c4b0:((t1.length:Int)==1)=true:=beq_iff_eq.mpr c4
   have c4b1:((t1.length:Int) !=1)=false:=bne_eq_false_iff_eq.mpr c4
   clear c4
   by_cases c5:0<(t1.length:Int)
   ·rw [if_pos c5] at H
    have c5b0:decide (0<(t1.length:Int))=true:=decide_eq_true c5
    have c5b1:decide (0<t1.length)=true:=decide_eq_true (by omega)
    clear c5
    obtain rfl:=Option.some.inj H
    go_enter Try.func85,Try.ntmps85
    go_wp2_with (first|((with_reducible refine gate_callee (f:=84) rfl ?_);refine goesL_ (some 5) rfl rfl Try.func84 (by kernel_rfl) rfl #[.slice none 0 0, .string (⟨#[97]⟩:ByteArray), .string (⟨#[]⟩:ByteArray), .agg #[.int .i64 1, .int .i64 0, .int .i64 0]] rfl zs_ ?_;(refine (shape_Create.calls _ _ ([]:List (S31)) (⟨#[97]⟩:ByteArray) (⟨#[]⟩:ByteArray) 1 0 0 t1 t4 _ ?side1 ?side2 A1.out).mono ?_);(case side1=>exact Kd.C_nil _ _);(case side2=>exact Nat.le_refl _);rintro e w6 ⟨v2,rfl,ho0,hb⟩;refine ⟨_,rfl, ?_⟩;have n0_:=am_ (Kd.R_lower ho0 (below_size (zl0_ HB)));have n1_:=am_ (below_step (zl0_ HB) hb);clear HB;have HO3:=n0_;have HB:=n1_;clear n0_ n1_;(try clear hb);(try clear hb2);(try clear hk);(try clear hi);(try clear ho0))|((with_reducible refine gate_callee (f:=61) rfl ?_);refine goesL_ (some 9) rfl rfl Try.func61 (by kernel_rfl) rfl #[.int .i64 t4] rfl zs_ ?_;(with_reducible refine (law1_Num.calls t4 t5 _ A2.out).mono ?_);rintro e w' ⟨rfl,⟨nd,rfl⟩⟩;refine ⟨_,rfl, ?_⟩;obtain ⟨Ao7,co7,eo7⟩:=Kd.R_slice HO3.out;subst eo7;have p6:0≤(0:Int):=(by omega);have q6:0<(t1.length:Int):=of_decide_eq_true zq_;obtain ⟨ad6,e6,hx6_0,hx6_1,hx6_2,hx6_3,hx6_4,hx6_5,hx6_6,hx6_7,hx6_8,hx6_9,hx6_10,hx6_11⟩:=at_T31 (Kd.R_reads' HO3.out).2.2 0 p6 q6;cases e6;have qi6:(0<t1.length)=True:=eq_true (by omega);(try rw [show ((0:Int)).toNat=0 from rfl] at hx6_0);(try rw [show 0*12=0 from rfl] at hx6_0);(try rw [Addr.add_zero'] at hx6_0);(try rw [show ((0:Int)).toNat=0 from rfl] at hx6_1);(try rw [show 0*12=0 from rfl] at hx6_1);(try rw [Addr.add_zero'] at hx6_1);(try rw [show ((0:Int)).toNat=0 from rfl] at hx6_2);(try rw [show 0*12=0 from rfl] at hx6_2);(try rw [Addr.add_zero'] at hx6_2);(try rw [show ((0:Int)).toNat=0 from rfl] at hx6_3);(try rw [show 0*12=0 from rfl] at hx6_3);(try rw [Addr.add_zero'] at hx6_3);(try rw [show ((0:Int)).toNat=0 from rfl] at hx6_4);(try rw [show 0*12=0 from rfl] at hx6_4);(try rw [Addr.add_zero'] at hx6_4);(try rw [show ((0:Int)).toNat=0 from rfl] at hx6_5);(try rw [show 0*12=0 from rfl] at hx6_5);(try rw [Addr.add_zero'] at hx6_5);(try rw [show ((0:Int)).toNat=0 from rfl] at hx6_6);(try rw [show 0*12=0 from rfl] at hx6_6);(try rw [Addr.add_zero'] at hx6_6);(try rw [show ((0:Int)).toNat=0 from rfl] at hx6_7);(try rw [show 0*12=0 from rfl] at hx6_7);(try rw [Addr.add_zero'] at hx6_7);(try rw [show ((0:Int)).toNat=0 from rfl] at hx6_8);(try rw [show 0*12=0 from rfl] at hx6_8);(try rw [Addr.add_zero'] at hx6_8);(try rw [show ((0:Int)).toNat=0 from rfl] at hx6_9);(try rw [show 0*12=0 from rfl] at hx6_9);(try rw [Addr.add_zero'] at hx6_9);(try rw [show ((0:Int)).toNat=0 from rfl] at hx6_10);(try rw [show 0*12=0 from rfl] at hx6_10);(try rw [Addr.add_zero'] at hx6_10);(try rw [show ((0:Int)).toNat=0 from rfl] at hx6_11);(try rw [show 0*12=0 from rfl] at hx6_11);(try rw [Addr.add_zero'] at hx6_11);replace p6:=eq_true p6;replace q6:=eq_true q6))
    go_ret
    exact ⟨by first|rfl|(simp [errW_none,errW_some]<;>rfl)|(simp [*,errW_none,errW_some]<;>rfl),zl0_ HB⟩
   ·rw [if_neg c5] at H
    exact absurd H (by simp)
  ·rw [if_neg c4] at H
   have c4b0:((t1.length:Int)==1)=false:=beq_eq_false_iff_ne.mpr c4
   have c4b1:((t1.length:Int) !=1)=true:=bne_iff_ne.mpr c4
   obtain rfl:=Option.some.inj H
   go_enter Try.func85,Try.ntmps85
   go_wp2_with (first|((with_reducible refine gate_callee (f:=84) rfl ?_);refine goesL_ (some 5) rfl rfl Try.func84 (by kernel_rfl) rfl #[.slice none 0 0, .string (⟨#[97]⟩:ByteArray), .string (⟨#[]⟩:ByteArray), .agg #[.int .i64 1, .int .i64 0, .int .i64 0]] rfl zs_ ?_;(refine (shape_Create.calls _ _ ([]:List (S31)) (⟨#[97]⟩:ByteArray) (⟨#[]⟩:ByteArray) 1 0 0 t1 t4 _ ?side1 ?side2 A1.out).mono ?_);(case side1=>exact Kd.C_nil _ _);(case side2=>exact Nat.le_refl _);rintro e w8 ⟨v2,rfl,ho0,hb⟩;refine ⟨_,rfl, ?_⟩;have n0_:=am_ (Kd.R_lower ho0 (below_size (zl0_ HB)));have n1_:=am_ (below_step (zl0_ HB) hb);clear HB;have HO3:=n0_;have HB:=n1_;clear n0_ n1_;(try clear hb);(try clear hb2);(try clear hk);(try clear hi);(try clear ho0))|((with_reducible refine gate_callee (f:=61) rfl ?_);refine goesL_ (some 9) rfl rfl Try.func61 (by kernel_rfl) rfl #[.int .i64 t4] rfl zs_ ?_;(with_reducible refine (law1_Num.calls t4 t5 _ A2.out).mono ?_);rintro e w' ⟨rfl,⟨nd,rfl⟩⟩;refine ⟨_,rfl, ?_⟩;obtain ⟨Ao9,co9,eo9⟩:=Kd.R_slice HO3.out;subst eo9))
   go_ret
   exact ⟨by first|rfl|(simp [errW_none,errW_some]<;>rfl)|(simp [*,errW_none,errW_some]<;>rfl),zl0_ HB⟩
 ·rw [if_neg c3] at H
  have c3b0:(t5==0)=false:=beq_eq_false_iff_ne.mpr c3
  have c3b1:(t5 !=0)=true:=bne_iff_ne.mpr c3
  obtain rfl:=Option.some.inj H
  go_enter Try.func85,Try.ntmps85
  go_wp2_with (first|((with_reducible refine gate_callee (f:=84) rfl ?_);refine goesL_ (some 5) rfl rfl Try.func84 (by kernel_rfl) rfl #[.slice none 0 0, .string (⟨#[97]⟩:ByteArray), .string (⟨#[]⟩:ByteArray), .agg #[.int .i64 1, .int .i64 0, .int .i64 0]] rfl zs_ ?_;(refine (shape_Create.calls _ _ ([]:List (S31)) (⟨#[97]⟩:ByteArray) (⟨#[]⟩:ByteArray) 1 0 0 t1 t4 _ ?side1 ?side2 A1.out).mono ?_);(case side1=>exact Kd.C_nil _ _);(case side2=>exact Nat.le_refl _);rintro e w10 ⟨v2,rfl,ho0,hb⟩;refine ⟨_,rfl, ?_⟩;have n0_:=am_ (Kd.R_lower ho0 (below_size (zl0_ HB)));have n1_:=am_ (below_step (zl0_ HB) hb);clear HB;have HO3:=n0_;have HB:=n1_;clear n0_ n1_;(try clear hb);(try clear hb2);(try clear hk);(try clear hi);(try clear ho0))|((with_reducible refine gate_callee (f:=61) rfl ?_);refine goesL_ (some 9) rfl rfl Try.func61 (by kernel_rfl) rfl #[.int .i64 t4] rfl zs_ ?_;(with_reducible refine (law1_Num.calls t4 t5 _ A2.out).mono ?_);rintro e w' ⟨rfl,⟨nd,rfl⟩⟩;refine ⟨_,rfl, ?_⟩))
  go_ret
  exact ⟨by first|rfl|(simp [errW_none,errW_some]<;>rfl)|(simp [*,errW_none,errW_some]<;>rfl),zl0_ HB⟩

end Go.Proofs.Ytcgefpklljclgaa.Print

namespace Go.Proofs.Ytcgefpklljclgaa.Print
open Go.RowKit Go.Proofs.YtcgefpklljclgaaW.PrintWords Go.Proofs.YtcgefpklljclgaaW.PrintLast Go.Proofs.YtcgefpklljclgaaW.PrintMore
attribute [local go_sem] max2_int min2_int max_two min_two max_three min_three max_four min_four   -- for this text's walks alone
set_option linter.unusedVariables false
set_option linter.unusedSimpArgs false

/-! ### law15_same: function 90 -/
def law15_same.f (k:Nat) (l0:List (S31)) (a1:Int) (l2_0:List (S31)) (a2_1:Int):Option (Bool):=(r10_SameItems.f k l0 l2_0).bind fun t2=>(if t2=true then ((law1_Num.f a1).bind fun t3=>(some (t3==a2_1))) else (some false))
theorem law15_same.mono: ∀a0 a1 a2 a3 k,LeO (law15_same.f k a0 a1 a2 a3) (law15_same.f (k+1) a0 a1 a2 a3):=by
 intro a0 a1 a2 a3 k
 unfold law15_same.f
 repeat' first
  |(with_reducible exact r10_SameItems.mono _ _ _)
  |(with_reducible exact LeO.refl _)
  |(with_reducible exact LeO.none _)
  |(with_reducible refine LeO.ite ?_ ?_)
  |(with_reducible refine LeO.bind ?_ (fun _=> ?_))
  |exact r10_SameItems.mono _ _ _
  |exact LeO.none _
  |refine LeO.ite ?_ ?_
  |refine LeO.bind ?_ (fun _=> ?_)
set_option maxHeartbeats 8000000 in
set_option maxRecDepth 100000 in
theorem law15_same.calls (k:Nat) (A0:Option Addr) (c0:Nat) (l0:List (S31)) (a1:Int) (A2_0:Option Addr) (c2_0:Nat) (l2_0:List (S31)) (a2_1:Int) (r:Bool) (w:World) (hr0:Kd.C k31 w A0 l0.length l0) (hc0:l0.length≤c0) (hr2_0:Kd.C k31 w A2_0 l2_0.length l2_0) (hc2_0:l2_0.length≤c2_0) (h:law15_same.f k l0 a1 l2_0 a2_1=some r):
  Calls Try.prog 90 #[.slice A0 l0.length c0, .int .i64 a1, .agg #[.slice A2_0 l2_0.length c2_0, .int .i64 a2_1]] w fun e w'=>e= .returned (.bool r)∧Below w.heap.size w w':=by
 have hu67:=Try.underlying67
 have HR0:=Aside0.mk hr0
 have HC0:=Aside0.mk hc0
 clear hr0 hc0
 have HR2_0:=Aside0.mk hr2_0
 have HC2_0:=Aside0.mk hc2_0
 clear hr2_0 hc2_0
 have HB:=am_ (Below.refl w.heap.size w)
 have H:((r10_SameItems.f k l0 l2_0).bind fun t2=>(if t2=true then ((law1_Num.f a1).bind fun t3=>(some (t3==a2_1))) else (some false)))=some r:=h
 clear h
 replace H:=Option.bind_eq_some_iff.mp H
 obtain ⟨t2,A40,H⟩:=H
 replace H:(if t2=true then ((law1_Num.f a1).bind fun t3=>(some (t3==a2_1))) else (some false))=some r:=H
 have A4:=Aside0.mk A40
 clear A40
 by_cases c5:t2=true
 ·subst c5
  have H1:((law1_Num.f a1).bind fun t3=>(some (t3==a2_1)))=some r:=by rw [if_pos rfl] at H;exact H
  clear H
  have H:=H1
  clear H1
  replace H:=Option.bind_eq_some_iff.mp H
  obtain ⟨t3,A60,H⟩:=H
  replace H:(some (t3==a2_1))=some r:=H
  have A6:=Aside0.mk A60
  clear A60
  obtain rfl:=Option.some.inj H
  go_enter Try.func90,Try.ntmps90
  go_wp2_with (first|((with_reducible refine gate_dst (N:=5) rfl ?_);refine box_event ?hg (N:=5) ?hd (cs:=#[.slice A2_0 l2_0.length c2_0, .int .i64 a2_1]) (t:=67) ?hr ?_;(case hd=>rfl);(case hg=>rfl);(case hr=>first|(go_simp;done)|(go_simp;rfl));intro gb1 hg w7 hbox hb;have n0_:=am_ (below_step (zl0_ HB) hb);have n1_:=am_ (hbox);have n2_:=am_ ((zg0_ HB hg:w.heap.size≤gb1));have n3_:=am_ ((zg0_ HB hg:w.heap.size≤gb1));clear HB;have HB:=n0_;have BK1:=n1_;have GW1:=n2_;have GE1:=n3_;clear n0_ n1_ n2_ n3_;clear hb hbox hg;have hcz8_0:w7.cell? ⟨gb1,0,none⟩=some (.slice A2_0 l2_0.length c2_0):=(blk_cell BK1.out 0).trans rfl;have hcz8_1:w7.cell? ⟨gb1,1,none⟩=some (.int .i64 a2_1):=(blk_cell BK1.out 1).trans rfl;have hfz8_0:=blk_frozen BK1.out 0;have hfz8_1:=blk_frozen BK1.out 1)|(go_at_call 62;(with_reducible refine (r10_SameItems.calls k _ _ l0 _ _ l2_0 true _ ?side1 ?side2 ?side3 ?side4 A4.out).mono ?_);(case side1=>exact zc_ (Kd.C_below HR0.out HB.out));(case side2=>exact HC0.out);(case side3=>repeat (first|exact (Kd.C_below HR2_0.out HB.out)|(with_reducible refine Kd.C_alloc ?_ _)|(with_reducible refine Kd.C_drewN ?_ _)|(with_reducible refine Kd.C_drew ?_)));(case side4=>exact HC2_0.out);rintro e w' ⟨rfl,⟨nd,rfl⟩⟩;(try first|exact ⟨rfl,_,World.drewN_drewN _ _ _⟩|exact ⟨rfl,_,Eq.trans (World.drewN_drewN _ _ _) (congrArg (World.drewN _) (Nat.add_assoc _ _ _))⟩))|(go_at_call 61;(with_reducible refine (law1_Num.calls a1 t3 _ A6.out).mono ?_);rintro e w' ⟨rfl,⟨nd,rfl⟩⟩;(try first|exact ⟨rfl,_,World.drewN_drewN _ _ _⟩|exact ⟨rfl,_,Eq.trans (World.drewN_drewN _ _ _) (congrArg (World.drewN _) (Nat.add_assoc _ _ _))⟩)))
  repeat (go_quiet (first|((with_reducible refine gate_dst (N:=5) rfl ?_);refine box_event ?hg (N:=5) ?hd (cs:=#[.slice A2_0 l2_0.length c2_0, .int .i64 a2_1]) (t:=67) ?hr ?_;(case hd=>rfl);(case hg=>rfl);(case hr=>first|(go_simp;done)|(go_simp;rfl));intro gb1 hg w7 hbox hb;have n0_:=am_ (below_step (zl0_ HB) hb);have n1_:=am_ (hbox);have n2_:=am_ ((zg0_ HB hg:w.heap.size≤gb1));have n3_:=am_ ((zg0_ HB hg:w.heap.size≤gb1));clear HB;have HB:=n0_;have BK1:=n1_;have GW1:=n2_;have GE1:=n3_;clear n0_ n1_ n2_ n3_;clear hb hbox hg;have hcz8_0:w7.cell? ⟨gb1,0,none⟩=some (.slice A2_0 l2_0.length c2_0):=(blk_cell BK1.out 0).trans rfl;have hcz8_1:w7.cell? ⟨gb1,1,none⟩=some (.int .i64 a2_1):=(blk_cell BK1.out 1).trans rfl;have hfz8_0:=blk_frozen BK1.out 0;have hfz8_1:=blk_frozen BK1.out 1)|(go_at_call 62;(with_reducible refine (r10_SameItems.calls k _ _ l0 _ _ l2_0 true _ ?side1 ?side2 ?side3 ?side4 A4.out).mono ?_);(case side1=>exact zc_ (Kd.C_below HR0.out HB.out));(case side2=>exact HC0.out);(case side3=>repeat (first|exact (Kd.C_below HR2_0.out HB.out)|(with_reducible refine Kd.C_alloc ?_ _)|(with_reducible refine Kd.C_drewN ?_ _)|(with_reducible refine Kd.C_drew ?_)));(case side4=>exact HC2_0.out);rintro e w' ⟨rfl,⟨nd,rfl⟩⟩;(try first|exact ⟨rfl,_,World.drewN_drewN _ _ _⟩|exact ⟨rfl,_,Eq.trans (World.drewN_drewN _ _ _) (congrArg (World.drewN _) (Nat.add_assoc _ _ _))⟩))|(go_at_call 61;(with_reducible refine (law1_Num.calls a1 t3 _ A6.out).mono ?_);rintro e w' ⟨rfl,⟨nd,rfl⟩⟩;(try first|exact ⟨rfl,_,World.drewN_drewN _ _ _⟩|exact ⟨rfl,_,Eq.trans (World.drewN_drewN _ _ _) (congrArg (World.drewN _) (Nat.add_assoc _ _ _))⟩)));try go_wp2_with (first|((with_reducible refine gate_dst (N:=5) rfl ?_);refine box_event ?hg (N:=5) ?hd (cs:=#[.slice A2_0 l2_0.length c2_0, .int .i64 a2_1]) (t:=67) ?hr ?_;(case hd=>rfl);(case hg=>rfl);(case hr=>first|(go_simp;done)|(go_simp;rfl));intro gb1 hg w7 hbox hb;have n0_:=am_ (below_step (zl0_ HB) hb);have n1_:=am_ (hbox);have n2_:=am_ ((zg0_ HB hg:w.heap.size≤gb1));have n3_:=am_ ((zg0_ HB hg:w.heap.size≤gb1));clear HB;have HB:=n0_;have BK1:=n1_;have GW1:=n2_;have GE1:=n3_;clear n0_ n1_ n2_ n3_;clear hb hbox hg;have hcz8_0:w7.cell? ⟨gb1,0,none⟩=some (.slice A2_0 l2_0.length c2_0):=(blk_cell BK1.out 0).trans rfl;have hcz8_1:w7.cell? ⟨gb1,1,none⟩=some (.int .i64 a2_1):=(blk_cell BK1.out 1).trans rfl;have hfz8_0:=blk_frozen BK1.out 0;have hfz8_1:=blk_frozen BK1.out 1)|(go_at_call 62;(with_reducible refine (r10_SameItems.calls k _ _ l0 _ _ l2_0 true _ ?side1 ?side2 ?side3 ?side4 A4.out).mono ?_);(case side1=>exact zc_ (Kd.C_below HR0.out HB.out));(case side2=>exact HC0.out);(case side3=>repeat (first|exact (Kd.C_below HR2_0.out HB.out)|(with_reducible refine Kd.C_alloc ?_ _)|(with_reducible refine Kd.C_drewN ?_ _)|(with_reducible refine Kd.C_drew ?_)));(case side4=>exact HC2_0.out);rintro e w' ⟨rfl,⟨nd,rfl⟩⟩;(try first|exact ⟨rfl,_,World.drewN_drewN _ _ _⟩|exact ⟨rfl,_,Eq.trans (World.drewN_drewN _ _ _) (congrArg (World.drewN _) (Nat.add_assoc _ _ _))⟩))|(go_at_call 61;(with_reducible refine (law1_Num.calls a1 t3 _ A6.out).mono ?_);rintro e w' ⟨rfl,⟨nd,rfl⟩⟩;(try first|exact ⟨rfl,_,World.drewN_drewN _ _ _⟩|exact ⟨rfl,_,Eq.trans (World.drewN_drewN _ _ _) (congrArg (World.drewN _) (Nat.add_assoc _ _ _))⟩))))
  go_ret
  exact ⟨by first|rfl|(simp [errW_none,errW_some]<;>rfl)|(simp [*,errW_none,errW_some]<;>rfl),zl1_ HB GE1⟩
 ·replace c5:=Bool.eq_false_iff.mpr c5
  subst c5
  have H1:(some false)=some r:=by rw [if_neg (show¬(false=true) by decide)] at H;exact H
  clear H
  have H:=H1
  clear H1
  obtain rfl:=Option.some.inj H
  go_enter Try.func90,Try.ntmps90
  go_wp2_with (first|((with_reducible refine gate_dst (N:=5) rfl ?_);refine box_event ?hg (N:=5) ?hd (cs:=#[.slice A2_0 l2_0.length c2_0, .int .i64 a2_1]) (t:=67) ?hr ?_;(case hd=>rfl);(case hg=>rfl);(case hr=>first|(go_simp;done)|(go_simp;rfl));intro gb1 hg w9 hbox hb;have n0_:=am_ (below_step (zl0_ HB) hb);have n1_:=am_ (hbox);have n2_:=am_ ((zg0_ HB hg:w.heap.size≤gb1));have n3_:=am_ ((zg0_ HB hg:w.heap.size≤gb1));clear HB;have HB:=n0_;have BK1:=n1_;have GW1:=n2_;have GE1:=n3_;clear n0_ n1_ n2_ n3_;clear hb hbox hg;have hcz10_0:w9.cell? ⟨gb1,0,none⟩=some (.slice A2_0 l2_0.length c2_0):=(blk_cell BK1.out 0).trans rfl;have hcz10_1:w9.cell? ⟨gb1,1,none⟩=some (.int .i64 a2_1):=(blk_cell BK1.out 1).trans rfl;have hfz10_0:=blk_frozen BK1.out 0;have hfz10_1:=blk_frozen BK1.out 1)|(go_at_call 62;(with_reducible refine (r10_SameItems.calls k _ _ l0 _ _ l2_0 false _ ?side1 ?side2 ?side3 ?side4 A4.out).mono ?_);(case side1=>exact zc_ (Kd.C_below HR0.out HB.out));(case side2=>exact HC0.out);(case side3=>repeat (first|exact (Kd.C_below HR2_0.out HB.out)|(with_reducible refine Kd.C_alloc ?_ _)|(with_reducible refine Kd.C_drewN ?_ _)|(with_reducible refine Kd.C_drew ?_)));(case side4=>exact HC2_0.out);rintro e w' ⟨rfl,⟨nd,rfl⟩⟩;(try first|exact ⟨rfl,_,World.drewN_drewN _ _ _⟩|exact ⟨rfl,_,Eq.trans (World.drewN_drewN _ _ _) (congrArg (World.drewN _) (Nat.add_assoc _ _ _))⟩)))
  repeat (go_quiet (first|((with_reducible refine gate_dst (N:=5) rfl ?_);refine box_event ?hg (N:=5) ?hd (cs:=#[.slice A2_0 l2_0.length c2_0, .int .i64 a2_1]) (t:=67) ?hr ?_;(case hd=>rfl);(case hg=>rfl);(case hr=>first|(go_simp;done)|(go_simp;rfl));intro gb1 hg w9 hbox hb;have n0_:=am_ (below_step (zl0_ HB) hb);have n1_:=am_ (hbox);have n2_:=am_ ((zg0_ HB hg:w.heap.size≤gb1));have n3_:=am_ ((zg0_ HB hg:w.heap.size≤gb1));clear HB;have HB:=n0_;have BK1:=n1_;have GW1:=n2_;have GE1:=n3_;clear n0_ n1_ n2_ n3_;clear hb hbox hg;have hcz10_0:w9.cell? ⟨gb1,0,none⟩=some (.slice A2_0 l2_0.length c2_0):=(blk_cell BK1.out 0).trans rfl;have hcz10_1:w9.cell? ⟨gb1,1,none⟩=some (.int .i64 a2_1):=(blk_cell BK1.out 1).trans rfl;have hfz10_0:=blk_frozen BK1.out 0;have hfz10_1:=blk_frozen BK1.out 1)|(go_at_call 62;(with_reducible refine (r10_SameItems.calls k _ _ l0 _ _ l2_0 false _ ?side1 ?side2 ?side3 ?side4 A4.out).mono ?_);(case side1=>exact zc_ (Kd.C_below HR0.out HB.out));(case side2=>exact HC0.out);(case side3=>repeat (first|exact (Kd.C_below HR2_0.out HB.out)|(with_reducible refine Kd.C_alloc ?_ _)|(with_reducible refine Kd.C_drewN ?_ _)|(with_reducible refine Kd.C_drew ?_)));(case side4=>exact HC2_0.out);rintro e w' ⟨rfl,⟨nd,rfl⟩⟩;(try first|exact ⟨rfl,_,World.drewN_drewN _ _ _⟩|exact ⟨rfl,_,Eq.trans (World.drewN_drewN _ _ _) (congrArg (World.drewN _) (Nat.add_assoc _ _ _))⟩)));try go_wp2_with (first|((with_reducible refine gate_dst (N:=5) rfl ?_);refine box_event ?hg (N:=5) ?hd (cs:=#[.slice A2_0 l2_0.length c2_0, .int .i64 a2_1]) (t:=67) ?hr ?_;(case hd=>rfl);(case hg=>rfl);(case hr=>first|(go_simp;done)|(go_simp;rfl));intro gb1 hg w9 hbox hb;have n0_:=am_ (below_step (zl0_ HB) hb);have n1_:=am_ (hbox);have n2_:=am_ ((zg0_ HB hg:w.heap.size≤gb1));have n3_:=am_ ((zg0_ HB hg:w.heap.size≤gb1));clear HB;have HB:=n0_;have BK1:=n1_;have GW1:=n2_;have GE1:=n3_;clear n0_ n1_ n2_ n3_;clear hb hbox hg;have hcz10_0:w9.cell? ⟨gb1,0,none⟩=some (.slice A2_0 l2_0.length c2_0):=(blk_cell BK1.out 0).trans rfl;have hcz10_1:w9.cell? ⟨gb1,1,none⟩=some (.int .i64 a2_1):=(blk_cell BK1.out 1).trans rfl;have hfz10_0:=blk_frozen BK1.out 0;have hfz10_1:=blk_frozen BK1.out 1)|(go_at_call 62;(with_reducible refine (r10_SameItems.calls k _ _ l0 _ _ l2_0 false _ ?side1 ?side2 ?side3 ?side4 A4.out).mono ?_);(case side1=>exact zc_ (Kd.C_below HR0.out HB.out));(case side2=>exact HC0.out);(case side3=>repeat (first|exact (Kd.C_below HR2_0.out HB.out)|(with_reducible refine Kd.C_alloc ?_ _)|(with_reducible refine Kd.C_drewN ?_ _)|(with_reducible refine Kd.C_drew ?_)));(case side4=>exact HC2_0.out);rintro e w' ⟨rfl,⟨nd,rfl⟩⟩;(try first|exact ⟨rfl,_,World.drewN_drewN _ _ _⟩|exact ⟨rfl,_,Eq.trans (World.drewN_drewN _ _ _) (congrArg (World.drewN _) (Nat.add_assoc _ _ _))⟩))))
  go_ret
  exact ⟨by first|rfl|(simp [errW_none,errW_some]<;>rfl)|(simp [*,errW_none,errW_some]<;>rfl),zl1_ HB GE1⟩

end Go.Proofs.Ytcgefpklljclgaa.Print

namespace Go.Proofs.Ytcgefpklljclgaa.Print
open Go.RowKit Go.Proofs.YtcgefpklljclgaaW.PrintWords Go.Proofs.YtcgefpklljclgaaW.PrintLast Go.Proofs.YtcgefpklljclgaaW.PrintMore
attribute [local go_sem] max2_int min2_int max_two min_two max_three min_three max_four min_four   -- for this text's walks alone
set_option linter.unusedVariables false
set_option linter.unusedSimpArgs false

/-! ### law15_ShapeAll: function 25 -/
def law15_ShapeAll.j0:Nat→List (S31)→Int→Bool→Int→ByteArray→ByteArray→Int→Int→Int→Option (Bool)
 |0,_,_,_,_,_,_,_,_,_=>none
 |k+1,x0,x2,x36,x2000,x2001,x2002,x2003,x2004,x2005=>if x36=true then ((law15_awake.f).bind fun t4=>(some t4)) else ((some (([]:List (S31)):List (S31))).bind fun y5=>(if y5.length+x0.length<1256584717458 then ((shape_Create.f x0 x2001 x2002 x2003 x2004 x2005).bind fun bt11=>((shape_Limit.f x0 x2001 x2003 x2004 x2005 x2).bind fun bt15=>((shape_Move.f k x0 x2001 x2002 x2).bind fun bt19=>((shape_Delete.f k x0 x2001 x2).bind fun bt23=>((shape_Do.f k x0 x2000 x2001 x2002 x2003 x2004 x2005 x2).bind fun bt27=>((r10_Create.f k x0 x2001 x2002 x2003 x2004 x2005).bind fun bt31=>((law15_same.f k bt11.1 bt11.2 bt31.1 bt31.2).bind fun t35=>(if t35=true then ((r10_Limit.f k x0 x2001 x2003 x2004 x2005 x2).bind fun bt36=>((law15_same.f k bt15.1 bt15.2 bt36.1 bt36.2).bind fun t40=>(if t40=true then ((r10_Move.f k x0 x2001 x2002 x2).bind fun bt41=>((law15_same.f k bt19.1 bt19.2 bt41.1 bt41.2).bind fun t45=>(if t45=true then ((r10_Delete.f k x0 x2001 x2).bind fun bt46=>((law15_same.f k bt23.1 bt23.2 bt46.1 bt46.2).bind fun t50=>(if t50=true then ((r10_Do.f k x0 x2000 x2001 x2002 x2003 x2004 x2005 x2).bind fun bt51=>((law15_same.f k bt27.1 bt27.2 bt51.1 bt51.2).bind fun t55=>(if t55=true then ((r10_SameItems.f k x0 (y5++x0)).bind fun t56=>(if t56=true then ((law15_awake.f).bind fun t57=>(some t57)) else (none))) else (none)))) else (none)))) else (none)))) else (none)))) else (none))))))))) else (none)))
def law15_ShapeAll.f (k:Nat) (l0:List (S31)) (a1_0:Int) (a1_1:ByteArray) (a1_2:ByteArray) (a1_3:Int) (a1_4:Int) (a1_5:Int) (a2:Int):Option (Bool):=(law12_Great.f k l0).bind fun t2=>(if t2=true then (law15_ShapeAll.j0 k l0 a2 true a1_0 a1_1 a1_2 a1_3 a1_4 a1_5) else (if (a1_1.size:Int)>100 then (law15_ShapeAll.j0 k l0 a2 true a1_0 a1_1 a1_2 a1_3 a1_4 a1_5) else (if (a1_2.size:Int)>100 then (law15_ShapeAll.j0 k l0 a2 true a1_0 a1_1 a1_2 a1_3 a1_4 a1_5) else ((r10_Right.f k l0).bind fun t3=>(law15_ShapeAll.j0 k l0 a2 (!t3) a1_0 a1_1 a1_2 a1_3 a1_4 a1_5)))))
theorem law15_ShapeAll.mono_l: ∀k,(∀y0 y1 y2 y3 y4 y5 y6 y7 y8,LeO (law15_ShapeAll.j0 k y0 y1 y2 y3 y4 y5 y6 y7 y8) (law15_ShapeAll.j0 (k+1) y0 y1 y2 y3 y4 y5 y6 y7 y8))
 |0=>fun _ _ _ _ _ _ _ _ _ r h=>by simp [law15_ShapeAll.j0] at h
 |k+1=>by
  have ih0:=law15_ShapeAll.mono_l k
  ·intro y0 y1 y2 y3 y4 y5 y6 y7 y8
   unfold law15_ShapeAll.j0
   repeat' first
   |(with_reducible exact ih0 _ _ _ _ _ _ _ _ _)
   |(with_reducible exact law12_Great.mono _ _)
   |(with_reducible exact law15_same.mono _ _ _ _ _)
   |(with_reducible exact r10_Create.mono _ _ _ _ _ _ _)
   |(with_reducible exact r10_Delete.mono _ _ _ _)
   |(with_reducible exact r10_Do.mono _ _ _ _ _ _ _ _ _)
   |(with_reducible exact r10_Limit.mono _ _ _ _ _ _ _)
   |(with_reducible exact r10_Move.mono _ _ _ _ _)
   |(with_reducible exact r10_Right.mono _ _)
   |(with_reducible exact r10_SameItems.mono _ _ _)
   |(with_reducible exact shape_Delete.mono _ _ _ _)
   |(with_reducible exact shape_Do.mono _ _ _ _ _ _ _ _ _)
   |(with_reducible exact shape_Move.mono _ _ _ _ _)
   |(with_reducible exact LeO.refl _)
   |(with_reducible exact LeO.none _)
   |(with_reducible refine LeO.ite ?_ ?_)
   |(with_reducible refine LeO.bind ?_ (fun _=> ?_))
   |exact ih0 _ _ _ _ _ _ _ _ _
   |exact law12_Great.mono _ _
   |exact law15_same.mono _ _ _ _ _
   |exact r10_Create.mono _ _ _ _ _ _ _
   |exact r10_Delete.mono _ _ _ _
   |exact r10_Do.mono _ _ _ _ _ _ _ _ _
   |exact r10_Limit.mono _ _ _ _ _ _ _
   |exact r10_Move.mono _ _ _ _ _
   |exact r10_Right.mono _ _
   |exact r10_SameItems.mono _ _ _
   |exact shape_Delete.mono _ _ _ _
   |exact shape_Do.mono _ _ _ _ _ _ _ _ _
   |exact shape_Move.mono _ _ _ _ _
   |exact LeO.none _
   |refine LeO.ite ?_ ?_
   |refine LeO.bind ?_ (fun _=> ?_)
theorem law15_ShapeAll.mono: ∀a0 a1 a2 a3 a4 a5 a6 a7 k,LeO (law15_ShapeAll.f k a0 a1 a2 a3 a4 a5 a6 a7) (law15_ShapeAll.f (k+1) a0 a1 a2 a3 a4 a5 a6 a7):=by
 intro a0 a1 a2 a3 a4 a5 a6 a7 k
 have ih0:=law15_ShapeAll.mono_l k
 unfold law15_ShapeAll.f
 repeat' first
  |(with_reducible exact ih0 _ _ _ _ _ _ _ _ _)
  |(with_reducible exact law12_Great.mono _ _)
  |(with_reducible exact law15_same.mono _ _ _ _ _)
  |(with_reducible exact r10_Create.mono _ _ _ _ _ _ _)
  |(with_reducible exact r10_Delete.mono _ _ _ _)
  |(with_reducible exact r10_Do.mono _ _ _ _ _ _ _ _ _)
  |(with_reducible exact r10_Limit.mono _ _ _ _ _ _ _)
  |(with_reducible exact r10_Move.mono _ _ _ _ _)
  |(with_reducible exact r10_Right.mono _ _)
  |(with_reducible exact r10_SameItems.mono _ _ _)
  |(with_reducible exact shape_Delete.mono _ _ _ _)
  |(with_reducible exact shape_Do.mono _ _ _ _ _ _ _ _ _)
  |(with_reducible exact shape_Move.mono _ _ _ _ _)
  |(with_reducible exact LeO.refl _)
  |(with_reducible exact LeO.none _)
  |(with_reducible refine LeO.ite ?_ ?_)
  |(with_reducible refine LeO.bind ?_ (fun _=> ?_))
  |exact ih0 _ _ _ _ _ _ _ _ _
  |exact law12_Great.mono _ _
  |exact law15_same.mono _ _ _ _ _
  |exact r10_Create.mono _ _ _ _ _ _ _
  |exact r10_Delete.mono _ _ _ _
  |exact r10_Do.mono _ _ _ _ _ _ _ _ _
  |exact r10_Limit.mono _ _ _ _ _ _ _
  |exact r10_Move.mono _ _ _ _ _
  |exact r10_Right.mono _ _
  |exact r10_SameItems.mono _ _ _
  |exact shape_Delete.mono _ _ _ _
  |exact shape_Do.mono _ _ _ _ _ _ _ _ _
  |exact shape_Move.mono _ _ _ _ _
  |exact LeO.none _
  |refine LeO.ite ?_ ?_
  |refine LeO.bind ?_ (fun _=> ?_)
set_option maxHeartbeats 80000000 in
set_option maxRecDepth 100000 in
theorem law15_ShapeAll.calls (k:Nat) (A0:Option Addr) (c0:Nat) (l0:List (S31)) (a1_0:Int) (a1_1:ByteArray) (a1_2:ByteArray) (a1_3:Int) (a1_4:Int) (a1_5:Int) (a2:Int) (r:Bool) (w:World) (hr0:Kd.C k31 w A0 l0.length l0) (hc0:l0.length≤c0) (h:law15_ShapeAll.f k l0 a1_0 a1_1 a1_2 a1_3 a1_4 a1_5 a2=some r):
  Calls Try.prog 25 #[.slice A0 l0.length c0, .agg #[.int .i64 a1_0, .string a1_1, .string a1_2, .int .i64 a1_3, .int .i64 a1_4, .int .i64 a1_5], .int .i64 a2] w fun e w'=>e= .returned (.bool r)∧Below w.heap.size w w':=by
 have hu58:=Try.underlying58
 have hu27:=Try.underlying27
 have HR0:=Aside0.mk hr0
 have HC0:=Aside0.mk hc0
 clear hr0 hc0
 have HB:=am_ (Below.refl w.heap.size w)
 have H:((law12_Great.f k l0).bind fun t2=>(if t2=true then (law15_ShapeAll.j0 k l0 a2 true a1_0 a1_1 a1_2 a1_3 a1_4 a1_5) else (if (a1_1.size:Int)>100 then (law15_ShapeAll.j0 k l0 a2 true a1_0 a1_1 a1_2 a1_3 a1_4 a1_5) else (if (a1_2.size:Int)>100 then (law15_ShapeAll.j0 k l0 a2 true a1_0 a1_1 a1_2 a1_3 a1_4 a1_5) else ((r10_Right.f k l0).bind fun t3=>(law15_ShapeAll.j0 k l0 a2 (!t3) a1_0 a1_1 a1_2 a1_3 a1_4 a1_5))))))=some r:=h
 clear h
 have HC4:=Aside0.mk H
 clear H
 go_enter Try.func25,Try.ntmps25
 go_upto_region 1 with (first|((with_reducible refine gate_dst (N:=4) rfl ?_);(try (refine gate_guard (by rfl) ?_;dsimp only));refine box_event ?hg (N:=4) ?hd (cs:=#[.int .i64 a1_0, .string a1_1, .string a1_2, .int .i64 a1_3, .int .i64 a1_4, .int .i64 a1_5]) (t:=58) ?hr ?_;(case hd=>rfl);(case hg=>rfl);(case hr=>first|(go_simp;done)|(go_simp;rfl));intro gb1 hg w5 hbox hb;have n0_:=am_ (below_step (zl0_ HB) hb);have n1_:=am_ (hbox);have n2_:=am_ ((zg0_ HB hg:w.heap.size≤gb1));have n3_:=am_ ((zg0_ HB hg:w.heap.size≤gb1));clear HB;have HB:=n0_;have BK1:=n1_;have GW1:=n2_;have GE1:=n3_;clear n0_ n1_ n2_ n3_;clear hb hbox hg))
 (try simp only [Act.put,List.setIfInBounds_toArray,List.set_cons_zero,List.set_cons_succ])
 go_cut [36] (fun v36 wc=> ∃(kq:Nat) (x36_3:Bool),v36= .bool x36_3∧Aside0 (law15_ShapeAll.j0 kq l0 a2 x36_3 a1_0 a1_1 a1_2 a1_3 a1_4 a1_5=some r)∧Aside0 (kq≤k)∧Aside0 (wc.heap[gb1]?=some (.cells #[.int .i64 a1_0, .string a1_1, .string a1_2, .int .i64 a1_3, .int .i64 a1_4, .int .i64 a1_5] 58 (0,0)))∧Aside0 (Below w.heap.size w wc))
 case first=>
  have H:=HC4.out
  clear HC4
  replace H:=Option.bind_eq_some_iff.mp H
  obtain ⟨t2,A60,H⟩:=H
  replace H:(if t2=true then (law15_ShapeAll.j0 k l0 a2 true a1_0 a1_1 a1_2 a1_3 a1_4 a1_5) else (if (a1_1.size:Int)>100 then (law15_ShapeAll.j0 k l0 a2 true a1_0 a1_1 a1_2 a1_3 a1_4 a1_5) else (if (a1_2.size:Int)>100 then (law15_ShapeAll.j0 k l0 a2 true a1_0 a1_1 a1_2 a1_3 a1_4 a1_5) else ((r10_Right.f k l0).bind fun t3=>(law15_ShapeAll.j0 k l0 a2 (!t3) a1_0 a1_1 a1_2 a1_3 a1_4 a1_5)))))=some r:=H
  have A6:=Aside0.mk A60
  clear A60
  by_cases c7:t2=true
  ·subst c7
   have H1:(law15_ShapeAll.j0 k l0 a2 true a1_0 a1_1 a1_2 a1_3 a1_4 a1_5)=some r:=by rw [if_pos rfl] at H;exact H
   clear H
   have H:=H1
   clear H1
   have H':=Aside0.mk H
   clear H
   go_wp2_with ((with_reducible refine gate_callee (f:=36) rfl ?_);refine goesL_ (some 19) rfl rfl Try.func36 (by kernel_rfl) rfl #[.slice A0 l0.length c0] rfl zs_ ?_;(with_reducible refine (law12_Great.calls k _ _ l0 true _ ?side1 ?side2 A6.out).mono ?_);(case side1=>exact zc_ (Kd.C_below HR0.out HB.out));(case side2=>exact HC0.out);rintro e w' ⟨rfl,⟨nd,rfl⟩⟩;refine ⟨_,rfl, ?_⟩)
   go_meet
   case rel=>exact ⟨_,(true),(by first|rfl|(simp;done)|(simp [*];done)),H',⟨by first|omega|exact Nat.le_refl _⟩,⟨by refine zk_ ?_;exact BK1.out⟩,⟨zl1_ HB GE1⟩⟩
  ·replace c7:=Bool.eq_false_iff.mpr c7
   subst c7
   have H1:(if (a1_1.size:Int)>100 then (law15_ShapeAll.j0 k l0 a2 true a1_0 a1_1 a1_2 a1_3 a1_4 a1_5) else (if (a1_2.size:Int)>100 then (law15_ShapeAll.j0 k l0 a2 true a1_0 a1_1 a1_2 a1_3 a1_4 a1_5) else ((r10_Right.f k l0).bind fun t3=>(law15_ShapeAll.j0 k l0 a2 (!t3) a1_0 a1_1 a1_2 a1_3 a1_4 a1_5))))=some r:=by rw [if_neg (show¬(false=true) by decide)] at H;exact H
   clear H
   have H:=H1
   clear H1
   by_cases c8:(a1_1.size:Int)>100
   ·rw [if_pos c8] at H
    have c8b0:decide (100<(a1_1.size:Int))=true:=decide_eq_true c8
    have c8b1:decide (100<a1_1.size)=true:=decide_eq_true (by omega)
    clear c8
    (first|rw [c8b0]|(simp only [i64_w,i32_w];rw [c8b0])|skip)
    have H':=Aside0.mk H
    clear H
    go_wp2_with ((with_reducible refine gate_callee (f:=36) rfl ?_);refine goesL_ (some 19) rfl rfl Try.func36 (by kernel_rfl) rfl #[.slice A0 l0.length c0] rfl zs_ ?_;(with_reducible refine (law12_Great.calls k _ _ l0 false _ ?side1 ?side2 A6.out).mono ?_);(case side1=>exact zc_ (Kd.C_below HR0.out HB.out));(case side2=>exact HC0.out);rintro e w' ⟨rfl,⟨nd,rfl⟩⟩;refine ⟨_,rfl, ?_⟩;have hcz9_0:w5.cell? ⟨gb1,0,none⟩=some (.int .i64 a1_0):=(blk_cell BK1.out 0).trans rfl;have hcz9_1:w5.cell? ⟨gb1,1,none⟩=some (.string a1_1):=(blk_cell BK1.out 1).trans rfl;have hcz9_2:w5.cell? ⟨gb1,2,none⟩=some (.string a1_2):=(blk_cell BK1.out 2).trans rfl;have hcz9_3:w5.cell? ⟨gb1,3,none⟩=some (.int .i64 a1_3):=(blk_cell BK1.out 3).trans rfl;have hcz9_4:w5.cell? ⟨gb1,4,none⟩=some (.int .i64 a1_4):=(blk_cell BK1.out 4).trans rfl;have hcz9_5:w5.cell? ⟨gb1,5,none⟩=some (.int .i64 a1_5):=(blk_cell BK1.out 5).trans rfl;have hfz9_0:=blk_frozen BK1.out 0;have hfz9_1:=blk_frozen BK1.out 1;have hfz9_2:=blk_frozen BK1.out 2;have hfz9_3:=blk_frozen BK1.out 3;have hfz9_4:=blk_frozen BK1.out 4;have hfz9_5:=blk_frozen BK1.out 5)
    go_meet
    case rel=>exact ⟨_,(true),(by first|rfl|(simp;done)|(simp [*];done)),H',⟨by first|omega|exact Nat.le_refl _⟩,⟨by refine zk_ ?_;exact BK1.out⟩,⟨zl1_ HB GE1⟩⟩
   ·rw [if_neg c8] at H
    have c8b0:decide (100<(a1_1.size:Int))=false:=decide_eq_false c8
    have c8b1:decide (100<a1_1.size)=false:=decide_eq_false (by omega)
    clear c8
    (first|rw [c8b0]|(simp only [i64_w,i32_w];rw [c8b0])|skip)
    by_cases c10:(a1_2.size:Int)>100
    ·rw [if_pos c10] at H
     have c10b0:decide (100<(a1_2.size:Int))=true:=decide_eq_true c10
     have c10b1:decide (100<a1_2.size)=true:=decide_eq_true (by omega)
     clear c10
     have H':=Aside0.mk H
     clear H
     go_wp2_with ((with_reducible refine gate_callee (f:=36) rfl ?_);refine goesL_ (some 19) rfl rfl Try.func36 (by kernel_rfl) rfl #[.slice A0 l0.length c0] rfl zs_ ?_;(with_reducible refine (law12_Great.calls k _ _ l0 false _ ?side1 ?side2 A6.out).mono ?_);(case side1=>exact zc_ (Kd.C_below HR0.out HB.out));(case side2=>exact HC0.out);rintro e w' ⟨rfl,⟨nd,rfl⟩⟩;refine ⟨_,rfl, ?_⟩;have hcz11_0:w5.cell? ⟨gb1,0,none⟩=some (.int .i64 a1_0):=(blk_cell BK1.out 0).trans rfl;have hcz11_1:w5.cell? ⟨gb1,1,none⟩=some (.string a1_1):=(blk_cell BK1.out 1).trans rfl;have hcz11_2:w5.cell? ⟨gb1,2,none⟩=some (.string a1_2):=(blk_cell BK1.out 2).trans rfl;have hcz11_3:w5.cell? ⟨gb1,3,none⟩=some (.int .i64 a1_3):=(blk_cell BK1.out 3).trans rfl;have hcz11_4:w5.cell? ⟨gb1,4,none⟩=some (.int .i64 a1_4):=(blk_cell BK1.out 4).trans rfl;have hcz11_5:w5.cell? ⟨gb1,5,none⟩=some (.int .i64 a1_5):=(blk_cell BK1.out 5).trans rfl;have hfz11_0:=blk_frozen BK1.out 0;have hfz11_1:=blk_frozen BK1.out 1;have hfz11_2:=blk_frozen BK1.out 2;have hfz11_3:=blk_frozen BK1.out 3;have hfz11_4:=blk_frozen BK1.out 4;have hfz11_5:=blk_frozen BK1.out 5)
     go_meet
     case rel=>exact ⟨_,(true),(by first|rfl|(simp;done)|(simp [*];done)),H',⟨by first|omega|exact Nat.le_refl _⟩,⟨by refine zk_ ?_;exact BK1.out⟩,⟨zl1_ HB GE1⟩⟩
    ·rw [if_neg c10] at H
     have c10b0:decide (100<(a1_2.size:Int))=false:=decide_eq_false c10
     have c10b1:decide (100<a1_2.size)=false:=decide_eq_false (by omega)
     clear c10
     replace H:=Option.bind_eq_some_iff.mp H
     obtain ⟨t3,A120,H⟩:=H
     replace H:(law15_ShapeAll.j0 k l0 a2 (!t3) a1_0 a1_1 a1_2 a1_3 a1_4 a1_5)=some r:=H
     have A12:=Aside0.mk A120
     clear A120
     have H':=Aside0.mk H
     clear H
     go_wp2_with (first|((with_reducible refine gate_callee (f:=36) rfl ?_);refine goesL_ (some 19) rfl rfl Try.func36 (by kernel_rfl) rfl #[.slice A0 l0.length c0] rfl zs_ ?_;(with_reducible refine (law12_Great.calls k _ _ l0 false _ ?side1 ?side2 A6.out).mono ?_);(case side1=>exact zc_ (Kd.C_below HR0.out HB.out));(case side2=>exact HC0.out);rintro e w' ⟨rfl,⟨nd,rfl⟩⟩;refine ⟨_,rfl, ?_⟩;have hcz13_0:w5.cell? ⟨gb1,0,none⟩=some (.int .i64 a1_0):=(blk_cell BK1.out 0).trans rfl;have hcz13_1:w5.cell? ⟨gb1,1,none⟩=some (.string a1_1):=(blk_cell BK1.out 1).trans rfl;have hcz13_2:w5.cell? ⟨gb1,2,none⟩=some (.string a1_2):=(blk_cell BK1.out 2).trans rfl;have hcz13_3:w5.cell? ⟨gb1,3,none⟩=some (.int .i64 a1_3):=(blk_cell BK1.out 3).trans rfl;have hcz13_4:w5.cell? ⟨gb1,4,none⟩=some (.int .i64 a1_4):=(blk_cell BK1.out 4).trans rfl;have hcz13_5:w5.cell? ⟨gb1,5,none⟩=some (.int .i64 a1_5):=(blk_cell BK1.out 5).trans rfl;have hfz13_0:=blk_frozen BK1.out 0;have hfz13_1:=blk_frozen BK1.out 1;have hfz13_2:=blk_frozen BK1.out 2;have hfz13_3:=blk_frozen BK1.out 3;have hfz13_4:=blk_frozen BK1.out 4;have hfz13_5:=blk_frozen BK1.out 5)|(go_at_call 41;(with_reducible refine (r10_Right.calls k _ _ l0 t3 _ ?side1 ?side2 A12.out).mono ?_);(case side1=>repeat (first|exact (Kd.C_below HR0.out (zl1_ HB GE1))|(with_reducible refine Kd.C_alloc ?_ _)|(with_reducible refine Kd.C_drewN ?_ _)|(with_reducible refine Kd.C_drew ?_)));(case side2=>exact HC0.out);rintro e w14 ⟨rfl,hb⟩;have n0_:=am_ (blk_below (zb_ BK1) hb);have n1_:=am_ (below_step (zl1_ HB GE1) hb);clear BK1;clear HB;have BK1:=n0_;have HB:=n1_;clear n0_ n1_;(try clear hb);(try clear hb2);(try clear hk);(try clear hi)))
     go_meet
     case rel=>exact ⟨_,(!t3),(by first|rfl|(simp;done)|(simp [*];done)),H',⟨by first|omega|exact Nat.le_refl _⟩,⟨by refine zk_ ?_;exact BK1.out⟩,⟨zl1_ HB GE1⟩⟩
 case rest=>
  clear HC4
  try clear c1
  try clear c2
  try clear p2
  try clear c3
  try clear c7
  try clear c8
  try clear c8b0
  try clear c8b1
  try clear c10
  try clear c10b0
  try clear c10b1
  try clear hcz11_0
  try clear hcz11_1
  try clear hcz11_2
  try clear hcz11_3
  try clear hcz11_4
  try clear hcz11_5
  try clear hcz13_0
  try clear hcz13_1
  try clear hcz13_2
  try clear hcz13_3
  try clear hcz13_4
  try clear hcz13_5
  try clear hcz9_0
  try clear hcz9_1
  try clear hcz9_2
  try clear hcz9_3
  try clear hcz9_4
  try clear hcz9_5
  try clear hfz11_0
  try clear hfz11_1
  try clear hfz11_2
  try clear hfz11_3
  try clear hfz11_4
  try clear hfz11_5
  try clear hfz13_0
  try clear hfz13_1
  try clear hfz13_2
  try clear hfz13_3
  try clear hfz13_4
  try clear hfz13_5
  try clear hfz9_0
  try clear hfz9_1
  try clear hfz9_2
  try clear hfz9_3
  try clear hfz9_4
  try clear hfz9_5
  obtain ⟨kq,x36_3,rfl,HA,HJ3,BK1,HB⟩:=hcut
  cases kq with
  |zero=>exact absurd HA.out (by simp [law15_ShapeAll.j0])
  |succ kj3=>
   have H:=HA.out
   clear HA
   simp only [law15_ShapeAll.j0] at H
   by_cases c15:x36_3=true
   ·subst c15
    have H1:((law15_awake.f).bind fun t4=>(some t4))=some r:=by rw [if_pos rfl] at H;exact H
    clear H
    have H:=H1
    clear H1
    replace H:=Option.bind_eq_some_iff.mp H
    obtain ⟨t4,A160,H⟩:=H
    replace H:(some t4)=some r:=H
    have A16:=Aside0.mk A160
    clear A160
    obtain rfl:=Option.some.inj H
    go_wp2_with ((with_reducible refine gate_callee (f:=85) rfl ?_);refine goesL_ (some 37) rfl rfl Try.func85 (by kernel_rfl) rfl #[] rfl zs_ ?_;(with_reducible refine (law15_awake.calls t4 _ A16.out).mono ?_);rintro e w17 ⟨rfl,hb⟩;refine ⟨_,rfl, ?_⟩;have n0_:=am_ (blk_below (zb_ BK1) hb);have n1_:=am_ (below_step (zl1_ HB GE1) hb);clear BK1;clear HB;have BK1:=n0_;have HB:=n1_;clear n0_ n1_;(try clear hb);(try clear hb2);(try clear hk);(try clear hi))
    go_ret
    exact ⟨by first|rfl|(simp [errW_none,errW_some]<;>rfl)|(simp [*,errW_none,errW_some]<;>rfl),zl1_ HB GE1⟩
   ·replace c15:=Bool.eq_false_iff.mpr c15
    subst c15
    have H1:((some (([]:List (S31)):List (S31))).bind fun y5=>(if y5.length+l0.length<1256584717458 then ((shape_Create.f l0 a1_1 a1_2 a1_3 a1_4 a1_5).bind fun bt11=>((shape_Limit.f l0 a1_1 a1_3 a1_4 a1_5 a2).bind fun bt15=>((shape_Move.f kj3 l0 a1_1 a1_2 a2).bind fun bt19=>((shape_Delete.f kj3 l0 a1_1 a2).bind fun bt23=>((shape_Do.f kj3 l0 a1_0 a1_1 a1_2 a1_3 a1_4 a1_5 a2).bind fun bt27=>((r10_Create.f kj3 l0 a1_1 a1_2 a1_3 a1_4 a1_5).bind fun bt31=>((law15_same.f kj3 bt11.1 bt11.2 bt31.1 bt31.2).bind fun t35=>(if t35=true then ((r10_Limit.f kj3 l0 a1_1 a1_3 a1_4 a1_5 a2).bind fun bt36=>((law15_same.f kj3 bt15.1 bt15.2 bt36.1 bt36.2).bind fun t40=>(if t40=true then ((r10_Move.f kj3 l0 a1_1 a1_2 a2).bind fun bt41=>((law15_same.f kj3 bt19.1 bt19.2 bt41.1 bt41.2).bind fun t45=>(if t45=true then ((r10_Delete.f kj3 l0 a1_1 a2).bind fun bt46=>((law15_same.f kj3 bt23.1 bt23.2 bt46.1 bt46.2).bind fun t50=>(if t50=true then ((r10_Do.f kj3 l0 a1_0 a1_1 a1_2 a1_3 a1_4 a1_5 a2).bind fun bt51=>((law15_same.f kj3 bt27.1 bt27.2 bt51.1 bt51.2).bind fun t55=>(if t55=true then ((r10_SameItems.f kj3 l0 (y5++l0)).bind fun t56=>(if t56=true then ((law15_awake.f).bind fun t57=>(some t57)) else (none))) else (none)))) else (none)))) else (none)))) else (none)))) else (none))))))))) else (none)))=some r:=by rw [if_neg (show¬(false=true) by decide)] at H;exact H
    clear H
    have H:=H1
    clear H1
    obtain ⟨y5,hy5⟩: ∃y_:List (S31),y_=(([]:List (S31))):=⟨_,rfl⟩
    replace H:(if y5.length+l0.length<1256584717458 then ((shape_Create.f l0 a1_1 a1_2 a1_3 a1_4 a1_5).bind fun bt11=>((shape_Limit.f l0 a1_1 a1_3 a1_4 a1_5 a2).bind fun bt15=>((shape_Move.f kj3 l0 a1_1 a1_2 a2).bind fun bt19=>((shape_Delete.f kj3 l0 a1_1 a2).bind fun bt23=>((shape_Do.f kj3 l0 a1_0 a1_1 a1_2 a1_3 a1_4 a1_5 a2).bind fun bt27=>((r10_Create.f kj3 l0 a1_1 a1_2 a1_3 a1_4 a1_5).bind fun bt31=>((law15_same.f kj3 bt11.1 bt11.2 bt31.1 bt31.2).bind fun t35=>(if t35=true then ((r10_Limit.f kj3 l0 a1_1 a1_3 a1_4 a1_5 a2).bind fun bt36=>((law15_same.f kj3 bt15.1 bt15.2 bt36.1 bt36.2).bind fun t40=>(if t40=true then ((r10_Move.f kj3 l0 a1_1 a1_2 a2).bind fun bt41=>((law15_same.f kj3 bt19.1 bt19.2 bt41.1 bt41.2).bind fun t45=>(if t45=true then ((r10_Delete.f kj3 l0 a1_1 a2).bind fun bt46=>((law15_same.f kj3 bt23.1 bt23.2 bt46.1 bt46.2).bind fun t50=>(if t50=true then ((r10_Do.f kj3 l0 a1_0 a1_1 a1_2 a1_3 a1_4 a1_5 a2).bind fun bt51=>((law15_same.f kj3 bt27.1 bt27.2 bt51.1 bt51.2).bind fun t55=>(if t55=true then ((r10_SameItems.f kj3 l0 (y5++l0)).bind fun t56=>(if t56=true then ((law15_awake.f).bind fun t57=>(some t57)) else (none))) else (none)))) else (none)))) else (none)))) else (none)))) else (none))))))))) else (none))=some r:=by first|(rw [hy5];with_reducible exact H)|(have H2_:=(Option.bind_some _ _).symm.trans H;rw [hy5];with_reducible exact H2_)|(have H2_:=(Option.bind_some _ _).symm.trans H;with_reducible exact H2_)|with_reducible exact H|(rw [hy5];exact H)|exact H
    have Ny5:=Aside0.mk hy5
    clear hy5
    by_cases c18:y5.length+l0.length<1256584717458
    ·rw [if_pos c18] at H
     have LMc18:=Aside0.mk c18
     clear c18
     obtain ⟨y8,hy8⟩: ∃y_:List (S31),y_=(y5++l0):=⟨_,rfl⟩
     replace H:((shape_Create.f l0 a1_1 a1_2 a1_3 a1_4 a1_5).bind fun bt11=>((shape_Limit.f l0 a1_1 a1_3 a1_4 a1_5 a2).bind fun bt15=>((shape_Move.f kj3 l0 a1_1 a1_2 a2).bind fun bt19=>((shape_Delete.f kj3 l0 a1_1 a2).bind fun bt23=>((shape_Do.f kj3 l0 a1_0 a1_1 a1_2 a1_3 a1_4 a1_5 a2).bind fun bt27=>((r10_Create.f kj3 l0 a1_1 a1_2 a1_3 a1_4 a1_5).bind fun bt31=>((law15_same.f kj3 bt11.1 bt11.2 bt31.1 bt31.2).bind fun t35=>(if t35=true then ((r10_Limit.f kj3 l0 a1_1 a1_3 a1_4 a1_5 a2).bind fun bt36=>((law15_same.f kj3 bt15.1 bt15.2 bt36.1 bt36.2).bind fun t40=>(if t40=true then ((r10_Move.f kj3 l0 a1_1 a1_2 a2).bind fun bt41=>((law15_same.f kj3 bt19.1 bt19.2 bt41.1 bt41.2).bind fun t45=>(if t45=true then ((r10_Delete.f kj3 l0 a1_1 a2).bind fun bt46=>((law15_same.f kj3 bt23.1 bt23.2 bt46.1 bt46.2).bind fun t50=>(if t50=true then ((r10_Do.f kj3 l0 a1_0 a1_1 a1_2 a1_3 a1_4 a1_5 a2).bind fun bt51=>((law15_same.f kj3 bt27.1 bt27.2 bt51.1 bt51.2).bind fun t55=>(if t55=true then ((r10_SameItems.f kj3 l0 y8).bind fun t56=>(if t56=true then ((law15_awake.f).bind fun t57=>(some t57)) else (none))) else (none)))) else (none)))) else (none)))) else (none)))) else (none)))))))))=some r:=by first|(rw [hy8];with_reducible exact H)|(have H2_:=(Option.bind_some _ _).symm.trans H;rw [hy8];with_reducible exact H2_)|(have H2_:=(Option.bind_some _ _).symm.trans H;with_reducible exact H2_)|with_reducible exact H|(rw [hy8];exact H)|exact H
     have Ny8:=Aside0.mk hy8
     clear hy8
     replace H:=Option.bind_eq_some_iff.mp H
     obtain ⟨⟨t11,t14⟩,A190,H⟩:=H
     replace H:((shape_Limit.f l0 a1_1 a1_3 a1_4 a1_5 a2).bind fun bt15=>((shape_Move.f kj3 l0 a1_1 a1_2 a2).bind fun bt19=>((shape_Delete.f kj3 l0 a1_1 a2).bind fun bt23=>((shape_Do.f kj3 l0 a1_0 a1_1 a1_2 a1_3 a1_4 a1_5 a2).bind fun bt27=>((r10_Create.f kj3 l0 a1_1 a1_2 a1_3 a1_4 a1_5).bind fun bt31=>((law15_same.f kj3 t11 t14 bt31.1 bt31.2).bind fun t35=>(if t35=true then ((r10_Limit.f kj3 l0 a1_1 a1_3 a1_4 a1_5 a2).bind fun bt36=>((law15_same.f kj3 bt15.1 bt15.2 bt36.1 bt36.2).bind fun t40=>(if t40=true then ((r10_Move.f kj3 l0 a1_1 a1_2 a2).bind fun bt41=>((law15_same.f kj3 bt19.1 bt19.2 bt41.1 bt41.2).bind fun t45=>(if t45=true then ((r10_Delete.f kj3 l0 a1_1 a2).bind fun bt46=>((law15_same.f kj3 bt23.1 bt23.2 bt46.1 bt46.2).bind fun t50=>(if t50=true then ((r10_Do.f kj3 l0 a1_0 a1_1 a1_2 a1_3 a1_4 a1_5 a2).bind fun bt51=>((law15_same.f kj3 bt27.1 bt27.2 bt51.1 bt51.2).bind fun t55=>(if t55=true then ((r10_SameItems.f kj3 l0 y8).bind fun t56=>(if t56=true then ((law15_awake.f).bind fun t57=>(some t57)) else (none))) else (none)))) else (none)))) else (none)))) else (none)))) else (none))))))))=some r:=H
     have A19:=Aside0.mk A190
     clear A190
     replace H:=Option.bind_eq_some_iff.mp H
     obtain ⟨⟨t15,t18⟩,A200,H⟩:=H
     replace H:((shape_Move.f kj3 l0 a1_1 a1_2 a2).bind fun bt19=>((shape_Delete.f kj3 l0 a1_1 a2).bind fun bt23=>((shape_Do.f kj3 l0 a1_0 a1_1 a1_2 a1_3 a1_4 a1_5 a2).bind fun bt27=>((r10_Create.f kj3 l0 a1_1 a1_2 a1_3 a1_4 a1_5).bind fun bt31=>((law15_same.f kj3 t11 t14 bt31.1 bt31.2).bind fun t35=>(if t35=true then ((r10_Limit.f kj3 l0 a1_1 a1_3 a1_4 a1_5 a2).bind fun bt36=>((law15_same.f kj3 t15 t18 bt36.1 bt36.2).bind fun t40=>(if t40=true then ((r10_Move.f kj3 l0 a1_1 a1_2 a2).bind fun bt41=>((law15_same.f kj3 bt19.1 bt19.2 bt41.1 bt41.2).bind fun t45=>(if t45=true then ((r10_Delete.f kj3 l0 a1_1 a2).bind fun bt46=>((law15_same.f kj3 bt23.1 bt23.2 bt46.1 bt46.2).bind fun t50=>(if t50=true then ((r10_Do.f kj3 l0 a1_0 a1_1 a1_2 a1_3 a1_4 a1_5 a2).bind fun bt51=>((law15_same.f kj3 bt27.1 bt27.2 bt51.1 bt51.2).bind fun t55=>(if t55=true then ((r10_SameItems.f kj3 l0 y8).bind fun t56=>(if t56=true then ((law15_awake.f).bind fun t57=>(some t57)) else (none))) else (none)))) else (none)))) else (none)))) else (none)))) else (none)))))))=some r:=H
     have A20:=Aside0.mk A200
     clear A200
     replace H:=Option.bind_eq_some_iff.mp H
     obtain ⟨⟨t19,t20⟩,A210,H⟩:=H
     replace H:((shape_Delete.f kj3 l0 a1_1 a2).bind fun bt23=>((shape_Do.f kj3 l0 a1_0 a1_1 a1_2 a1_3 a1_4 a1_5 a2).bind fun bt27=>((r10_Create.f kj3 l0 a1_1 a1_2 a1_3 a1_4 a1_5).bind fun bt31=>((law15_same.f kj3 t11 t14 bt31.1 bt31.2).bind fun t35=>(if t35=true then ((r10_Limit.f kj3 l0 a1_1 a1_3 a1_4 a1_5 a2).bind fun bt36=>((law15_same.f kj3 t15 t18 bt36.1 bt36.2).bind fun t40=>(if t40=true then ((r10_Move.f kj3 l0 a1_1 a1_2 a2).bind fun bt41=>((law15_same.f kj3 t19 t20 bt41.1 bt41.2).bind fun t45=>(if t45=true then ((r10_Delete.f kj3 l0 a1_1 a2).bind fun bt46=>((law15_same.f kj3 bt23.1 bt23.2 bt46.1 bt46.2).bind fun t50=>(if t50=true then ((r10_Do.f kj3 l0 a1_0 a1_1 a1_2 a1_3 a1_4 a1_5 a2).bind fun bt51=>((law15_same.f kj3 bt27.1 bt27.2 bt51.1 bt51.2).bind fun t55=>(if t55=true then ((r10_SameItems.f kj3 l0 y8).bind fun t56=>(if t56=true then ((law15_awake.f).bind fun t57=>(some t57)) else (none))) else (none)))) else (none)))) else (none)))) else (none)))) else (none))))))=some r:=H
     have A21:=Aside0.mk A210
     clear A210
     replace H:=Option.bind_eq_some_iff.mp H
     obtain ⟨⟨t23,t24⟩,A220,H⟩:=H
     replace H:((shape_Do.f kj3 l0 a1_0 a1_1 a1_2 a1_3 a1_4 a1_5 a2).bind fun bt27=>((r10_Create.f kj3 l0 a1_1 a1_2 a1_3 a1_4 a1_5).bind fun bt31=>((law15_same.f kj3 t11 t14 bt31.1 bt31.2).bind fun t35=>(if t35=true then ((r10_Limit.f kj3 l0 a1_1 a1_3 a1_4 a1_5 a2).bind fun bt36=>((law15_same.f kj3 t15 t18 bt36.1 bt36.2).bind fun t40=>(if t40=true then ((r10_Move.f kj3 l0 a1_1 a1_2 a2).bind fun bt41=>((law15_same.f kj3 t19 t20 bt41.1 bt41.2).bind fun t45=>(if t45=true then ((r10_Delete.f kj3 l0 a1_1 a2).bind fun bt46=>((law15_same.f kj3 t23 t24 bt46.1 bt46.2).bind fun t50=>(if t50=true then ((r10_Do.f kj3 l0 a1_0 a1_1 a1_2 a1_3 a1_4 a1_5 a2).bind fun bt51=>((law15_same.f kj3 bt27.1 bt27.2 bt51.1 bt51.2).bind fun t55=>(if t55=true then ((r10_SameItems.f kj3 l0 y8).bind fun t56=>(if t56=true then ((law15_awake.f).bind fun t57=>(some t57)) else (none))) else (none)))) else (none)))) else (none)))) else (none)))) else (none)))))=some r:=H
     have A22:=Aside0.mk A220
     clear A220
     replace H:=Option.bind_eq_some_iff.mp H
     obtain ⟨⟨t27,t30⟩,A230,H⟩:=H
     replace H:((r10_Create.f kj3 l0 a1_1 a1_2 a1_3 a1_4 a1_5).bind fun bt31=>((law15_same.f kj3 t11 t14 bt31.1 bt31.2).bind fun t35=>(if t35=true then ((r10_Limit.f kj3 l0 a1_1 a1_3 a1_4 a1_5 a2).bind fun bt36=>((law15_same.f kj3 t15 t18 bt36.1 bt36.2).bind fun t40=>(if t40=true then ((r10_Move.f kj3 l0 a1_1 a1_2 a2).bind fun bt41=>((law15_same.f kj3 t19 t20 bt41.1 bt41.2).bind fun t45=>(if t45=true then ((r10_Delete.f kj3 l0 a1_1 a2).bind fun bt46=>((law15_same.f kj3 t23 t24 bt46.1 bt46.2).bind fun t50=>(if t50=true then ((r10_Do.f kj3 l0 a1_0 a1_1 a1_2 a1_3 a1_4 a1_5 a2).bind fun bt51=>((law15_same.f kj3 t27 t30 bt51.1 bt51.2).bind fun t55=>(if t55=true then ((r10_SameItems.f kj3 l0 y8).bind fun t56=>(if t56=true then ((law15_awake.f).bind fun t57=>(some t57)) else (none))) else (none)))) else (none)))) else (none)))) else (none)))) else (none))))=some r:=H
     have A23:=Aside0.mk A230
     clear A230
     replace H:=Option.bind_eq_some_iff.mp H
     obtain ⟨⟨t31,t34⟩,A240,H⟩:=H
     replace H:((law15_same.f kj3 t11 t14 t31 t34).bind fun t35=>(if t35=true then ((r10_Limit.f kj3 l0 a1_1 a1_3 a1_4 a1_5 a2).bind fun bt36=>((law15_same.f kj3 t15 t18 bt36.1 bt36.2).bind fun t40=>(if t40=true then ((r10_Move.f kj3 l0 a1_1 a1_2 a2).bind fun bt41=>((law15_same.f kj3 t19 t20 bt41.1 bt41.2).bind fun t45=>(if t45=true then ((r10_Delete.f kj3 l0 a1_1 a2).bind fun bt46=>((law15_same.f kj3 t23 t24 bt46.1 bt46.2).bind fun t50=>(if t50=true then ((r10_Do.f kj3 l0 a1_0 a1_1 a1_2 a1_3 a1_4 a1_5 a2).bind fun bt51=>((law15_same.f kj3 t27 t30 bt51.1 bt51.2).bind fun t55=>(if t55=true then ((r10_SameItems.f kj3 l0 y8).bind fun t56=>(if t56=true then ((law15_awake.f).bind fun t57=>(some t57)) else (none))) else (none)))) else (none)))) else (none)))) else (none)))) else (none)))=some r:=H
     have A24:=Aside0.mk A240
     clear A240
     replace H:=Option.bind_eq_some_iff.mp H
     obtain ⟨t35,A250,H⟩:=H
     replace H:(if t35=true then ((r10_Limit.f kj3 l0 a1_1 a1_3 a1_4 a1_5 a2).bind fun bt36=>((law15_same.f kj3 t15 t18 bt36.1 bt36.2).bind fun t40=>(if t40=true then ((r10_Move.f kj3 l0 a1_1 a1_2 a2).bind fun bt41=>((law15_same.f kj3 t19 t20 bt41.1 bt41.2).bind fun t45=>(if t45=true then ((r10_Delete.f kj3 l0 a1_1 a2).bind fun bt46=>((law15_same.f kj3 t23 t24 bt46.1 bt46.2).bind fun t50=>(if t50=true then ((r10_Do.f kj3 l0 a1_0 a1_1 a1_2 a1_3 a1_4 a1_5 a2).bind fun bt51=>((law15_same.f kj3 t27 t30 bt51.1 bt51.2).bind fun t55=>(if t55=true then ((r10_SameItems.f kj3 l0 y8).bind fun t56=>(if t56=true then ((law15_awake.f).bind fun t57=>(some t57)) else (none))) else (none)))) else (none)))) else (none)))) else (none)))) else (none))=some r:=H
     have A25:=Aside0.mk A250
     clear A250
     by_cases c26:t35=true
     ·subst c26
      have H1:((r10_Limit.f kj3 l0 a1_1 a1_3 a1_4 a1_5 a2).bind fun bt36=>((law15_same.f kj3 t15 t18 bt36.1 bt36.2).bind fun t40=>(if t40=true then ((r10_Move.f kj3 l0 a1_1 a1_2 a2).bind fun bt41=>((law15_same.f kj3 t19 t20 bt41.1 bt41.2).bind fun t45=>(if t45=true then ((r10_Delete.f kj3 l0 a1_1 a2).bind fun bt46=>((law15_same.f kj3 t23 t24 bt46.1 bt46.2).bind fun t50=>(if t50=true then ((r10_Do.f kj3 l0 a1_0 a1_1 a1_2 a1_3 a1_4 a1_5 a2).bind fun bt51=>((law15_same.f kj3 t27 t30 bt51.1 bt51.2).bind fun t55=>(if t55=true then ((r10_SameItems.f kj3 l0 y8).bind fun t56=>(if t56=true then ((law15_awake.f).bind fun t57=>(some t57)) else (none))) else (none)))) else (none)))) else (none)))) else (none))))=some r:=by rw [if_pos rfl] at H;exact H
      clear H
      have H:=H1
      clear H1
      replace H:=Option.bind_eq_some_iff.mp H
      obtain ⟨⟨t36,t39⟩,A270,H⟩:=H
      replace H:((law15_same.f kj3 t15 t18 t36 t39).bind fun t40=>(if t40=true then ((r10_Move.f kj3 l0 a1_1 a1_2 a2).bind fun bt41=>((law15_same.f kj3 t19 t20 bt41.1 bt41.2).bind fun t45=>(if t45=true then ((r10_Delete.f kj3 l0 a1_1 a2).bind fun bt46=>((law15_same.f kj3 t23 t24 bt46.1 bt46.2).bind fun t50=>(if t50=true then ((r10_Do.f kj3 l0 a1_0 a1_1 a1_2 a1_3 a1_4 a1_5 a2).bind fun bt51=>((law15_same.f kj3 t27 t30 bt51.1 bt51.2).bind fun t55=>(if t55=true then ((r10_SameItems.f kj3 l0 y8).bind fun t56=>(if t56=true then ((law15_awake.f).bind fun t57=>(some t57)) else (none))) else (none)))) else (none)))) else (none)))) else (none)))=some r:=H
      have A27:=Aside0.mk A270
      clear A270
      replace H:=Option.bind_eq_some_iff.mp H
      obtain ⟨t40,A280,H⟩:=H
      replace H:(if t40=true then ((r10_Move.f kj3 l0 a1_1 a1_2 a2).bind fun bt41=>((law15_same.f kj3 t19 t20 bt41.1 bt41.2).bind fun t45=>(if t45=true then ((r10_Delete.f kj3 l0 a1_1 a2).bind fun bt46=>((law15_same.f kj3 t23 t24 bt46.1 bt46.2).bind fun t50=>(if t50=true then ((r10_Do.f kj3 l0 a1_0 a1_1 a1_2 a1_3 a1_4 a1_5 a2).bind fun bt51=>((law15_same.f kj3 t27 t30 bt51.1 bt51.2).bind fun t55=>(if t55=true then ((r10_SameItems.f kj3 l0 y8).bind fun t56=>(if t56=true then ((law15_awake.f).bind fun t57=>(some t57)) else (none))) else (none)))) else (none)))) else (none)))) else (none))=some r:=H
      have A28:=Aside0.mk A280
      clear A280
      by_cases c29:t40=true
      ·subst c29
       have H1:((r10_Move.f kj3 l0 a1_1 a1_2 a2).bind fun bt41=>((law15_same.f kj3 t19 t20 bt41.1 bt41.2).bind fun t45=>(if t45=true then ((r10_Delete.f kj3 l0 a1_1 a2).bind fun bt46=>((law15_same.f kj3 t23 t24 bt46.1 bt46.2).bind fun t50=>(if t50=true then ((r10_Do.f kj3 l0 a1_0 a1_1 a1_2 a1_3 a1_4 a1_5 a2).bind fun bt51=>((law15_same.f kj3 t27 t30 bt51.1 bt51.2).bind fun t55=>(if t55=true then ((r10_SameItems.f kj3 l0 y8).bind fun t56=>(if t56=true then ((law15_awake.f).bind fun t57=>(some t57)) else (none))) else (none)))) else (none)))) else (none))))=some r:=by rw [if_pos rfl] at H;exact H
       clear H
       have H:=H1
       clear H1
       replace H:=Option.bind_eq_some_iff.mp H
       obtain ⟨⟨t41,t44⟩,A300,H⟩:=H
       replace H:((law15_same.f kj3 t19 t20 t41 t44).bind fun t45=>(if t45=true then ((r10_Delete.f kj3 l0 a1_1 a2).bind fun bt46=>((law15_same.f kj3 t23 t24 bt46.1 bt46.2).bind fun t50=>(if t50=true then ((r10_Do.f kj3 l0 a1_0 a1_1 a1_2 a1_3 a1_4 a1_5 a2).bind fun bt51=>((law15_same.f kj3 t27 t30 bt51.1 bt51.2).bind fun t55=>(if t55=true then ((r10_SameItems.f kj3 l0 y8).bind fun t56=>(if t56=true then ((law15_awake.f).bind fun t57=>(some t57)) else (none))) else (none)))) else (none)))) else (none)))=some r:=H
       have A30:=Aside0.mk A300
       clear A300
       replace H:=Option.bind_eq_some_iff.mp H
       obtain ⟨t45,A310,H⟩:=H
       replace H:(if t45=true then ((r10_Delete.f kj3 l0 a1_1 a2).bind fun bt46=>((law15_same.f kj3 t23 t24 bt46.1 bt46.2).bind fun t50=>(if t50=true then ((r10_Do.f kj3 l0 a1_0 a1_1 a1_2 a1_3 a1_4 a1_5 a2).bind fun bt51=>((law15_same.f kj3 t27 t30 bt51.1 bt51.2).bind fun t55=>(if t55=true then ((r10_SameItems.f kj3 l0 y8).bind fun t56=>(if t56=true then ((law15_awake.f).bind fun t57=>(some t57)) else (none))) else (none)))) else (none)))) else (none))=some r:=H
       have A31:=Aside0.mk A310
       clear A310
       by_cases c32:t45=true
       ·subst c32
        have H1:((r10_Delete.f kj3 l0 a1_1 a2).bind fun bt46=>((law15_same.f kj3 t23 t24 bt46.1 bt46.2).bind fun t50=>(if t50=true then ((r10_Do.f kj3 l0 a1_0 a1_1 a1_2 a1_3 a1_4 a1_5 a2).bind fun bt51=>((law15_same.f kj3 t27 t30 bt51.1 bt51.2).bind fun t55=>(if t55=true then ((r10_SameItems.f kj3 l0 y8).bind fun t56=>(if t56=true then ((law15_awake.f).bind fun t57=>(some t57)) else (none))) else (none)))) else (none))))=some r:=by rw [if_pos rfl] at H;exact H
        clear H
        have H:=H1
        clear H1
        replace H:=Option.bind_eq_some_iff.mp H
        obtain ⟨⟨t46,t49⟩,A330,H⟩:=H
        replace H:((law15_same.f kj3 t23 t24 t46 t49).bind fun t50=>(if t50=true then ((r10_Do.f kj3 l0 a1_0 a1_1 a1_2 a1_3 a1_4 a1_5 a2).bind fun bt51=>((law15_same.f kj3 t27 t30 bt51.1 bt51.2).bind fun t55=>(if t55=true then ((r10_SameItems.f kj3 l0 y8).bind fun t56=>(if t56=true then ((law15_awake.f).bind fun t57=>(some t57)) else (none))) else (none)))) else (none)))=some r:=H
        have A33:=Aside0.mk A330
        clear A330
        replace H:=Option.bind_eq_some_iff.mp H
        obtain ⟨t50,A340,H⟩:=H
        replace H:(if t50=true then ((r10_Do.f kj3 l0 a1_0 a1_1 a1_2 a1_3 a1_4 a1_5 a2).bind fun bt51=>((law15_same.f kj3 t27 t30 bt51.1 bt51.2).bind fun t55=>(if t55=true then ((r10_SameItems.f kj3 l0 y8).bind fun t56=>(if t56=true then ((law15_awake.f).bind fun t57=>(some t57)) else (none))) else (none)))) else (none))=some r:=H
        have A34:=Aside0.mk A340
        clear A340
        by_cases c35:t50=true
        ·subst c35
         have H1:((r10_Do.f kj3 l0 a1_0 a1_1 a1_2 a1_3 a1_4 a1_5 a2).bind fun bt51=>((law15_same.f kj3 t27 t30 bt51.1 bt51.2).bind fun t55=>(if t55=true then ((r10_SameItems.f kj3 l0 y8).bind fun t56=>(if t56=true then ((law15_awake.f).bind fun t57=>(some t57)) else (none))) else (none))))=some r:=by rw [if_pos rfl] at H;exact H
         clear H
         have H:=H1
         clear H1
         replace H:=Option.bind_eq_some_iff.mp H
         obtain ⟨⟨t51,t54⟩,A360,H⟩:=H
         replace H:((law15_same.f kj3 t27 t30 t51 t54).bind fun t55=>(if t55=true then ((r10_SameItems.f kj3 l0 y8).bind fun t56=>(if t56=true then ((law15_awake.f).bind fun t57=>(some t57)) else (none))) else (none)))=some r:=H
         have A36:=Aside0.mk A360
         clear A360
         replace H:=Option.bind_eq_some_iff.mp H
         obtain ⟨t55,A370,H⟩:=H
         replace H:(if t55=true then ((r10_SameItems.f kj3 l0 y8).bind fun t56=>(if t56=true then ((law15_awake.f).bind fun t57=>(some t57)) else (none))) else (none))=some r:=H
         have A37:=Aside0.mk A370
         clear A370
         by_cases c38:t55=true
         ·subst c38
          have H1:((r10_SameItems.f kj3 l0 y8).bind fun t56=>(if t56=true then ((law15_awake.f).bind fun t57=>(some t57)) else (none)))=some r:=by rw [if_pos rfl] at H;exact H
          clear H
          have H:=H1
          clear H1
          replace H:=Option.bind_eq_some_iff.mp H
          obtain ⟨t56,A390,H⟩:=H
          replace H:(if t56=true then ((law15_awake.f).bind fun t57=>(some t57)) else (none))=some r:=H
          have A39:=Aside0.mk A390
          clear A390
          by_cases c40:t56=true
          ·subst c40
           have H1:((law15_awake.f).bind fun t57=>(some t57))=some r:=by rw [if_pos rfl] at H;exact H
           clear H
           have H:=H1
           clear H1
           replace H:=Option.bind_eq_some_iff.mp H
           obtain ⟨t57,A410,H⟩:=H
           replace H:(some t57)=some r:=H
           have A41:=Aside0.mk A410
           clear A410
           obtain rfl:=Option.some.inj H
           go_wp2_with (first|((with_reducible refine gate_dst (N:=38) rfl ?_);(try (refine gate_guard (by rfl) ?_;dsimp only));refine Kd.R_lit k31 _ 31 ?hg (N:=38) ?hd (xs:=([]:List (S31))) (inner:=[]) (ok:=fun _=>True) (okp:=fun _=>True) ?hr ?hp (fun _ hk=>hk) trivial (Below.refl _ _) (Nat.le_refl _) (by simp) ?_;(case hd=>rfl);(case hg=>rfl);(case hr=>first|(go_simp;done)|(go_simp;rfl));(case hp=>exact (Reps.none _ _));intro v6 w42 ho43 hb hg_ hnew_;clear hg_ hnew_;(first|rw [←Ny5.out] at ho43|(simp only [Int.reduceToNat] at ho43;rw [←Ny5.out] at ho43));have n0_:=am_ (Kd.R_lower ho43 (below_size (zl1_ HB GE1)));have n1_:=am_ (blk_below (zb_ BK1) hb);have n2_:=am_ (below_step (zl1_ HB GE1) hb);clear BK1;clear HB;have HO7:=n0_;have BK1:=n1_;have HB:=n2_;clear n0_ n1_ n2_;clear hb ho43)|((with_reducible refine gate_builtin (b:= .append) (xs:=#[.tmp 38, .tmp 39]) rfl ?_);(try (refine gate_guard (by rfl) ?_;dsimp only));at_builtin;refine Kd.R_append_rows k31 (w0:=w) w.heap.size rfl (.tmp 38) (.tmp 39) 24 31 (.agg #[(.string ⟨#[]⟩),(.string ⟨#[]⟩),(.int .i64 0),(.int .i64 0),(.int .i64 0),(.int .i64 0),(.int .i64 0),(.int .i64 0),(.int .i64 0),(.int .i64 0),(.int .i64 0),(.int .i64 0)]) 112 rfl Try.underlying24 info31 rfl (by decide) (by omega) v6 y5 l0 _ _ _ (fun _=>True) (fun _=>False) rfl rfl ?aO ?aR (fun _ _ h=>h) (fun _ h=>h.elim) ?aF ?aB ?aS ?aL ?_;(case aR=>repeat (first|exact (Kd.C_below HR0.out HB.out)|(with_reducible refine Kd.C_alloc ?_ _)|(with_reducible refine Kd.C_drewN ?_ _)|(with_reducible refine Kd.C_drew ?_)));(case aB=>exact (zl1_ HB GE1));(case aF=>exact (fun _ _=>trivial));(case aO=>exact (zr_ HO7));(case aS=>exact (below_size (zl1_ HB GE1)));(case aL=>have:=LMc18.out;omega);intro v9 w44 ho hb hg hat;rw [←Ny8.out] at ho;have n0_:=am_ (blk_grown (zb_ BK1) hg (Kd.R_ne HO7.out BK1.out (by decide)));have n1_:=am_ (hb);have n2_:=am_ (ho);clear BK1;clear HB;clear HO7;have BK1:=n0_;have HB:=n1_;have HO10:=n2_;clear n0_ n1_ n2_;clear ho hb hg hat;have hcz45_0:w44.cell? ⟨gb1,0,none⟩=some (.int .i64 a1_0):=(blk_cell BK1.out 0).trans rfl;have hcz45_1:w44.cell? ⟨gb1,1,none⟩=some (.string a1_1):=(blk_cell BK1.out 1).trans rfl;have hcz45_2:w44.cell? ⟨gb1,2,none⟩=some (.string a1_2):=(blk_cell BK1.out 2).trans rfl;have hcz45_3:w44.cell? ⟨gb1,3,none⟩=some (.int .i64 a1_3):=(blk_cell BK1.out 3).trans rfl;have hcz45_4:w44.cell? ⟨gb1,4,none⟩=some (.int .i64 a1_4):=(blk_cell BK1.out 4).trans rfl;have hcz45_5:w44.cell? ⟨gb1,5,none⟩=some (.int .i64 a1_5):=(blk_cell BK1.out 5).trans rfl;have hfz45_0:=blk_frozen BK1.out 0;have hfz45_1:=blk_frozen BK1.out 1;have hfz45_2:=blk_frozen BK1.out 2;have hfz45_3:=blk_frozen BK1.out 3;have hfz45_4:=blk_frozen BK1.out 4;have hfz45_5:=blk_frozen BK1.out 5)|((with_reducible refine gate_callee (f:=84) rfl ?_);refine goesL_ (some 49) rfl rfl Try.func84 (by kernel_rfl) rfl #[.slice A0 l0.length c0, .string a1_1, .string a1_2, .agg #[.int .i64 a1_3, .int .i64 a1_4, .int .i64 a1_5]] rfl zs_ ?_;(with_reducible refine (shape_Create.calls _ _ l0 a1_1 a1_2 a1_3 a1_4 a1_5 t11 t14 _ ?side1 ?side2 A19.out).mono ?_);(case side1=>exact zc_ (Kd.C_below HR0.out HB.out));(case side2=>exact HC0.out);rintro e w46 ⟨v12,rfl,ho0,hb⟩;refine ⟨_,rfl, ?_⟩;have n0_:=am_ (Kd.R_elder' (zr_ HO10) (Kd.R_base ho0) hb);have n1_:=am_ (Kd.R_lower (Kd.R_new' ho0 (Kd.R_lt (zr_ HO10))) (below_size (zl1_ HB GE1)));have n2_:=am_ (blk_below (zb_ BK1) hb);have n3_:=am_ (below_step (zl1_ HB GE1) hb);clear HO10;clear BK1;clear HB;have HO10:=n0_;have HO13:=n1_;have BK1:=n2_;have HB:=n3_;clear n0_ n1_ n2_ n3_;(try clear hb);(try clear hb2);(try clear hk);(try clear hi);(try clear ho0);have hcz47_0:w46.cell? ⟨gb1,0,none⟩=some (.int .i64 a1_0):=(blk_cell BK1.out 0).trans rfl;have hcz47_1:w46.cell? ⟨gb1,1,none⟩=some (.string a1_1):=(blk_cell BK1.out 1).trans rfl;have hcz47_2:w46.cell? ⟨gb1,2,none⟩=some (.string a1_2):=(blk_cell BK1.out 2).trans rfl;have hcz47_3:w46.cell? ⟨gb1,3,none⟩=some (.int .i64 a1_3):=(blk_cell BK1.out 3).trans rfl;have hcz47_4:w46.cell? ⟨gb1,4,none⟩=some (.int .i64 a1_4):=(blk_cell BK1.out 4).trans rfl;have hcz47_5:w46.cell? ⟨gb1,5,none⟩=some (.int .i64 a1_5):=(blk_cell BK1.out 5).trans rfl;have hfz47_0:=blk_frozen BK1.out 0;have hfz47_1:=blk_frozen BK1.out 1;have hfz47_2:=blk_frozen BK1.out 2;have hfz47_3:=blk_frozen BK1.out 3;have hfz47_4:=blk_frozen BK1.out 4;have hfz47_5:=blk_frozen BK1.out 5)|((with_reducible refine gate_callee (f:=87) rfl ?_);refine goesL_ (some 59) rfl rfl Try.func87 (by kernel_rfl) rfl #[.slice A0 l0.length c0, .string a1_1, .agg #[.int .i64 a1_3, .int .i64 a1_4, .int .i64 a1_5], .int .i64 a2] rfl zs_ ?_;(with_reducible refine (shape_Limit.calls _ _ l0 a1_1 a1_3 a1_4 a1_5 a2 t15 t18 _ ?side1 ?side2 A20.out).mono ?_);(case side1=>exact zc_ (Kd.C_below HR0.out HB.out));(case side2=>exact HC0.out);rintro e w48 ⟨v16,rfl,ho0,hb⟩;refine ⟨_,rfl, ?_⟩;have n0_:=am_ (Kd.R_elder' (zr_ HO10) (Kd.R_base ho0) hb);have n1_:=am_ (Kd.R_elder' (zr_ HO13) (Kd.R_base ho0) hb);have n2_:=am_ (Kd.R_lower (Kd.R_new' (Kd.R_new' ho0 (Kd.R_lt (zr_ HO10))) (Kd.R_lt (zr_ HO13))) (below_size (zl1_ HB GE1)));have n3_:=am_ (blk_below (zb_ BK1) hb);have n4_:=am_ (below_step (zl1_ HB GE1) hb);clear HO10;clear HO13;clear BK1;clear HB;have HO10:=n0_;have HO13:=n1_;have HO17:=n2_;have BK1:=n3_;have HB:=n4_;clear n0_ n1_ n2_ n3_ n4_;(try clear hb);(try clear hb2);(try clear hk);(try clear hi);(try clear ho0);have hcz49_0:w48.cell? ⟨gb1,0,none⟩=some (.int .i64 a1_0):=(blk_cell BK1.out 0).trans rfl;have hcz49_1:w48.cell? ⟨gb1,1,none⟩=some (.string a1_1):=(blk_cell BK1.out 1).trans rfl;have hcz49_2:w48.cell? ⟨gb1,2,none⟩=some (.string a1_2):=(blk_cell BK1.out 2).trans rfl;have hcz49_3:w48.cell? ⟨gb1,3,none⟩=some (.int .i64 a1_3):=(blk_cell BK1.out 3).trans rfl;have hcz49_4:w48.cell? ⟨gb1,4,none⟩=some (.int .i64 a1_4):=(blk_cell BK1.out 4).trans rfl;have hcz49_5:w48.cell? ⟨gb1,5,none⟩=some (.int .i64 a1_5):=(blk_cell BK1.out 5).trans rfl;have hfz49_0:=blk_frozen BK1.out 0;have hfz49_1:=blk_frozen BK1.out 1;have hfz49_2:=blk_frozen BK1.out 2;have hfz49_3:=blk_frozen BK1.out 3;have hfz49_4:=blk_frozen BK1.out 4;have hfz49_5:=blk_frozen BK1.out 5)|((with_reducible refine gate_callee (f:=88) rfl ?_);refine goesL_ (some 69) rfl rfl Try.func88 (by kernel_rfl) rfl #[.slice A0 l0.length c0, .string a1_1, .string a1_2, .int .i64 a2] rfl zs_ ?_;(with_reducible refine (shape_Move.calls kj3 _ _ l0 a1_1 a1_2 a2 t19 t20 _ ?side1 ?side2 A21.out).mono ?_);(case side1=>exact zc_ (Kd.C_below HR0.out HB.out));(case side2=>exact HC0.out);rintro e w50 ⟨v21,rfl,ho0,hb⟩;refine ⟨_,rfl, ?_⟩;have n0_:=am_ (Kd.R_elder' (zr_ HO10) (Kd.R_base ho0) hb);have n1_:=am_ (Kd.R_elder' (zr_ HO13) (Kd.R_base ho0) hb);have n2_:=am_ (Kd.R_elder' (zr_ HO17) (Kd.R_base ho0) hb);have n3_:=am_ (Kd.R_lower (Kd.R_new' (Kd.R_new' (Kd.R_new' ho0 (Kd.R_lt (zr_ HO10))) (Kd.R_lt (zr_ HO13))) (Kd.R_lt (zr_ HO17))) (below_size (zl1_ HB GE1)));have n4_:=am_ (blk_below (zb_ BK1) hb);have n5_:=am_ (below_step (zl1_ HB GE1) hb);clear HO10;clear HO13;clear HO17;clear BK1;clear HB;have HO10:=n0_;have HO13:=n1_;have HO17:=n2_;have HO22:=n3_;have BK1:=n4_;have HB:=n5_;clear n0_ n1_ n2_ n3_ n4_ n5_;(try clear hb);(try clear hb2);(try clear hk);(try clear hi);(try clear ho0);have hcz51_0:w50.cell? ⟨gb1,0,none⟩=some (.int .i64 a1_0):=(blk_cell BK1.out 0).trans rfl;have hcz51_1:w50.cell? ⟨gb1,1,none⟩=some (.string a1_1):=(blk_cell BK1.out 1).trans rfl;have hcz51_2:w50.cell? ⟨gb1,2,none⟩=some (.string a1_2):=(blk_cell BK1.out 2).trans rfl;have hcz51_3:w50.cell? ⟨gb1,3,none⟩=some (.int .i64 a1_3):=(blk_cell BK1.out 3).trans rfl;have hcz51_4:w50.cell? ⟨gb1,4,none⟩=some (.int .i64 a1_4):=(blk_cell BK1.out 4).trans rfl;have hcz51_5:w50.cell? ⟨gb1,5,none⟩=some (.int .i64 a1_5):=(blk_cell BK1.out 5).trans rfl;have hfz51_0:=blk_frozen BK1.out 0;have hfz51_1:=blk_frozen BK1.out 1;have hfz51_2:=blk_frozen BK1.out 2;have hfz51_3:=blk_frozen BK1.out 3;have hfz51_4:=blk_frozen BK1.out 4;have hfz51_5:=blk_frozen BK1.out 5)|((with_reducible refine gate_callee (f:=86) rfl ?_);refine goesL_ (some 77) rfl rfl Try.func86 (by kernel_rfl) rfl #[.slice A0 l0.length c0, .string a1_1, .int .i64 a2] rfl zs_ ?_;(with_reducible refine (shape_Delete.calls kj3 _ _ l0 a1_1 a2 t23 t24 _ ?side1 ?side2 A22.out).mono ?_);(case side1=>exact zc_ (Kd.C_below HR0.out HB.out));(case side2=>exact HC0.out);rintro e w52 ⟨v25,rfl,ho0,hb⟩;refine ⟨_,rfl, ?_⟩;have n0_:=am_ (Kd.R_elder' (zr_ HO10) (Kd.R_base ho0) hb);have n1_:=am_ (Kd.R_elder' (zr_ HO13) (Kd.R_base ho0) hb);have n2_:=am_ (Kd.R_elder' (zr_ HO17) (Kd.R_base ho0) hb);have n3_:=am_ (Kd.R_elder' (zr_ HO22) (Kd.R_base ho0) hb);have n4_:=am_ (Kd.R_lower (Kd.R_new' (Kd.R_new' (Kd.R_new' (Kd.R_new' ho0 (Kd.R_lt (zr_ HO10))) (Kd.R_lt (zr_ HO13))) (Kd.R_lt (zr_ HO17))) (Kd.R_lt (zr_ HO22))) (below_size (zl1_ HB GE1)));have n5_:=am_ (blk_below (zb_ BK1) hb);have n6_:=am_ (below_step (zl1_ HB GE1) hb);clear HO10;clear HO13;clear HO17;clear HO22;clear BK1;clear HB;have HO10:=n0_;have HO13:=n1_;have HO17:=n2_;have HO22:=n3_;have HO26:=n4_;have BK1:=n5_;have HB:=n6_;clear n0_ n1_ n2_ n3_ n4_ n5_ n6_;(try clear hb);(try clear hb2);(try clear hk);(try clear hi);(try clear ho0);have hcz53_0:w52.cell? ⟨gb1,0,none⟩=some (.int .i64 a1_0):=(blk_cell BK1.out 0).trans rfl;have hcz53_1:w52.cell? ⟨gb1,1,none⟩=some (.string a1_1):=(blk_cell BK1.out 1).trans rfl;have hcz53_2:w52.cell? ⟨gb1,2,none⟩=some (.string a1_2):=(blk_cell BK1.out 2).trans rfl;have hcz53_3:w52.cell? ⟨gb1,3,none⟩=some (.int .i64 a1_3):=(blk_cell BK1.out 3).trans rfl;have hcz53_4:w52.cell? ⟨gb1,4,none⟩=some (.int .i64 a1_4):=(blk_cell BK1.out 4).trans rfl;have hcz53_5:w52.cell? ⟨gb1,5,none⟩=some (.int .i64 a1_5):=(blk_cell BK1.out 5).trans rfl;have hfz53_0:=blk_frozen BK1.out 0;have hfz53_1:=blk_frozen BK1.out 1;have hfz53_2:=blk_frozen BK1.out 2;have hfz53_3:=blk_frozen BK1.out 3;have hfz53_4:=blk_frozen BK1.out 4;have hfz53_5:=blk_frozen BK1.out 5)|((with_reducible refine gate_callee (f:=89) rfl ?_);refine goesL_ (some 84) rfl rfl Try.func89 (by kernel_rfl) rfl #[.slice A0 l0.length c0, .agg #[.int .i64 a1_0, .string a1_1, .string a1_2, .int .i64 a1_3, .int .i64 a1_4, .int .i64 a1_5], .int .i64 a2] rfl zs_ ?_;(with_reducible refine (shape_Do.calls kj3 _ _ l0 a1_0 a1_1 a1_2 a1_3 a1_4 a1_5 a2 t27 t30 _ ?side1 ?side2 A23.out).mono ?_);(case side1=>exact zc_ (Kd.C_below HR0.out HB.out));(case side2=>exact HC0.out);rintro e w54 ⟨v28,rfl,ho0,hb⟩;refine ⟨_,rfl, ?_⟩;have n0_:=am_ (Kd.R_elder' (zr_ HO10) (Kd.R_base ho0) hb);have n1_:=am_ (Kd.R_elder' (zr_ HO13) (Kd.R_base ho0) hb);have n2_:=am_ (Kd.R_elder' (zr_ HO17) (Kd.R_base ho0) hb);have n3_:=am_ (Kd.R_elder' (zr_ HO22) (Kd.R_base ho0) hb);have n4_:=am_ (Kd.R_elder' (zr_ HO26) (Kd.R_base ho0) hb);have n5_:=am_ (Kd.R_lower (Kd.R_new' (Kd.R_new' (Kd.R_new' (Kd.R_new' (Kd.R_new' ho0 (Kd.R_lt (zr_ HO10))) (Kd.R_lt (zr_ HO13))) (Kd.R_lt (zr_ HO17))) (Kd.R_lt (zr_ HO22))) (Kd.R_lt (zr_ HO26))) (below_size (zl1_ HB GE1)));have n6_:=am_ (blk_below (zb_ BK1) hb);have n7_:=am_ (below_step (zl1_ HB GE1) hb);clear HO10;clear HO13;clear HO17;clear HO22;clear HO26;clear BK1;clear HB;have HO10:=n0_;have HO13:=n1_;have HO17:=n2_;have HO22:=n3_;have HO26:=n4_;have HO29:=n5_;have BK1:=n6_;have HB:=n7_;clear n0_ n1_ n2_ n3_ n4_ n5_ n6_ n7_;(try clear hb);(try clear hb2);(try clear hk);(try clear hi);(try clear ho0);have hcz55_0:w54.cell? ⟨gb1,0,none⟩=some (.int .i64 a1_0):=(blk_cell BK1.out 0).trans rfl;have hcz55_1:w54.cell? ⟨gb1,1,none⟩=some (.string a1_1):=(blk_cell BK1.out 1).trans rfl;have hcz55_2:w54.cell? ⟨gb1,2,none⟩=some (.string a1_2):=(blk_cell BK1.out 2).trans rfl;have hcz55_3:w54.cell? ⟨gb1,3,none⟩=some (.int .i64 a1_3):=(blk_cell BK1.out 3).trans rfl;have hcz55_4:w54.cell? ⟨gb1,4,none⟩=some (.int .i64 a1_4):=(blk_cell BK1.out 4).trans rfl;have hcz55_5:w54.cell? ⟨gb1,5,none⟩=some (.int .i64 a1_5):=(blk_cell BK1.out 5).trans rfl;have hfz55_0:=blk_frozen BK1.out 0;have hfz55_1:=blk_frozen BK1.out 1;have hfz55_2:=blk_frozen BK1.out 2;have hfz55_3:=blk_frozen BK1.out 3;have hfz55_4:=blk_frozen BK1.out 4;have hfz55_5:=blk_frozen BK1.out 5)|((with_reducible refine gate_callee (f:=83) rfl ?_);refine goesL_ (some 96) rfl rfl Try.func83 (by kernel_rfl) rfl #[.slice A0 l0.length c0, .string a1_1, .string a1_2, .agg #[.int .i64 a1_3, .int .i64 a1_4, .int .i64 a1_5]] rfl zs_ ?_;(with_reducible refine (r10_Create.calls kj3 _ _ l0 a1_1 a1_2 a1_3 a1_4 a1_5 t31 t34 _ ?side1 ?side2 A24.out).mono ?_);(case side1=>exact zc_ (Kd.C_below HR0.out HB.out));(case side2=>exact HC0.out);rintro e w56 ⟨v32,rfl,ho0,hb⟩;refine ⟨_,rfl, ?_⟩;have n0_:=am_ (Kd.R_elder' (zr_ HO10) (Kd.R_base ho0) hb);have n1_:=am_ (Kd.R_elder' (zr_ HO13) (Kd.R_base ho0) hb);have n2_:=am_ (Kd.R_elder' (zr_ HO17) (Kd.R_base ho0) hb);have n3_:=am_ (Kd.R_elder' (zr_ HO22) (Kd.R_base ho0) hb);have n4_:=am_ (Kd.R_elder' (zr_ HO26) (Kd.R_base ho0) hb);have n5_:=am_ (Kd.R_elder' (zr_ HO29) (Kd.R_base ho0) hb);have n6_:=am_ (Kd.R_lower (Kd.R_new' (Kd.R_new' (Kd.R_new' (Kd.R_new' (Kd.R_new' (Kd.R_new' ho0 (Kd.R_lt (zr_ HO10))) (Kd.R_lt (zr_ HO13))) (Kd.R_lt (zr_ HO17))) (Kd.R_lt (zr_ HO22))) (Kd.R_lt (zr_ HO26))) (Kd.R_lt (zr_ HO29))) (below_size (zl1_ HB GE1)));have n7_:=am_ (blk_below (zb_ BK1) hb);have n8_:=am_ (below_step (zl1_ HB GE1) hb);clear HO10;clear HO13;clear HO17;clear HO22;clear HO26;clear HO29;clear BK1;clear HB;have HO10:=n0_;have HO13:=n1_;have HO17:=n2_;have HO22:=n3_;have HO26:=n4_;have HO29:=n5_;have HO33:=n6_;have BK1:=n7_;have HB:=n8_;clear n0_ n1_ n2_ n3_ n4_ n5_ n6_ n7_ n8_;(try clear hb);(try clear hb2);(try clear hk);(try clear hi);(try clear ho0);obtain ⟨Ao57,co57,eo57⟩:=Kd.R_slice HO13.out;subst eo57;obtain ⟨Ao58,co58,eo58⟩:=Kd.R_slice HO33.out;subst eo58)|((with_reducible refine gate_callee (f:=90) rfl ?_);refine goesL_ (some 97) rfl rfl Try.func90 (by kernel_rfl) rfl #[.slice Ao57 t11.length co57, .int .i64 t14, .agg #[.slice Ao58 t31.length co58, .int .i64 t34]] rfl zs_ ?_;(with_reducible refine (law15_same.calls kj3 _ _ t11 t14 _ _ t31 t34 true _ ?side1 ?side2 ?side3 ?side4 A25.out).mono ?_);(case side1=>repeat (first|exact (Kd.R_reads' HO13.out).2.2|(with_reducible refine Kd.C_alloc ?_ _)|(with_reducible refine Kd.C_drewN ?_ _)|(with_reducible refine Kd.C_drew ?_)));(case side2=>exact (Kd.R_reads' HO13.out).2.1);(case side3=>repeat (first|exact (Kd.R_reads' HO33.out).2.2|(with_reducible refine Kd.C_alloc ?_ _)|(with_reducible refine Kd.C_drewN ?_ _)|(with_reducible refine Kd.C_drew ?_)));(case side4=>exact (Kd.R_reads' HO33.out).2.1);rintro e w59 ⟨rfl,hb⟩;refine ⟨_,rfl, ?_⟩;have n0_:=am_ (Kd.R_below (zr_ HO10) hb);have n1_:=am_ (Kd.R_below (zr_ HO13) hb);have n2_:=am_ (Kd.R_below (zr_ HO17) hb);have n3_:=am_ (Kd.R_below (zr_ HO22) hb);have n4_:=am_ (Kd.R_below (zr_ HO26) hb);have n5_:=am_ (Kd.R_below (zr_ HO29) hb);have n6_:=am_ (Kd.R_below (zr_ HO33) hb);have n7_:=am_ (blk_below (zb_ BK1) hb);have n8_:=am_ (below_step (zl1_ HB GE1) hb);clear HO10;clear HO13;clear HO17;clear HO22;clear HO26;clear HO29;clear HO33;clear BK1;clear HB;have HO10:=n0_;have HO13:=n1_;have HO17:=n2_;have HO22:=n3_;have HO26:=n4_;have HO29:=n5_;have HO33:=n6_;have BK1:=n7_;have HB:=n8_;clear n0_ n1_ n2_ n3_ n4_ n5_ n6_ n7_ n8_;(try clear hb);(try clear hb2);(try clear hk);(try clear hi);have hcz60_0:w59.cell? ⟨gb1,0,none⟩=some (.int .i64 a1_0):=(blk_cell BK1.out 0).trans rfl;have hcz60_1:w59.cell? ⟨gb1,1,none⟩=some (.string a1_1):=(blk_cell BK1.out 1).trans rfl;have hcz60_2:w59.cell? ⟨gb1,2,none⟩=some (.string a1_2):=(blk_cell BK1.out 2).trans rfl;have hcz60_3:w59.cell? ⟨gb1,3,none⟩=some (.int .i64 a1_3):=(blk_cell BK1.out 3).trans rfl;have hcz60_4:w59.cell? ⟨gb1,4,none⟩=some (.int .i64 a1_4):=(blk_cell BK1.out 4).trans rfl;have hcz60_5:w59.cell? ⟨gb1,5,none⟩=some (.int .i64 a1_5):=(blk_cell BK1.out 5).trans rfl;have hfz60_0:=blk_frozen BK1.out 0;have hfz60_1:=blk_frozen BK1.out 1;have hfz60_2:=blk_frozen BK1.out 2;have hfz60_3:=blk_frozen BK1.out 3;have hfz60_4:=blk_frozen BK1.out 4;have hfz60_5:=blk_frozen BK1.out 5)|(go_at_call 91;(with_reducible refine (r10_Limit.calls kj3 _ _ l0 a1_1 a1_3 a1_4 a1_5 a2 t36 t39 _ ?side1 ?side2 A27.out).mono ?_);(case side1=>exact zc_ (Kd.C_below HR0.out HB.out));(case side2=>exact HC0.out);rintro e w61 ⟨v37,rfl,ho0,hb⟩;have n0_:=am_ (Kd.R_elder' (zr_ HO10) (Kd.R_base ho0) hb);have n1_:=am_ (Kd.R_elder' (zr_ HO13) (Kd.R_base ho0) hb);have n2_:=am_ (Kd.R_elder' (zr_ HO17) (Kd.R_base ho0) hb);have n3_:=am_ (Kd.R_elder' (zr_ HO22) (Kd.R_base ho0) hb);have n4_:=am_ (Kd.R_elder' (zr_ HO26) (Kd.R_base ho0) hb);have n5_:=am_ (Kd.R_elder' (zr_ HO29) (Kd.R_base ho0) hb);have n6_:=am_ (Kd.R_elder' (zr_ HO33) (Kd.R_base ho0) hb);have n7_:=am_ (Kd.R_lower (Kd.R_new' (Kd.R_new' (Kd.R_new' (Kd.R_new' (Kd.R_new' (Kd.R_new' (Kd.R_new' ho0 (Kd.R_lt (zr_ HO10))) (Kd.R_lt (zr_ HO13))) (Kd.R_lt (zr_ HO17))) (Kd.R_lt (zr_ HO22))) (Kd.R_lt (zr_ HO26))) (Kd.R_lt (zr_ HO29))) (Kd.R_lt (zr_ HO33))) (below_size (zl1_ HB GE1)));have n8_:=am_ (blk_below (zb_ BK1) hb);have n9_:=am_ (below_step (zl1_ HB GE1) hb);clear HO10;clear HO13;clear HO17;clear HO22;clear HO26;clear HO29;clear HO33;clear BK1;clear HB;have HO10:=n0_;have HO13:=n1_;have HO17:=n2_;have HO22:=n3_;have HO26:=n4_;have HO29:=n5_;have HO33:=n6_;have HO38:=n7_;have BK1:=n8_;have HB:=n9_;clear n0_ n1_ n2_ n3_ n4_ n5_ n6_ n7_ n8_ n9_;(try clear hb);(try clear hb2);(try clear hk);(try clear hi);(try clear ho0);obtain ⟨Ao62,co62,eo62⟩:=Kd.R_slice HO17.out;subst eo62;obtain ⟨Ao63,co63,eo63⟩:=Kd.R_slice HO38.out;subst eo63)|(go_at_call 90;(with_reducible refine (law15_same.calls kj3 _ _ t15 t18 _ _ t36 t39 true _ ?side1 ?side2 ?side3 ?side4 A28.out).mono ?_);(case side1=>repeat (first|exact (Kd.R_reads' HO17.out).2.2|(with_reducible refine Kd.C_alloc ?_ _)|(with_reducible refine Kd.C_drewN ?_ _)|(with_reducible refine Kd.C_drew ?_)));(case side2=>exact (Kd.R_reads' HO17.out).2.1);(case side3=>repeat (first|exact (Kd.R_reads' HO38.out).2.2|(with_reducible refine Kd.C_alloc ?_ _)|(with_reducible refine Kd.C_drewN ?_ _)|(with_reducible refine Kd.C_drew ?_)));(case side4=>exact (Kd.R_reads' HO38.out).2.1);rintro e w64 ⟨rfl,hb⟩;have n0_:=am_ (Kd.R_below (zr_ HO10) hb);have n1_:=am_ (Kd.R_below (zr_ HO13) hb);have n2_:=am_ (Kd.R_below (zr_ HO17) hb);have n3_:=am_ (Kd.R_below (zr_ HO22) hb);have n4_:=am_ (Kd.R_below (zr_ HO26) hb);have n5_:=am_ (Kd.R_below (zr_ HO29) hb);have n6_:=am_ (Kd.R_below (zr_ HO33) hb);have n7_:=am_ (Kd.R_below (zr_ HO38) hb);have n8_:=am_ (blk_below (zb_ BK1) hb);have n9_:=am_ (below_step (zl1_ HB GE1) hb);clear HO10;clear HO13;clear HO17;clear HO22;clear HO26;clear HO29;clear HO33;clear HO38;clear BK1;clear HB;have HO10:=n0_;have HO13:=n1_;have HO17:=n2_;have HO22:=n3_;have HO26:=n4_;have HO29:=n5_;have HO33:=n6_;have HO38:=n7_;have BK1:=n8_;have HB:=n9_;clear n0_ n1_ n2_ n3_ n4_ n5_ n6_ n7_ n8_ n9_;(try clear hb);(try clear hb2);(try clear hk);(try clear hi);have hcz65_0:w64.cell? ⟨gb1,0,none⟩=some (.int .i64 a1_0):=(blk_cell BK1.out 0).trans rfl;have hcz65_1:w64.cell? ⟨gb1,1,none⟩=some (.string a1_1):=(blk_cell BK1.out 1).trans rfl;have hcz65_2:w64.cell? ⟨gb1,2,none⟩=some (.string a1_2):=(blk_cell BK1.out 2).trans rfl;have hcz65_3:w64.cell? ⟨gb1,3,none⟩=some (.int .i64 a1_3):=(blk_cell BK1.out 3).trans rfl;have hcz65_4:w64.cell? ⟨gb1,4,none⟩=some (.int .i64 a1_4):=(blk_cell BK1.out 4).trans rfl;have hcz65_5:w64.cell? ⟨gb1,5,none⟩=some (.int .i64 a1_5):=(blk_cell BK1.out 5).trans rfl;have hfz65_0:=blk_frozen BK1.out 0;have hfz65_1:=blk_frozen BK1.out 1;have hfz65_2:=blk_frozen BK1.out 2;have hfz65_3:=blk_frozen BK1.out 3;have hfz65_4:=blk_frozen BK1.out 4;have hfz65_5:=blk_frozen BK1.out 5)|(go_at_call 92;(with_reducible refine (r10_Move.calls kj3 _ _ l0 a1_1 a1_2 a2 t41 t44 _ ?side1 ?side2 A30.out).mono ?_);(case side1=>exact zc_ (Kd.C_below HR0.out HB.out));(case side2=>exact HC0.out);rintro e w66 ⟨v42,rfl,ho0,hb⟩;have n0_:=am_ (Kd.R_elder' (zr_ HO10) (Kd.R_base ho0) hb);have n1_:=am_ (Kd.R_elder' (zr_ HO13) (Kd.R_base ho0) hb);have n2_:=am_ (Kd.R_elder' (zr_ HO17) (Kd.R_base ho0) hb);have n3_:=am_ (Kd.R_elder' (zr_ HO22) (Kd.R_base ho0) hb);have n4_:=am_ (Kd.R_elder' (zr_ HO26) (Kd.R_base ho0) hb);have n5_:=am_ (Kd.R_elder' (zr_ HO29) (Kd.R_base ho0) hb);have n6_:=am_ (Kd.R_elder' (zr_ HO33) (Kd.R_base ho0) hb);have n7_:=am_ (Kd.R_elder' (zr_ HO38) (Kd.R_base ho0) hb);have n8_:=am_ (Kd.R_lower (Kd.R_new' (Kd.R_new' (Kd.R_new' (Kd.R_new' (Kd.R_new' (Kd.R_new' (Kd.R_new' (Kd.R_new' ho0 (Kd.R_lt (zr_ HO10))) (Kd.R_lt (zr_ HO13))) (Kd.R_lt (zr_ HO17))) (Kd.R_lt (zr_ HO22))) (Kd.R_lt (zr_ HO26))) (Kd.R_lt (zr_ HO29))) (Kd.R_lt (zr_ HO33))) (Kd.R_lt (zr_ HO38))) (below_size (zl1_ HB GE1)));have n9_:=am_ (blk_below (zb_ BK1) hb);have n10_:=am_ (below_step (zl1_ HB GE1) hb);clear HO10;clear HO13;clear HO17;clear HO22;clear HO26;clear HO29;clear HO33;clear HO38;clear BK1;clear HB;have HO10:=n0_;have HO13:=n1_;have HO17:=n2_;have HO22:=n3_;have HO26:=n4_;have HO29:=n5_;have HO33:=n6_;have HO38:=n7_;have HO43:=n8_;have BK1:=n9_;have HB:=n10_;clear n0_ n1_ n2_ n3_ n4_ n5_ n6_ n7_ n8_ n9_ n10_;(try clear hb);(try clear hb2);(try clear hk);(try clear hi);(try clear ho0);obtain ⟨Ao67,co67,eo67⟩:=Kd.R_slice HO22.out;subst eo67;obtain ⟨Ao68,co68,eo68⟩:=Kd.R_slice HO43.out;subst eo68)|(go_at_call 90;(with_reducible refine (law15_same.calls kj3 _ _ t19 t20 _ _ t41 t44 true _ ?side1 ?side2 ?side3 ?side4 A31.out).mono ?_);(case side1=>repeat (first|exact (Kd.R_reads' HO22.out).2.2|(with_reducible refine Kd.C_alloc ?_ _)|(with_reducible refine Kd.C_drewN ?_ _)|(with_reducible refine Kd.C_drew ?_)));(case side2=>exact (Kd.R_reads' HO22.out).2.1);(case side3=>repeat (first|exact (Kd.R_reads' HO43.out).2.2|(with_reducible refine Kd.C_alloc ?_ _)|(with_reducible refine Kd.C_drewN ?_ _)|(with_reducible refine Kd.C_drew ?_)));(case side4=>exact (Kd.R_reads' HO43.out).2.1);rintro e w69 ⟨rfl,hb⟩;have n0_:=am_ (Kd.R_below (zr_ HO10) hb);have n1_:=am_ (Kd.R_below (zr_ HO13) hb);have n2_:=am_ (Kd.R_below (zr_ HO17) hb);have n3_:=am_ (Kd.R_below (zr_ HO22) hb);have n4_:=am_ (Kd.R_below (zr_ HO26) hb);have n5_:=am_ (Kd.R_below (zr_ HO29) hb);have n6_:=am_ (Kd.R_below (zr_ HO33) hb);have n7_:=am_ (Kd.R_below (zr_ HO38) hb);have n8_:=am_ (Kd.R_below (zr_ HO43) hb);have n9_:=am_ (blk_below (zb_ BK1) hb);have n10_:=am_ (below_step (zl1_ HB GE1) hb);clear HO10;clear HO13;clear HO17;clear HO22;clear HO26;clear HO29;clear HO33;clear HO38;clear HO43;clear BK1;clear HB;have HO10:=n0_;have HO13:=n1_;have HO17:=n2_;have HO22:=n3_;have HO26:=n4_;have HO29:=n5_;have HO33:=n6_;have HO38:=n7_;have HO43:=n8_;have BK1:=n9_;have HB:=n10_;clear n0_ n1_ n2_ n3_ n4_ n5_ n6_ n7_ n8_ n9_ n10_;(try clear hb);(try clear hb2);(try clear hk);(try clear hi);have hcz70_0:w69.cell? ⟨gb1,0,none⟩=some (.int .i64 a1_0):=(blk_cell BK1.out 0).trans rfl;have hcz70_1:w69.cell? ⟨gb1,1,none⟩=some (.string a1_1):=(blk_cell BK1.out 1).trans rfl;have hcz70_2:w69.cell? ⟨gb1,2,none⟩=some (.string a1_2):=(blk_cell BK1.out 2).trans rfl;have hcz70_3:w69.cell? ⟨gb1,3,none⟩=some (.int .i64 a1_3):=(blk_cell BK1.out 3).trans rfl;have hcz70_4:w69.cell? ⟨gb1,4,none⟩=some (.int .i64 a1_4):=(blk_cell BK1.out 4).trans rfl;have hcz70_5:w69.cell? ⟨gb1,5,none⟩=some (.int .i64 a1_5):=(blk_cell BK1.out 5).trans rfl;have hfz70_0:=blk_frozen BK1.out 0;have hfz70_1:=blk_frozen BK1.out 1;have hfz70_2:=blk_frozen BK1.out 2;have hfz70_3:=blk_frozen BK1.out 3;have hfz70_4:=blk_frozen BK1.out 4;have hfz70_5:=blk_frozen BK1.out 5)|(go_at_call 93;(with_reducible refine (r10_Delete.calls kj3 _ _ l0 a1_1 a2 t46 t49 _ ?side1 ?side2 A33.out).mono ?_);(case side1=>exact zc_ (Kd.C_below HR0.out HB.out));(case side2=>exact HC0.out);rintro e w71 ⟨v47,rfl,ho0,hb⟩;have n0_:=am_ (Kd.R_elder' (zr_ HO10) (Kd.R_base ho0) hb);have n1_:=am_ (Kd.R_elder' (zr_ HO13) (Kd.R_base ho0) hb);have n2_:=am_ (Kd.R_elder' (zr_ HO17) (Kd.R_base ho0) hb);have n3_:=am_ (Kd.R_elder' (zr_ HO22) (Kd.R_base ho0) hb);have n4_:=am_ (Kd.R_elder' (zr_ HO26) (Kd.R_base ho0) hb);have n5_:=am_ (Kd.R_elder' (zr_ HO29) (Kd.R_base ho0) hb);have n6_:=am_ (Kd.R_elder' (zr_ HO33) (Kd.R_base ho0) hb);have n7_:=am_ (Kd.R_elder' (zr_ HO38) (Kd.R_base ho0) hb);have n8_:=am_ (Kd.R_elder' (zr_ HO43) (Kd.R_base ho0) hb);have n9_:=am_ (Kd.R_lower (Kd.R_new' (Kd.R_new' (Kd.R_new' (Kd.R_new' (Kd.R_new' (Kd.R_new' (Kd.R_new' (Kd.R_new' (Kd.R_new' ho0 (Kd.R_lt (zr_ HO10))) (Kd.R_lt (zr_ HO13))) (Kd.R_lt (zr_ HO17))) (Kd.R_lt (zr_ HO22))) (Kd.R_lt (zr_ HO26))) (Kd.R_lt (zr_ HO29))) (Kd.R_lt (zr_ HO33))) (Kd.R_lt (zr_ HO38))) (Kd.R_lt (zr_ HO43))) (below_size (zl1_ HB GE1)));have n10_:=am_ (blk_below (zb_ BK1) hb);have n11_:=am_ (below_step (zl1_ HB GE1) hb);clear HO10;clear HO13;clear HO17;clear HO22;clear HO26;clear HO29;clear HO33;clear HO38;clear HO43;clear BK1;clear HB;have HO10:=n0_;have HO13:=n1_;have HO17:=n2_;have HO22:=n3_;have HO26:=n4_;have HO29:=n5_;have HO33:=n6_;have HO38:=n7_;have HO43:=n8_;have HO48:=n9_;have BK1:=n10_;have HB:=n11_;clear n0_ n1_ n2_ n3_ n4_ n5_ n6_ n7_ n8_ n9_ n10_ n11_;(try clear hb);(try clear hb2);(try clear hk);(try clear hi);(try clear ho0);obtain ⟨Ao72,co72,eo72⟩:=Kd.R_slice HO26.out;subst eo72;obtain ⟨Ao73,co73,eo73⟩:=Kd.R_slice HO48.out;subst eo73)|(go_at_call 90;(with_reducible refine (law15_same.calls kj3 _ _ t23 t24 _ _ t46 t49 true _ ?side1 ?side2 ?side3 ?side4 A34.out).mono ?_);(case side1=>repeat (first|exact (Kd.R_reads' HO26.out).2.2|(with_reducible refine Kd.C_alloc ?_ _)|(with_reducible refine Kd.C_drewN ?_ _)|(with_reducible refine Kd.C_drew ?_)));(case side2=>exact (Kd.R_reads' HO26.out).2.1);(case side3=>repeat (first|exact (Kd.R_reads' HO48.out).2.2|(with_reducible refine Kd.C_alloc ?_ _)|(with_reducible refine Kd.C_drewN ?_ _)|(with_reducible refine Kd.C_drew ?_)));(case side4=>exact (Kd.R_reads' HO48.out).2.1);rintro e w74 ⟨rfl,hb⟩;have n0_:=am_ (Kd.R_below (zr_ HO10) hb);have n1_:=am_ (Kd.R_below (zr_ HO13) hb);have n2_:=am_ (Kd.R_below (zr_ HO17) hb);have n3_:=am_ (Kd.R_below (zr_ HO22) hb);have n4_:=am_ (Kd.R_below (zr_ HO26) hb);have n5_:=am_ (Kd.R_below (zr_ HO29) hb);have n6_:=am_ (Kd.R_below (zr_ HO33) hb);have n7_:=am_ (Kd.R_below (zr_ HO38) hb);have n8_:=am_ (Kd.R_below (zr_ HO43) hb);have n9_:=am_ (Kd.R_below (zr_ HO48) hb);have n10_:=am_ (blk_below (zb_ BK1) hb);have n11_:=am_ (below_step (zl1_ HB GE1) hb);clear HO10;clear HO13;clear HO17;clear HO22;clear HO26;clear HO29;clear HO33;clear HO38;clear HO43;clear HO48;clear BK1;clear HB;have HO10:=n0_;have HO13:=n1_;have HO17:=n2_;have HO22:=n3_;have HO26:=n4_;have HO29:=n5_;have HO33:=n6_;have HO38:=n7_;have HO43:=n8_;have HO48:=n9_;have BK1:=n10_;have HB:=n11_;clear n0_ n1_ n2_ n3_ n4_ n5_ n6_ n7_ n8_ n9_ n10_ n11_;(try clear hb);(try clear hb2);(try clear hk);(try clear hi);have hcz75_0:w74.cell? ⟨gb1,0,none⟩=some (.int .i64 a1_0):=(blk_cell BK1.out 0).trans rfl;have hcz75_1:w74.cell? ⟨gb1,1,none⟩=some (.string a1_1):=(blk_cell BK1.out 1).trans rfl;have hcz75_2:w74.cell? ⟨gb1,2,none⟩=some (.string a1_2):=(blk_cell BK1.out 2).trans rfl;have hcz75_3:w74.cell? ⟨gb1,3,none⟩=some (.int .i64 a1_3):=(blk_cell BK1.out 3).trans rfl;have hcz75_4:w74.cell? ⟨gb1,4,none⟩=some (.int .i64 a1_4):=(blk_cell BK1.out 4).trans rfl;have hcz75_5:w74.cell? ⟨gb1,5,none⟩=some (.int .i64 a1_5):=(blk_cell BK1.out 5).trans rfl;have hfz75_0:=blk_frozen BK1.out 0;have hfz75_1:=blk_frozen BK1.out 1;have hfz75_2:=blk_frozen BK1.out 2;have hfz75_3:=blk_frozen BK1.out 3;have hfz75_4:=blk_frozen BK1.out 4;have hfz75_5:=blk_frozen BK1.out 5)|(go_at_call 58;(with_reducible refine (r10_Do.calls kj3 _ _ l0 a1_0 a1_1 a1_2 a1_3 a1_4 a1_5 a2 t51 t54 _ ?side1 ?side2 A36.out).mono ?_);(case side1=>exact zc_ (Kd.C_below HR0.out HB.out));(case side2=>exact HC0.out);rintro e w76 ⟨v52,rfl,ho0,hb⟩;have n0_:=am_ (Kd.R_elder' (zr_ HO10) (Kd.R_base ho0) hb);have n1_:=am_ (Kd.R_elder' (zr_ HO13) (Kd.R_base ho0) hb);have n2_:=am_ (Kd.R_elder' (zr_ HO17) (Kd.R_base ho0) hb);have n3_:=am_ (Kd.R_elder' (zr_ HO22) (Kd.R_base ho0) hb);have n4_:=am_ (Kd.R_elder' (zr_ HO26) (Kd.R_base ho0) hb);have n5_:=am_ (Kd.R_elder' (zr_ HO29) (Kd.R_base ho0) hb);have n6_:=am_ (Kd.R_elder' (zr_ HO33) (Kd.R_base ho0) hb);have n7_:=am_ (Kd.R_elder' (zr_ HO38) (Kd.R_base ho0) hb);have n8_:=am_ (Kd.R_elder' (zr_ HO43) (Kd.R_base ho0) hb);have n9_:=am_ (Kd.R_elder' (zr_ HO48) (Kd.R_base ho0) hb);have n10_:=am_ (Kd.R_lower (Kd.R_new' (Kd.R_new' (Kd.R_new' (Kd.R_new' (Kd.R_new' (Kd.R_new' (Kd.R_new' (Kd.R_new' (Kd.R_new' (Kd.R_new' ho0 (Kd.R_lt (zr_ HO10))) (Kd.R_lt (zr_ HO13))) (Kd.R_lt (zr_ HO17))) (Kd.R_lt (zr_ HO22))) (Kd.R_lt (zr_ HO26))) (Kd.R_lt (zr_ HO29))) (Kd.R_lt (zr_ HO33))) (Kd.R_lt (zr_ HO38))) (Kd.R_lt (zr_ HO43))) (Kd.R_lt (zr_ HO48))) (below_size (zl1_ HB GE1)));have n11_:=am_ (blk_below (zb_ BK1) hb);have n12_:=am_ (below_step (zl1_ HB GE1) hb);clear HO10;clear HO13;clear HO17;clear HO22;clear HO26;clear HO29;clear HO33;clear HO38;clear HO43;clear HO48;clear BK1;clear HB;have HO10:=n0_;have HO13:=n1_;have HO17:=n2_;have HO22:=n3_;have HO26:=n4_;have HO29:=n5_;have HO33:=n6_;have HO38:=n7_;have HO43:=n8_;have HO48:=n9_;have HO53:=n10_;have BK1:=n11_;have HB:=n12_;clear n0_ n1_ n2_ n3_ n4_ n5_ n6_ n7_ n8_ n9_ n10_ n11_ n12_;(try clear hb);(try clear hb2);(try clear hk);(try clear hi);(try clear ho0);obtain ⟨Ao77,co77,eo77⟩:=Kd.R_slice HO29.out;subst eo77;obtain ⟨Ao78,co78,eo78⟩:=Kd.R_slice HO53.out;subst eo78)|(go_at_call 90;(with_reducible refine (law15_same.calls kj3 _ _ t27 t30 _ _ t51 t54 true _ ?side1 ?side2 ?side3 ?side4 A37.out).mono ?_);(case side1=>repeat (first|exact (Kd.R_reads' HO29.out).2.2|(with_reducible refine Kd.C_alloc ?_ _)|(with_reducible refine Kd.C_drewN ?_ _)|(with_reducible refine Kd.C_drew ?_)));(case side2=>exact (Kd.R_reads' HO29.out).2.1);(case side3=>repeat (first|exact (Kd.R_reads' HO53.out).2.2|(with_reducible refine Kd.C_alloc ?_ _)|(with_reducible refine Kd.C_drewN ?_ _)|(with_reducible refine Kd.C_drew ?_)));(case side4=>exact (Kd.R_reads' HO53.out).2.1);rintro e w79 ⟨rfl,hb⟩;have n0_:=am_ (Kd.R_below (zr_ HO10) hb);have n1_:=am_ (Kd.R_below (zr_ HO13) hb);have n2_:=am_ (Kd.R_below (zr_ HO17) hb);have n3_:=am_ (Kd.R_below (zr_ HO22) hb);have n4_:=am_ (Kd.R_below (zr_ HO26) hb);have n5_:=am_ (Kd.R_below (zr_ HO29) hb);have n6_:=am_ (Kd.R_below (zr_ HO33) hb);have n7_:=am_ (Kd.R_below (zr_ HO38) hb);have n8_:=am_ (Kd.R_below (zr_ HO43) hb);have n9_:=am_ (Kd.R_below (zr_ HO48) hb);have n10_:=am_ (Kd.R_below (zr_ HO53) hb);have n11_:=am_ (blk_below (zb_ BK1) hb);have n12_:=am_ (below_step (zl1_ HB GE1) hb);clear HO10;clear HO13;clear HO17;clear HO22;clear HO26;clear HO29;clear HO33;clear HO38;clear HO43;clear HO48;clear HO53;clear BK1;clear HB;have HO10:=n0_;have HO13:=n1_;have HO17:=n2_;have HO22:=n3_;have HO26:=n4_;have HO29:=n5_;have HO33:=n6_;have HO38:=n7_;have HO43:=n8_;have HO48:=n9_;have HO53:=n10_;have BK1:=n11_;have HB:=n12_;clear n0_ n1_ n2_ n3_ n4_ n5_ n6_ n7_ n8_ n9_ n10_ n11_ n12_;(try clear hb);(try clear hb2);(try clear hk);(try clear hi);obtain ⟨Ao80,co80,eo80⟩:=Kd.R_slice HO10.out;subst eo80)|(go_at_call 62;(with_reducible refine (r10_SameItems.calls kj3 _ _ l0 _ _ y8 true _ ?side1 ?side2 ?side3 ?side4 A39.out).mono ?_);(case side1=>exact zc_ (Kd.C_below HR0.out HB.out));(case side2=>exact HC0.out);(case side3=>repeat (first|exact (Kd.R_reads' HO10.out).2.2|(with_reducible refine Kd.C_alloc ?_ _)|(with_reducible refine Kd.C_drewN ?_ _)|(with_reducible refine Kd.C_drew ?_)));(case side4=>exact (Kd.R_reads' HO10.out).2.1);rintro e w' ⟨rfl,⟨nd,rfl⟩⟩)|(go_at_call 85;(with_reducible refine (law15_awake.calls t57 _ A41.out).mono ?_);rintro e w81 ⟨rfl,hb⟩;have n0_:=am_ (Kd.R_below (zr_ HO10) hb);have n1_:=am_ (Kd.R_below (zr_ HO13) hb);have n2_:=am_ (Kd.R_below (zr_ HO17) hb);have n3_:=am_ (Kd.R_below (zr_ HO22) hb);have n4_:=am_ (Kd.R_below (zr_ HO26) hb);have n5_:=am_ (Kd.R_below (zr_ HO29) hb);have n6_:=am_ (Kd.R_below (zr_ HO33) hb);have n7_:=am_ (Kd.R_below (zr_ HO38) hb);have n8_:=am_ (Kd.R_below (zr_ HO43) hb);have n9_:=am_ (Kd.R_below (zr_ HO48) hb);have n10_:=am_ (Kd.R_below (zr_ HO53) hb);have n11_:=am_ (blk_below (zb_ BK1) hb);have n12_:=am_ (below_step (zl1_ HB GE1) hb);clear HO10;clear HO13;clear HO17;clear HO22;clear HO26;clear HO29;clear HO33;clear HO38;clear HO43;clear HO48;clear HO53;clear BK1;clear HB;have HO10:=n0_;have HO13:=n1_;have HO17:=n2_;have HO22:=n3_;have HO26:=n4_;have HO29:=n5_;have HO33:=n6_;have HO38:=n7_;have HO43:=n8_;have HO48:=n9_;have HO53:=n10_;have BK1:=n11_;have HB:=n12_;clear n0_ n1_ n2_ n3_ n4_ n5_ n6_ n7_ n8_ n9_ n10_ n11_ n12_;(try clear hb);(try clear hb2);(try clear hk);(try clear hi)))
           go_ret
           exact ⟨by first|rfl|(simp [errW_none,errW_some]<;>rfl)|(simp [*,errW_none,errW_some]<;>rfl),zl1_ HB GE1⟩
          ·replace c40:=Bool.eq_false_iff.mpr c40
           subst c40
           have H1:(none)=some r:=by rw [if_neg (show¬(false=true) by decide)] at H;exact H
           cases H1
         ·replace c38:=Bool.eq_false_iff.mpr c38
          subst c38
          have H1:(none)=some r:=by rw [if_neg (show¬(false=true) by decide)] at H;exact H
          cases H1
        ·replace c35:=Bool.eq_false_iff.mpr c35
         subst c35
         have H1:(none)=some r:=by rw [if_neg (show¬(false=true) by decide)] at H;exact H
         cases H1
       ·replace c32:=Bool.eq_false_iff.mpr c32
        subst c32
        have H1:(none)=some r:=by rw [if_neg (show¬(false=true) by decide)] at H;exact H
        cases H1
      ·replace c29:=Bool.eq_false_iff.mpr c29
       subst c29
       have H1:(none)=some r:=by rw [if_neg (show¬(false=true) by decide)] at H;exact H
       cases H1
     ·replace c26:=Bool.eq_false_iff.mpr c26
      subst c26
      have H1:(none)=some r:=by rw [if_neg (show¬(false=true) by decide)] at H;exact H
      cases H1
    ·rw [if_neg c18] at H
     cases H
end Go.Proofs.Ytcgefpklljclgaa.Print

namespace Go.Proofs.Ytcgefpklljclgaa.Print
open Go.RowKit Go.Proofs.YtcgefpklljclgaaW.PrintWords Go.Proofs.YtcgefpklljclgaaW.PrintLast
set_option linter.unusedVariables false
set_option linter.unusedSimpArgs false
abbrev Item:=S31
abbrev Vec:=S27
abbrev zItem:Item:=z31
theorem rd_item (l:List Item) (i:Int):rd_T31 l i=l.getD i.toNat zItem:=rfl
instance baLawful:LawfulBEq ByteArray where
 eq_of_beq {a b} h:=by
  obtain ⟨a⟩:=a
  obtain ⟨b⟩:=b
  have:(a==b)=true:=h
  rw [eq_of_beq this]
 rfl {a}:=by
  obtain ⟨a⟩:=a
  show (a==a)=true
  exact beq_self_eq_true a
/-- a name is its bytes -/
theorem nm_inj {a b:ByteArray}:a.toList=b.toList↔a=b:=by
  constructor
  · intro h
    rw [ByteArray.toList_eq,ByteArray.toList_eq] at h
    exact ByteArray.ext (Array.toList_inj.1 h)
  · rintro rfl;rfl
theorem nm_beq (a b:ByteArray):(a.toList==b.toList)=decide (a=b):=by
 rw [Bool.eq_iff_iff,beq_iff_eq,nm_inj,decide_eq_true_iff]
theorem nm_empty {a:ByteArray}:a.toList=([]:List UInt8)↔a=⟨#[]⟩:=by
 rw [←nm_inj];rw [show (ByteArray.mk #[]).toList=[] from by rw [ByteArray.toList_eq]]
theorem Ev.const {α:Type} {g:Option α} {r:α} (h:g=some r):Ev (fun _=>g) r:=⟨0,fun _ _=>h⟩
theorem w64 {n:Int} (h0: -9223372036854775808≤n) (h1:n≤9223372036854775807):wrap64 n=n:=by unfold wrap64;omega
/-! the place of a name -/
def look (l:List Item) (n:ByteArray):Option Item:=l.find? (fun x=>x.f0=n)
def fnd (l:List Item) (n:ByteArray):Int:=fidx (fun x:Item=>x.f0.toList==n.toList) l 0
theorem fidx_none {α:Type} {p:α→Bool}: ∀{l:List α} {i:Int},(∀x∈l,p x=false)→fidx p l i= -1
  |[],_,_=>rfl
  | x :: l, i, h => by
    unfold fidx
    rw [if_neg (by rw [h x (by simp)];simp)]
    exact fidx_none (fun y hy=>h y (by simp [hy]))
theorem fidx_some {α:Type} {p:α→Bool} (z:α): ∀{l:List α} {i:Int} {x:α},l.find? p=some x→ ∃j:Nat,j<l.length∧fidx p l i=i+j∧l.getD j z=x∧p x=true∧ ∀m,m<j→p (l.getD m z)=false
  |[],_,_,h=>by simp at h
  | y :: l, i, x, h => by
    unfold fidx
    by_cases hy:p y=true
    · rw [if_pos hy]
      simp only [List.find?_cons,hy] at h
      obtain rfl:=Option.some.inj h
      exact ⟨0,by simp,by simp,by simp,hy,fun m hm=>by omega⟩
    · rw [if_neg hy]
      have hy':p y=false:=by simpa using hy
      simp only [List.find?_cons,hy'] at h
      obtain ⟨j,hj,h1,h2,h3,h4⟩:=fidx_some z (i:=i+1) h
      refine ⟨j+1,by simp;omega,by rw [h1];omega,by simpa using h2,h3,fun m hm=> ?_⟩
      cases m with
      |zero=>simpa using hy'
      |succ m=>simpa using h4 m (by omega)
theorem look_pred (n:ByteArray):(fun x:Item=>x.f0.toList==n.toList)=(fun x:Item=>decide (x.f0=n)):=by
 funext x;exact nm_beq _ _
theorem look_mem {l:List Item} {n:ByteArray} {x:Item} (h:look l n=some x):x∈l∧x.f0=n:=by
 unfold look at h
 exact ⟨List.mem_of_find?_eq_some h,by simpa using List.find?_some h⟩
theorem look_none {l:List Item} {n:ByteArray}:look l n=none↔ ∀x∈l,x.f0≠n:=by
 unfold look
 simp
theorem fnd_none {l:List Item} {n:ByteArray} (h:look l n=none):fnd l n= -1:=by
 unfold fnd
 refine fidx_none fun x hx=> ?_
 rw [nm_beq]
 simpa using look_none.1 h x hx
theorem fnd_some {l:List Item} {n:ByteArray} {x:Item} (h:look l n=some x): ∃j:Nat,j<l.length∧fnd l n=j∧l.getD j zItem=x∧x.f0=n∧ ∀m,m<j→(l.getD m zItem).f0≠n:=by
 have h':l.find? (fun x:Item=>x.f0.toList==n.toList)=some x:=by rw [look_pred];exact h
 obtain ⟨j,h1,h2,h3,h4,h5⟩:=fidx_some zItem (i:=0) h'
 refine ⟨j,h1,by unfold fnd;rw [h2];omega,h3,by simpa [nm_beq] using h4,fun m hm=> ?_⟩
 simpa [nm_beq] using h5 m hm
theorem fnd_lt (l:List Item) (n:ByteArray):fnd l n<l.length:=by
 cases h:look l n with
 |none=>rw [fnd_none h];omega
 |some x=>obtain ⟨j,h1,h2,_⟩:=fnd_some h;omega
theorem fnd_neg {l:List Item} {n:ByteArray}:fnd l n<0↔look l n=none:=by
 cases h:look l n with
 |none=>rw [fnd_none h];simp
 |some x=>obtain ⟨j,h1,h2,_⟩:=fnd_some h;simp;omega
theorem fnd_ge {l:List Item} {n:ByteArray}:0≤fnd l n↔ ∃x,look l n=some x:=by
 cases h:look l n with
 |none=>rw [fnd_none h];simp
 |some x=>obtain ⟨j,h1,h2,_⟩:=fnd_some h;simp;omega
theorem fnd_rd {l:List Item} {n:ByteArray} {x:Item} (h:look l n=some x):rd_T31 l (fnd l n)=x:=by
 obtain ⟨j,h1,h2,h3,_⟩:=fnd_some h
 rw [rd_item,h2,Int.toNat_natCast];exact h3
theorem tree_Find_eq (l:List Item) (n:ByteArray):tree_Find.f l n=some (fnd l n):=rfl
/-! the way up -/
inductive Chain (l:List Item):ByteArray→List ByteArray→Prop where
 |nil {n:ByteArray}:look l n=none→Chain l n []
 |cons {n:ByteArray} {x:Item} {us:List ByteArray}:look l n=some x→Chain l x.f1 us→Chain l n (n::us)
def upGo (l:List Item):Nat→ByteArray→List ByteArray
  |0,_=> []
  | m + 1, n => match look l n with
    |none=> []
    |some x=>n::upGo l m x.f1
def up (l:List Item) (n:ByteArray):List ByteArray:=upGo l (l.length+1) n
theorem upGo_len (l:List Item): ∀(m:Nat) (n:ByteArray),(upGo l m n).length≤m
  |0,_=>by simp [upGo]
  | m + 1, n => by
    unfold upGo
    cases look l n with
    |none=>simp
    |some x=>have:=upGo_len l m x.f1;simp;omega
theorem up_len (l:List Item) (n:ByteArray):(up l n).length≤l.length+1:=upGo_len l _ n
theorem upGo_none {l:List Item} {n:ByteArray} (h:look l n=none) (m:Nat):upGo l m n=[]:=by
 cases m with
 |zero=>rfl
 |succ m=>unfold upGo;rw [h]
theorem upGo_some {l:List Item} {n:ByteArray} {x:Item} (h:look l n=some x) (m:Nat):upGo l (m+1) n=n::upGo l m x.f1:=by
 rw [upGo.eq_2,h]
theorem Chain.det {l:List Item} {n:ByteArray} {us:List ByteArray} (h:Chain l n us): ∀{vs:List ByteArray},Chain l n vs→us=vs:=by
  induction h with
  | nil h =>
    intro vs k
    cases k with
    |nil _=>rfl
    |cons k _=>rw [h] at k;cases k
  | cons h _ ih =>
    intro vs k
    cases k with
    |nil k=>rw [h] at k;cases k
    | cons k k2 =>
      rw [h] at k
      cases k
      rw [ih k2]
theorem Chain.upGo {l:List Item} {n:ByteArray} {us:List ByteArray} (h:Chain l n us): ∀m,us.length≤m→upGo l m n=us:=by
  induction h with
  |nil h=>intro m _;exact upGo_none h m
  | cons h _ ih =>
    intro m hm
    cases m with
    |zero=>simp at hm
    | succ m =>
      rw [upGo_some h,ih m (by simpa using hm)]
theorem upGo_chain (l:List Item): ∀(m:Nat) (n:ByteArray),(upGo l m n).length<m→Chain l n (upGo l m n)
  |0,_,h=>by simp [upGo] at h
  | m + 1, n, h => by
    cases hl:look l n with
    |none=>rw [upGo_none hl];exact .nil hl
    | some x =>
      rw [upGo_some hl] at h ⊢
      exact .cons hl (upGo_chain l m x.f1 (by simpa using h))
theorem up_chain {l:List Item} {n:ByteArray} (h:(up l n).length≤l.length):Chain l n (up l n):=upGo_chain l _ n (by unfold up at h;omega)
theorem Chain.suffix {l:List Item} {n:ByteArray} {us:List ByteArray} (h:Chain l n us): ∀{m:ByteArray},m∈us→ ∃vs ws,us=ws++vs∧Chain l m vs∧ ∃vt,vs=m::vt:=by
  induction h with
  |nil _=>intro m hm;cases hm
  | @cons n x us h k ih =>
    intro m hm
    rcases List.mem_cons.1 hm with rfl|hm
    · exact ⟨_,[],rfl, .cons h k,_,rfl⟩
    · obtain ⟨vs, ws, e, hc, he⟩ := ih hm
      exact ⟨vs,n::ws,by rw [e];rfl,hc,he⟩
theorem Chain.mem_look {l:List Item} {n:ByteArray} {us:List ByteArray} (h:Chain l n us) {m:ByteArray} (hm:m∈us): ∃x,look l m=some x:=by
 obtain ⟨vs,ws,_,hc,vt,rfl⟩:=h.suffix hm
 cases hc with
 |cons h _=>exact ⟨_,h⟩
theorem Chain.nodup {l:List Item} {n:ByteArray} {us:List ByteArray} (h:Chain l n us):us.Nodup:=by
  induction h with
  |nil _=>simp
  | @cons n x us h k ih =>
    rw [List.nodup_cons]
    refine ⟨fun hm=> ?_,ih⟩
    obtain ⟨vs,ws,e,hc,_⟩:=k.suffix hm
    have:=hc.det (.cons h k)
    rw [this] at e
    have:=congrArg List.length e
    simp at this
    omega
theorem Chain.len {l:List Item} {n:ByteArray} {us:List ByteArray} (h:Chain l n us):us.length≤l.length:=by
 have:=h.nodup.length_le_of_subset (l₂:=l.map (·.f0)) (fun m hm=>by
  obtain ⟨x,hx⟩:=h.mem_look hm
  obtain ⟨h1,rfl⟩:=look_mem hx
  exact List.mem_map_of_mem h1)
 simpa using this
theorem Chain.up {l:List Item} {n:ByteArray} {us:List ByteArray} (h:Chain l n us):up l n=us:=h.upGo _ (by have:=h.len;omega)
theorem up_len_iff {l:List Item} {n:ByteArray}:(up l n).length≤l.length↔ ∃us,Chain l n us:=
 ⟨fun h=>⟨_,up_chain h⟩,fun ⟨us,h⟩=>by rw [h.up];exact h.len⟩
end Go.Proofs.Ytcgefpklljclgaa.Print

namespace Go.Proofs.Ytcgefpklljclgaa.Print
open Go.RowKit Go.Proofs.YtcgefpklljclgaaW.PrintWords Go.Proofs.YtcgefpklljclgaaW.PrintLast
open Go.ChangeShapes Go.WideShapes Go.Deep
set_option linter.unusedVariables false
set_option linter.unusedSimpArgs false
section
variable {H:Type} {enc:TypeId×Value→H} {w:World} {base:Nat} {spare:Nat→Bool} {held:Bool}
theorem cells_i:Try.prog.cellsOf 3=1:=by kernel_rfl
theorem cells_s:Try.prog.cellsOf 9=1:=by kernel_rfl
theorem cells_v:Try.prog.cellsOf 27=3:=by kernel_rfl
theorem cells_it:Try.prog.cellsOf 31=12:=by kernel_rfl
theorem open_i {fuel:Nat} {c:Value} {x:DataW H×List MemPlace} (h:DataW.trod enc Try.prog w base spare held fuel 3 [c]=some x): ∃n:Int,c= .int .i64 n:=by
 obtain ⟨n,e,_,_⟩:=DataW.trod_int Try.underlying3 h
 exact ⟨n,(List.cons.inj e).1⟩
theorem open_s {fuel:Nat} {c:Value} {x:DataW H×List MemPlace} (h:DataW.trod enc Try.prog w base spare held fuel 9 [c]=some x): ∃s:ByteArray,c= .string s:=by
 obtain ⟨n,e,_,_⟩:=DataW.trod_string Try.underlying9 h
 exact ⟨n,(List.cons.inj e).1⟩
/-- an amount's cells -/
theorem open_vec {fuel:Nat} {cs:List Value} {x:DataW H×List MemPlace} (h:DataW.trod enc Try.prog w base spare held fuel 27 cs=some x): ∃v:Vec,cs=[.int .i64 v.f0, .int .i64 v.f1, .int .i64 v.f2]:=by
 obtain ⟨xs,n,_,hx,hl,hlen,hf⟩:=DataW.trod_struct Try.underlying27 h
 replace hl:cs.length=3:=hl.trans cells_v
 replace hlen:xs.length=3:=hlen
 clear h hx
 obtain ⟨c0,c1,c2,rfl⟩: ∃c0 c1 c2,cs=[c0,c1,c2]:=by
  clear hf
  match cs,hl with
  |[c0,c1,c2],_=>exact ⟨_,_,_,rfl⟩
 obtain ⟨y0,y1,y2,rfl⟩: ∃y0 y1 y2,xs=[y0,y1,y2]:=by
  clear hf
  match xs,hlen with
  |[y0,y1,y2],_=>exact ⟨_,_,_,rfl⟩
 have g0:DataW.trod enc Try.prog w base spare held n 3 (List.take (Try.prog.cellsOf 3) (List.drop 0 [c0,c1,c2]))=some y0:=hf 0 _ rfl
 have g1:DataW.trod enc Try.prog w base spare held n 3 (List.take (Try.prog.cellsOf 3) (List.drop 1 [c0,c1,c2]))=some y1:=hf 1 _ rfl
 have g2:DataW.trod enc Try.prog w base spare held n 3 (List.take (Try.prog.cellsOf 3) (List.drop 2 [c0,c1,c2]))=some y2:=hf 2 _ rfl
 rw [cells_i] at g0 g1 g2
 obtain ⟨n0,rfl⟩:=open_i (c:=c0) g0
 obtain ⟨n1,rfl⟩:=open_i (c:=c1) g1
 obtain ⟨n2,rfl⟩:=open_i (c:=c2) g2
 exact ⟨⟨n0,n1,n2⟩,rfl⟩
/-- an item's cells -/
theorem open_item {fuel:Nat} {cs:List Value} {x:DataW H×List MemPlace} (h:DataW.trod enc Try.prog w base spare held fuel 31 cs=some x): ∃it:Item,cs=[.string it.f0, .string it.f1, .int .i64 it.f2.f0, .int .i64 it.f2.f1, .int .i64 it.f2.f2, .int .i64 it.f3.f0, .int .i64 it.f3.f1, .int .i64 it.f3.f2, .int .i64 it.f4.f0, .int .i64 it.f4.f1, .int .i64 it.f4.f2, .int .i64 it.f5]:=by
 obtain ⟨xs,n,_,hx,hl,hlen,hf⟩:=DataW.trod_struct Try.underlying31 h
 replace hl:cs.length=12:=hl.trans cells_it
 replace hlen:xs.length=6:=hlen
 clear h hx
 obtain ⟨c0,c1,c2,c3,c4,c5,c6,c7,c8,c9,c10,c11,rfl⟩: ∃c0 c1 c2 c3 c4 c5 c6 c7 c8 c9 c10 c11,cs=[c0,c1,c2,c3,c4,c5,c6,c7,c8,c9,c10,c11]:=by
  clear hf
  match cs,hl with
  |[c0,c1,c2,c3,c4,c5,c6,c7,c8,c9,c10,c11],_=>exact ⟨_,_,_,_,_,_,_,_,_,_,_,_,rfl⟩
 obtain ⟨y0,y1,y2,y3,y4,y5,rfl⟩: ∃y0 y1 y2 y3 y4 y5,xs=[y0,y1,y2,y3,y4,y5]:=by
  clear hf
  match xs,hlen with
  |[y0,y1,y2,y3,y4,y5],_=>exact ⟨_,_,_,_,_,_,rfl⟩
 have g0:DataW.trod enc Try.prog w base spare held n 9 (List.take (Try.prog.cellsOf 9) (List.drop 0 [c0,c1,c2,c3,c4,c5,c6,c7,c8,c9,c10,c11]))=some y0:=hf 0 _ rfl
 have g1:DataW.trod enc Try.prog w base spare held n 9 (List.take (Try.prog.cellsOf 9) (List.drop 1 [c0,c1,c2,c3,c4,c5,c6,c7,c8,c9,c10,c11]))=some y1:=hf 1 _ rfl
 have g2:DataW.trod enc Try.prog w base spare held n 27 (List.take (Try.prog.cellsOf 27) (List.drop 2 [c0,c1,c2,c3,c4,c5,c6,c7,c8,c9,c10,c11]))=some y2:=hf 2 _ rfl
 have g3:DataW.trod enc Try.prog w base spare held n 27 (List.take (Try.prog.cellsOf 27) (List.drop 5 [c0,c1,c2,c3,c4,c5,c6,c7,c8,c9,c10,c11]))=some y3:=hf 3 _ rfl
 have g4:DataW.trod enc Try.prog w base spare held n 27 (List.take (Try.prog.cellsOf 27) (List.drop 8 [c0,c1,c2,c3,c4,c5,c6,c7,c8,c9,c10,c11]))=some y4:=hf 4 _ rfl
 have g5:DataW.trod enc Try.prog w base spare held n 3 (List.take (Try.prog.cellsOf 3) (List.drop 11 [c0,c1,c2,c3,c4,c5,c6,c7,c8,c9,c10,c11]))=some y5:=hf 5 _ rfl
 rw [cells_s] at g0 g1
 rw [cells_v] at g2 g3 g4
 rw [cells_i] at g5
 obtain ⟨n0,rfl⟩:=open_s (c:=c0) g0
 obtain ⟨n1,rfl⟩:=open_s (c:=c1) g1
 obtain ⟨v2,e2⟩:=open_vec (cs:=[c2,c3,c4]) g2
 obtain ⟨v3,e3⟩:=open_vec (cs:=[c5,c6,c7]) g3
 obtain ⟨v4,e4⟩:=open_vec (cs:=[c8,c9,c10]) g4
 obtain ⟨n5,rfl⟩:=open_i (c:=c11) g5
 simp only [List.cons.injEq,and_true] at e2 e3 e4
 obtain ⟨rfl,rfl,rfl⟩:=e2
 obtain ⟨rfl,rfl,rfl⟩:=e3
 obtain ⟨rfl,rfl,rfl⟩:=e4
 exact ⟨⟨n0,n1,v2,v3,v4,n5⟩,rfl⟩
/-- a row of items -/
theorem open_items {t:TypeId} (ht:Try.prog.underlying t=some (.slice 31)) {v:Value} {d:DataW H} {p:List MemPlace} {A:Option Addr} {len cap:Nat} (hv:v= .slice A len cap) (h:DataW.Trod enc Try.prog w base spare held t v d p):
    ∃zs:List Item,len=zs.length∧len≤cap∧Kd.C k31 w A zs.length zs:=by
  subst hv
  obtain ⟨fuel,hf⟩:=h
  rcases open_slice ht hf with ⟨e,_⟩|⟨a,len',cap',m,n,D,Pl,e,_,hl,hm,hmm,_,hi⟩
  · simp only [Value.cells, List.cons.injEq, Value.slice.injEq, and_true] at e
    obtain ⟨rfl,rfl,rfl⟩:=e
    exact ⟨[],rfl,Nat.le_refl _,Kd.C_nil _ _⟩
  · simp only [Value.cells, List.cons.injEq, Value.slice.injEq, and_true] at e
    obtain ⟨rfl,rfl,rfl⟩:=e
    have hlm:len≤m:=by rw [hmm];split<;>omega
    have key: ∀i,i<len→ ∃it:Item,∀j u,[Value.string it.f0, .string it.f1, .int .i64 it.f2.f0, .int .i64 it.f2.f1, .int .i64 it.f2.f2, .int .i64 it.f3.f0, .int .i64 it.f3.f1, .int .i64 it.f3.f2, .int .i64 it.f4.f0, .int .i64 it.f4.f1, .int .i64 it.f4.f2, .int .i64 it.f5][j]?=some u→w.cell? (a.add (i*12+j))=some u:=by
      intro i hil
      obtain ⟨cs',h1,h2⟩:=hi i (by omega)
      rw [cells_it] at h1
      obtain ⟨_,hcl,hat⟩:=World.cells?_some h1
      obtain ⟨it,rfl⟩:=open_item h2
      refine ⟨it,fun j u hj=> ?_⟩
      have hj12:j<12:=by
        have:=(List.getElem?_eq_some_iff.1 hj).1
        simpa using this
      have:=hat j hj12
      rw [Go.Deep.add_add,hj] at this
      exact this
    have hg: ∃g:Nat→Item,∀i,i<len→ ∀j u,[Value.string (g i).f0, .string (g i).f1, .int .i64 (g i).f2.f0, .int .i64 (g i).f2.f1, .int .i64 (g i).f2.f2, .int .i64 (g i).f3.f0, .int .i64 (g i).f3.f1, .int .i64 (g i).f3.f2, .int .i64 (g i).f4.f0, .int .i64 (g i).f4.f1, .int .i64 (g i).f4.f2, .int .i64 (g i).f5][j]?=some u→w.cell? (a.add (i*12+j))=some u:=by
      refine ⟨fun i=>if q:i<len then Classical.choose (key i q) else zItem,fun i q=> ?_⟩
      have:=Classical.choose_spec (key i q)
      simp only [q,dif_pos]
      exact this
    obtain ⟨g,hg⟩:=hg
    refine ⟨(List.range len).map g,by simp,hl, ?_⟩
    have hml:maxLen=9223372036854775807:=rfl
    refine ⟨rfl,by simp;omega,fun _=>⟨a,rfl,fun j p hj=> ?_⟩⟩
    rw [List.getElem?_map] at hj
    obtain ⟨i,hi1,rfl⟩:=Option.map_eq_some_iff.1 hj
    obtain ⟨hjl,e⟩:=List.getElem?_eq_some_iff.1 hi1
    rw [List.getElem_range] at e
    subst e
    rw [List.length_range] at hjl
    exact ⟨_,rfl,k31_mk w (g j),fun i u hu=>hg j hjl i u hu⟩
end
end Go.Proofs.Ytcgefpklljclgaa.Print

namespace Go.Proofs.Ytcgefpklljclgaa.Print
open Go.RowKit Go.Proofs.YtcgefpklljclgaaW.PrintWords Go.Proofs.YtcgefpklljclgaaW.PrintLast
open Go.ChangeShapes Go.WideShapes Go.Deep
set_option linter.unusedVariables false
set_option linter.unusedSimpArgs false
section
variable {H:Type} {enc:TypeId×Value→H} {w:World} {base:Nat} {spare:Nat→Bool} {held:Bool}
theorem cells_step:Try.prog.cellsOf 58=6:=by kernel_rfl
theorem open_step {fuel:Nat} {cs:List Value} {x:DataW H×List MemPlace} (h:DataW.trod enc Try.prog w base spare held fuel 58 cs=some x): ∃it:S58,cs=[Value.int .i64 it.f0, .string it.f1, .string it.f2, .int .i64 it.f3.f0, .int .i64 it.f3.f1, .int .i64 it.f3.f2]:=by
 obtain ⟨xs,n,_,hx,hl,hlen,hf⟩:=DataW.trod_struct Try.underlying58 h
 replace hl:cs.length=6:=hl.trans cells_step
 replace hlen:xs.length=4:=hlen
 clear h hx
 obtain ⟨c0,c1,c2,c3,c4,c5,rfl⟩: ∃c0 c1 c2 c3 c4 c5,cs=[c0,c1,c2,c3,c4,c5]:=by
  clear hf
  match cs,hl with
  |[c0,c1,c2,c3,c4,c5],_=>exact ⟨_,_,_,_,_,_,rfl⟩
 obtain ⟨y0,y1,y2,y3,rfl⟩: ∃y0 y1 y2 y3,xs=[y0,y1,y2,y3]:=by
  clear hf
  match xs,hlen with
  |[y0,y1,y2,y3],_=>exact ⟨_,_,_,_,rfl⟩
 have g0:DataW.trod enc Try.prog w base spare held n 3 (List.take (Try.prog.cellsOf 3) (List.drop 0 [c0,c1,c2,c3,c4,c5]))=some y0:=hf 0 _ rfl
 have g1:DataW.trod enc Try.prog w base spare held n 9 (List.take (Try.prog.cellsOf 9) (List.drop 1 [c0,c1,c2,c3,c4,c5]))=some y1:=hf 1 _ rfl
 have g2:DataW.trod enc Try.prog w base spare held n 9 (List.take (Try.prog.cellsOf 9) (List.drop 2 [c0,c1,c2,c3,c4,c5]))=some y2:=hf 2 _ rfl
 have g3:DataW.trod enc Try.prog w base spare held n 27 (List.take (Try.prog.cellsOf 27) (List.drop 3 [c0,c1,c2,c3,c4,c5]))=some y3:=hf 3 _ rfl
 rw [cells_s] at g1 g2
 rw [cells_i] at g0
 rw [cells_v] at g3
 obtain ⟨n0,rfl⟩:=open_i (c:=c0) g0
 obtain ⟨n1,rfl⟩:=open_s (c:=c1) g1
 obtain ⟨n2,rfl⟩:=open_s (c:=c2) g2
 obtain ⟨v3,e3⟩:=open_vec (cs:=[c3,c4,c5]) g3
 simp only [List.cons.injEq,and_true] at e3
 obtain ⟨rfl,rfl,rfl⟩:=e3
 exact ⟨⟨n0,n1,n2,v3⟩,rfl⟩
theorem open_step_arg {cs:Array Value} {d:DataW H} {p:List MemPlace} (h:DataW.Trod enc Try.prog w base spare held 58 (.agg cs) d p): ∃it:S58,cs=#[.int .i64 it.f0, .string it.f1, .string it.f2, .int .i64 it.f3.f0, .int .i64 it.f3.f1, .int .i64 it.f3.f2]:=by
 obtain ⟨fuel,hf⟩:=h
 obtain ⟨v,e⟩:=open_step hf
 exact ⟨v,Array.toList_inj.1 e⟩
end
end Go.Proofs.Ytcgefpklljclgaa.Print

namespace Go.Proofs.Ytcgefpklljclgaa.Print
open Go.RowKit Go.Proofs.YtcgefpklljclgaaW.PrintWords Go.Proofs.YtcgefpklljclgaaW.PrintLast
set_option linter.unusedVariables false
set_option linter.unusedSimpArgs false
/-! names in order -/
def lt (a b:ByteArray):Bool:=Op.bytesLess a.toList b.toList
theorem bl_irrefl: ∀a:List UInt8,Op.bytesLess a a=false
 |[]=>rfl
 |x::a=>by unfold Op.bytesLess;simp [bl_irrefl a]
theorem bl_trans: ∀{a b c:List UInt8},Op.bytesLess a b=true→Op.bytesLess b c=true→Op.bytesLess a c=true
  |[],[],_,h,_=>by simp [Op.bytesLess] at h
  |[],_::_,[],_,k=>by simp [Op.bytesLess] at k
  |[],_::_,_::_,_,_=>by simp [Op.bytesLess]
  |_::_,[],_,h,_=>by simp [Op.bytesLess] at h
  |_::_,_::_,[],_,k=>by simp [Op.bytesLess] at k
  | x :: a, y :: b, z :: c, h, k => by
    simp only [Op.bytesLess,Bool.or_eq_true,Bool.and_eq_true,decide_eq_true_eq,beq_iff_eq] at h k ⊢
    rcases h with h|⟨rfl,h⟩
    · rcases k with k | ⟨rfl, k⟩
      · exact .inl (UInt8.lt_trans h k)
      · exact .inl h
    · rcases k with k | ⟨rfl, k⟩
      · exact .inl k
      · exact .inr ⟨rfl,bl_trans h k⟩
theorem bl_total: ∀{a b:List UInt8},Op.bytesLess a b=false→a≠b→Op.bytesLess b a=true
  |[],[],_,h=>absurd rfl h
  |[],_::_,h,_=>by simp [Op.bytesLess] at h
  |_::_,[],_,_=>by simp [Op.bytesLess]
  | x :: a, y :: b, h, k => by
    simp only [Op.bytesLess,Bool.or_eq_true,Bool.or_eq_false_iff,Bool.and_eq_false_iff,Bool.and_eq_true,decide_eq_true_eq,decide_eq_false_iff_not,beq_iff_eq,beq_eq_false_iff_ne] at h ⊢
    obtain ⟨h1,h2⟩:=h
    by_cases e:x=y
    · subst e
      rcases h2 with h2|h2
      · exact absurd rfl h2
      · exact .inr ⟨rfl,bl_total h2 (fun e=>k (by rw [e]))⟩
    · left
      have h3: ¬x.toNat<y.toNat:=by rwa [←UInt8.lt_iff_toNat_lt]
      have h4:x.toNat≠y.toNat:=fun q=>e (UInt8.toNat_inj.1 q)
      rw [UInt8.lt_iff_toNat_lt];omega
theorem lt_irrefl (a:ByteArray):lt a a=false:=bl_irrefl _
theorem lt_trans {a b c:ByteArray} (h:lt a b=true) (k:lt b c=true):lt a c=true:=bl_trans h k
theorem lt_total {a b:ByteArray} (h:lt a b=false) (k:a≠b):lt b a=true:=bl_total h (fun e=>k (nm_inj.1 e))
theorem lt_ne {a b:ByteArray} (h:lt a b=true):a≠b:=by rintro rfl;rw [lt_irrefl] at h;cases h
/-! amounts -/
inductive Comp where|cpu|mem|pods
def Comp.of:Comp→Vec→Int| .cpu,v=>v.f0| .mem,v=>v.f1| .pods,v=>v.f2
theorem vec_ext {a b:Vec} (h: ∀c:Comp,c.of a=c.of b):a=b:=by
 cases a;cases b
 have h0:=h .cpu;have h1:=h .mem;have h2:=h .pods
 simp [Comp.of] at h0 h1 h2
 simp [h0,h1,h2]
def vadd (a b:Vec):Vec:=⟨a.f0+b.f0,a.f1+b.f1,a.f2+b.f2⟩
def vsub (a b:Vec):Vec:=⟨a.f0 - b.f0,a.f1 - b.f1,a.f2 - b.f2⟩
theorem of_vadd (c:Comp) (a b:Vec):c.of (vadd a b)=c.of a+c.of b:=by cases c<;>rfl
theorem of_vsub (c:Comp) (a b:Vec):c.of (vsub a b)=c.of a - c.of b:=by cases c<;>rfl
def MayP (v:Vec):Prop:= ∀c:Comp,0≤c.of v∧c.of v≤1099511627776
def LeP (a b:Vec):Prop:= ∀c:Comp,c.of a≤c.of b
theorem comp_all {p:Comp→Prop}:(∀c,p c)↔p .cpu∧p .mem∧p .pods:=
 ⟨fun h=>⟨h _,h _,h _⟩,fun ⟨a,b,d⟩ c=>by cases c<;>assumption⟩
instance (v:Vec):Decidable (MayP v):=decidable_of_iff _ comp_all.symm
instance (a b:Vec):Decidable (LeP a b):=decidable_of_iff _ comp_all.symm
theorem mayP_iff {a b d:Int}:MayP ⟨a,b,d⟩↔(0≤a∧a≤1099511627776)∧(0≤b∧b≤1099511627776)∧(0≤d∧d≤1099511627776):=comp_all
theorem leP_iff {a b d a' b' d':Int}:LeP ⟨a,b,d⟩ ⟨a',b',d'⟩↔a≤a'∧b≤b'∧d≤d':=comp_all
/-! sums over a tree -/
def sumBy (g:Item→Int) (l:List Item):Int:=(l.map g).sum
theorem sumBy_nil (g:Item→Int):sumBy g []=0:=rfl
theorem sumBy_cons (g:Item→Int) (x:Item) (l:List Item):sumBy g (x::l)=g x+sumBy g l:=by simp [sumBy]
theorem sumBy_append (g:Item→Int) (l m:List Item):sumBy g (l++m)=sumBy g l+sumBy g m:=by simp [sumBy]
theorem sumBy_congr {g h:Item→Int}: ∀{l:List Item},(∀x∈l,g x=h x)→sumBy g l=sumBy h l
 |[],_=>rfl
 |x::l,e=>by rw [sumBy_cons,sumBy_cons,e x (by simp),sumBy_congr (fun y hy=>e y (by simp [hy]))]
theorem sumBy_add (g h:Item→Int): ∀l:List Item,sumBy (fun x=>g x+h x) l=sumBy g l+sumBy h l
 |[]=>rfl
 |x::l=>by rw [sumBy_cons,sumBy_cons,sumBy_cons,sumBy_add g h l];omega
theorem sumBy_sub (g h:Item→Int): ∀l:List Item,sumBy (fun x=>g x - h x) l=sumBy g l - sumBy h l
 |[]=>rfl
 |x::l=>by rw [sumBy_cons,sumBy_cons,sumBy_cons,sumBy_sub g h l];omega
theorem sumBy_map (g:Item→Int) (f:Item→Item): ∀l:List Item,sumBy g (l.map f)=sumBy (fun x=>g (f x)) l
 |[]=>rfl
 |x::l=>by rw [List.map_cons,sumBy_cons,sumBy_cons,sumBy_map g f l]
theorem sumBy_zero {g:Item→Int}: ∀{l:List Item},(∀x∈l,g x=0)→sumBy g l=0
 |[],_=>rfl
 |x::l,e=>by rw [sumBy_cons,e x (by simp),sumBy_zero (fun y hy=>e y (by simp [hy]))];rfl
theorem sumBy_nonneg {g:Item→Int}: ∀{l:List Item},(∀x∈l,0≤g x)→0≤sumBy g l
 |[],_=>by simp [sumBy_nil]
 |x::l,e=>by rw [sumBy_cons];have:=e x (by simp);have:=sumBy_nonneg (l:=l) (fun y hy=>e y (by simp [hy]));omega
theorem sumBy_le {g:Item→Int} {B:Int}: ∀{l:List Item},(∀x∈l,g x≤B)→sumBy g l≤B*l.length
  |[],_=>by simp [sumBy_nil]
  | x :: l, e => by
    rw [sumBy_cons];have:=e x (by simp);have:=sumBy_le (l:=l) (fun y hy=>e y (by simp [hy]))
    simp only [List.length_cons,Int.natCast_succ,Int.mul_add,Int.mul_one];omega
/-- one summand alone: names stand once -/
theorem sumBy_one {v:Int} {l:List Item} (hn:(l.map (·.f0)).Nodup) {x:Item} (hx:x∈l):sumBy (fun y=>if y.f0=x.f0 then v else 0) l=v:=by
  induction l with
  |nil=>cases hx
  | cons y l ih =>
    rw [List.map_cons,List.nodup_cons] at hn
    rw [sumBy_cons]
    rcases List.mem_cons.1 hx with rfl|hx
    · rw [if_pos rfl,sumBy_zero (fun z hz=>if_neg (fun e=>hn.1 (by rw [←e];exact List.mem_map_of_mem hz)))];omega
    · rw [if_neg (fun e=>hn.1 (by rw [e];exact List.mem_map_of_mem hx)),ih hn.2 hx];omega
/-- what the children have -/
def csum (c:Comp) (l:List Item) (n:ByteArray):Int:=sumBy (fun y=>if y.f1=n then c.of y.f4 else 0) l
/-! right trees -/
structure ItemOK (x:Item):Prop where
 name:x.f0≠⟨#[]⟩
 size:x.f0.size≤24
 lim:MayP x.f2
 own:MayP x.f3
 sub:MayP x.f4
 fit:LeP x.f4 x.f2
 ver:1≤x.f5∧x.f5≤9007199254740992
structure RightP (l:List Item):Prop where
 len:l.length≤120
 ok: ∀x∈l,ItemOK x
 sorted:l.Pairwise (fun x y=>lt x.f0 y.f0=true)
 par: ∀x∈l,x.f1=⟨#[]⟩∨ ∃y,look l x.f1=some y
 sum: ∀c:Comp,∀x∈l,c.of x.f4=c.of x.f3+csum c l x.f0
 chain: ∀x∈l,∃us,Chain l x.f0 us
theorem sorted_nodup {l:List Item} (h:l.Pairwise (fun x y=>lt x.f0 y.f0=true)):(l.map (·.f0)).Nodup:=by
 rw [List.Nodup,List.pairwise_map]
 exact h.imp (fun hxy=>lt_ne hxy)
theorem RightP.nodup {l:List Item} (h:RightP l):(l.map (·.f0)).Nodup:=sorted_nodup h.sorted
theorem look_of_mem {l:List Item} (hn:(l.map (·.f0)).Nodup) {x:Item} (hx:x∈l):look l x.f0=some x:=by
  induction l with
  |nil=>cases hx
  | cons y l ih =>
    rw [List.map_cons,List.nodup_cons] at hn
    unfold look
    rw [List.find?_cons]
    rcases List.mem_cons.1 hx with rfl|hx
    · simp
    · have : y.f0 ≠ x.f0 := fun e => hn.1 (by rw [e]; exact List.mem_map_of_mem hx)
      simp only [this,decide_false]
      exact ih hn.2 hx
theorem RightP.look {l:List Item} (h:RightP l) {x:Item} (hx:x∈l):look l x.f0=some x:=look_of_mem h.nodup hx
theorem RightP.chainAll {l:List Item} (h:RightP l) (n:ByteArray):Chain l n (up l n):=by
  cases hl:Print.look l n with
  |none=>have c:=Chain.nil hl;rw [c.up];exact c
  | some x =>
    obtain ⟨hx,rfl⟩:=look_mem hl
    obtain ⟨us,c⟩:=h.chain x hx
    rw [c.up];exact c
/-- two that have one name are one -/
theorem RightP.eq_of {l:List Item} (h:RightP l) {x y:Item} (hx:x∈l) (hy:y∈l) (e:x.f0=y.f0):x=y:=by
 have h1:=h.look hx
 rw [e,h.look hy] at h1
 exact (Option.some.inj h1).symm
end Go.Proofs.Ytcgefpklljclgaa.Print

namespace Go.Proofs.Ytcgefpklljclgaa.Print
open Go.RowKit Go.Proofs.YtcgefpklljclgaaW.PrintWords Go.Proofs.YtcgefpklljclgaaW.PrintLast
set_option linter.unusedVariables false
set_option linter.unusedSimpArgs false
/-! a tree whose items change, but neither their names nor parents -/
theorem look_map {f:Item→Item} (hf: ∀x,(f x).f0=x.f0) (l:List Item) (n:ByteArray):look (l.map f) n=(look l n).map f:=by
 unfold look
 rw [List.find?_map]
 congr 2
 funext x
 simp [hf]
theorem Chain.map {f:Item→Item} (hf: ∀x,(f x).f0=x.f0) (hp: ∀x,(f x).f1=x.f1) {l:List Item} {n:ByteArray} {us:List ByteArray} (h:Chain l n us):Chain (l.map f) n us:=by
 induction h with
 |nil h=>exact .nil (by rw [look_map hf,h];rfl)
 |@cons n x us h k ih=>exact .cons (x:=f x) (by rw [look_map hf,h];rfl) (by rw [hp];exact ih)
theorem up_self {l:List Item} {n:ByteArray} {x:Item} (h:look l n=some x):n∈up l n:=by
 unfold up
 rw [upGo_some h]
 simp
/-- which of a node's children stand on a way up -/
theorem chain_kids {l:List Item} (hl:RightP l) {n:ByteArray} {us:List ByteArray} (h:Chain l n us) (v:Int) {x:Item} (hx:x∈l):
    sumBy (fun y=>if y.f1=x.f0∧y.f0∈us then v else 0) l=if x.f0∈us∧x.f0≠n then v else 0:=by
  induction h with
  |nil _=>rw [sumBy_zero (fun y _=>by simp)];simp
  | @cons n z us h k ih =>
    obtain ⟨hz,rfl⟩:=look_mem h
    have hnd:=(Chain.cons h k).nodup
    rw [List.nodup_cons] at hnd
    have e:sumBy (fun y=>if y.f1=x.f0∧y.f0∈z.f0::us then v else 0) l=sumBy (fun y=>(if y.f0=z.f0 then (if z.f1=x.f0 then v else 0) else 0)+(if y.f1=x.f0∧y.f0∈us then v else 0)) l:=by
      refine sumBy_congr fun y hy=> ?_
      by_cases e1:y.f0=z.f0
      · have := hl.eq_of hy hz e1
        subst this
        by_cases e2:y.f1=x.f0<;>simp [e2,hnd.1]
      · simp [e1]
    rw [e,sumBy_add,ih,sumBy_one hl.nodup hz]
    by_cases e2:z.f1=x.f0
    · have hm:x.f0∈us:=by
        rw [e2] at k
        cases k with
        |nil k=>rw [hl.look hx] at k;cases k
        |cons _ _=>simp
      have hne:x.f0≠z.f0:=fun q=>hnd.1 (by rw [←q];exact hm)
      simp [e2,hm,hne]
    · by_cases e3 : x.f0 = z.f0
      · simp [e2, e3, hnd.1]
        exact fun q=>absurd (q.trans e3.symm) e2
      · have e4 : x.f0 ≠ z.f1 := fun q => e2 q.symm
        simp [e2,e3,e4]
/-! a new node -/
def insL (l:List Item) (it:Item):List Item:=l.takeWhile (fun x=>lt x.f0 it.f0)++it::l.dropWhile (fun x=>lt x.f0 it.f0)
theorem look_ins (a b:List Item) (it:Item) (n:ByteArray) (h:look (a++b) it.f0=none):look (a++it::b) n=if n=it.f0 then some it else look (a++b) n:=by
  unfold look at h ⊢
  rw [List.find?_append] at h ⊢
  rw [List.find?_append,List.find?_cons]
  by_cases e:it.f0=n
  · subst e
    cases ha:a.find? (fun x=>decide (x.f0=it.f0)) with
    |some y=>rw [ha] at h;simp at h
    |none=>simp
  · have e' : n ≠ it.f0 := fun q => e q.symm
    simp [e,e']
theorem insL_eq (l:List Item) (it:Item): ∃a b,l=a++b∧insL l it=a++it::b∧(∀x∈a,lt x.f0 it.f0=true)∧(∀x t,b=x::t→lt x.f0 it.f0=false):=by
  refine ⟨l.takeWhile (fun x=>lt x.f0 it.f0),l.dropWhile (fun x=>lt x.f0 it.f0),(List.takeWhile_append_dropWhile).symm,rfl,fun x hx=> ?_,fun x t e=> ?_⟩
  · exact List.all_eq_true.1 (List.all_takeWhile (p:=fun x:Item=>lt x.f0 it.f0) (l:=l)) x hx
  · have := List.head?_dropWhile_not (fun x : Item => lt x.f0 it.f0) l
    rw [e] at this
    simpa using this
theorem csum_ins (c:Comp) (a b:List Item) (it:Item) (n:ByteArray):csum c (a++it::b) n=csum c (a++b) n+if it.f1=n then c.of it.f4 else 0:=by
 unfold csum
 rw [sumBy_append,sumBy_append,sumBy_cons];omega
theorem ins_right {l:List Item} (hl:RightP l) {it:Item} (hi:ItemOK it) (h0: ∀c:Comp,c.of it.f3=0∧c.of it.f4=0) (hn:look l it.f0=none)
    (hp:it.f1=⟨#[]⟩∨ ∃y,look l it.f1=some y) (hlen:l.length<120):RightP (insL l it):=by
  obtain ⟨a,b,e,e',ha,hb⟩:=insL_eq l it
  rw [e']
  subst e
  have hlk:=fun n=>look_ins a b it n hn
  have hmem: ∀x,x∈a++it::b↔x=it∨x∈a++b:=fun x=>by simp;constructor<;>(intro h;rcases h with h|h|h<;>simp [h])
  have hnew: ∀m y,look (a++b) m=some y→m≠it.f0:=fun m y h q=>by rw [q,hn] at h;cases h
  have hne:it.f0≠⟨#[]⟩:=hi.name
  have hpar: ∀x∈a++b,x.f1≠it.f0:=fun x hx q=>by
    rcases hl.par x hx with h|⟨y,h⟩
    · exact hne (q.symm.trans h)
    · exact hnew _ _ h q
  have hch: ∀{n us},Chain (a++b) n us→n≠it.f0→Chain (a++it::b) n us:=by
    intro n us h
    induction h with
    |nil h=>intro q;exact .nil (by rw [hlk,if_neg q];exact h)
    | @cons n x us h k ih =>
      intro q
      exact .cons (x:=x) (by rw [hlk,if_neg q];exact h) (ih (hpar x (look_mem h).1))
  have hip:it.f1≠it.f0:=by
    rcases hp with h|⟨y,h⟩
    · rw [h];exact fun q=>hne q.symm
    · exact hnew _ _ h
  refine ⟨?_, ?_, ?_, ?_, ?_, ?_⟩
  · simp at hlen ⊢;omega
  · intro x hx
    rcases (hmem x).1 hx with rfl|hx
    · exact hi
    · exact hl.ok x hx
  · have hs := hl.sorted
    rw [List.pairwise_append] at hs ⊢
    obtain ⟨h1,h2,h3⟩:=hs
    have hbx: ∀y∈b,lt it.f0 y.f0=true:=by
      intro y hy
      cases b with
      |nil=>cases hy
      | cons x t =>
        have hx:lt it.f0 x.f0=true:=lt_total (hb x t rfl) (fun q=>look_none.1 hn x (by simp) q)
        rcases List.mem_cons.1 hy with rfl|hy
        · exact hx
        · exact lt_trans hx ((List.pairwise_cons.1 h2).1 y hy)
    refine ⟨h1,List.pairwise_cons.2 ⟨hbx,h2⟩,fun x hx y hy=> ?_⟩
    rcases List.mem_cons.1 hy with rfl|hy
    · exact ha x hx
    · exact h3 x hx y hy
  · intro x hx
    rcases (hmem x).1 hx with rfl|hx
    · rcases hp with h | ⟨y, h⟩
      · exact .inl h
      · exact .inr ⟨y,by rw [hlk,if_neg hip];exact h⟩
    · rcases hl.par x hx with h | ⟨y, h⟩
      · exact .inl h
      · exact .inr ⟨y,by rw [hlk,if_neg (hpar x hx)];exact h⟩
  · intro c x hx
    rw [csum_ins,(h0 c).2,ite_self,Int.add_zero]
    rcases (hmem x).1 hx with rfl|hx
    · rw [(h0 c).1, (h0 c).2]
      unfold csum
      rw [sumBy_zero (fun y hy=>if_neg (hpar y hy))];rfl
    · exact hl.sum c x hx
  · intro x hx
    rcases (hmem x).1 hx with rfl|hx
    · have := hch (hl.chainAll x.f1) hip
      exact ⟨_, .cons (x:=x) (by rw [hlk,if_pos rfl]) this⟩
    · obtain ⟨us, h⟩ := hl.chain x hx
      exact ⟨us,hch h (fun q=>look_none.1 hn x hx q)⟩
end Go.Proofs.Ytcgefpklljclgaa.Print

namespace Go.Proofs.Ytcgefpklljclgaa.Print
open Go.RowKit Go.Proofs.YtcgefpklljclgaaW.PrintWords Go.Proofs.YtcgefpklljclgaaW.PrintLast Go.Proofs.YtcgefpklljclgaaW.PrintMore
attribute [local go_sem] max2_int min2_int max_two min_two max_three min_three max_four min_four   -- for this text's walks alone
set_option linter.unusedVariables false
set_option linter.unusedSimpArgs false

end Go.Proofs.Ytcgefpklljclgaa.Print

namespace Go.Proofs.Ytcgefpklljclgaa.Print
open Go.RowKit Go.Proofs.YtcgefpklljclgaaW.PrintWords Go.Proofs.YtcgefpklljclgaaW.PrintLast Go.Proofs.YtcgefpklljclgaaW.PrintMore
attribute [local go_sem] max2_int min2_int max_two min_two max_three min_three max_four min_four   -- for this text's walks alone
set_option linter.unusedVariables false
set_option linter.unusedSimpArgs false

end Go.Proofs.Ytcgefpklljclgaa.Print

namespace Go.Proofs.Ytcgefpklljclgaa.Print
open Go.RowKit Go.Proofs.YtcgefpklljclgaaW.PrintWords Go.Proofs.YtcgefpklljclgaaW.PrintLast
set_option linter.unusedVariables false
set_option linter.unusedSimpArgs false
theorem ite_iff {α:Type} {p q:Prop} [Decidable p] [Decidable q] (h:p↔q) {a b:α}:(if p then a else b)=if q then a else b:=by
  by_cases hp:p
  · rw [if_pos hp,if_pos (h.1 hp)]
  · rw [if_neg hp,if_neg (fun k=>hp (h.2 k))]
/-! the document's small functions -/
theorem r10_Le_eq (a b d a' b' d':Int):r10_Le.f a b d a' b' d'=some (decide (LeP ⟨a,b,d⟩ ⟨a',b',d'⟩)):=by
 unfold r10_Le.f
 by_cases h0:a≤a'<;>by_cases h1:b≤b'<;>simp [h0,h1,leP_iff]
theorem r10_unit_eq (a:Int):r10_unit.f a=some (decide (0≤a∧a≤1099511627776)):=by
  unfold r10_unit.f
  by_cases h0:0≤a
  · rw [if_pos (by omega)];simp [h0]
  · rw [if_neg (by omega)];simp [h0]
theorem r10_MayVec_eq (a b d:Int):r10_MayVec.f a b d=some (decide (MayP ⟨a,b,d⟩)):=by
 unfold r10_MayVec.f
 simp only [r10_unit_eq,Option.bind_some]
 by_cases h0:0≤a∧a≤1099511627776<;>by_cases h1:0≤b∧b≤1099511627776<;>simp [h0,h1,mayP_iff]
theorem r10_MayName_eq (n:ByteArray):r10_MayName.f n=some (decide (n≠⟨#[]⟩∧n.size≤24)):=by
  unfold r10_MayName.f
  by_cases h:n=⟨#[]⟩
  · rw [if_pos (nm_empty.2 h)];simp [h]
  · rw [if_neg (fun q=>h (nm_empty.1 q))];simp [h];omega
theorem r10_copied_eq (l:List Item) (h:l.length<1000000):r10_copied.f l=some l:=by
 unfold r10_copied.f
 simp only [Option.bind_some,List.length_nil,List.nil_append]
 rw [if_pos (by omega)]
theorem r10_Find_l0 (l:List Item) (n:ByteArray) (hl:l.length<1000000): ∀(d i:Nat),l.length - i=d→i≤l.length→
    Ev (fun k=>r10_Find.l0 k l n i) (fidx (fun x:Item=>x.f0.toList==n.toList) (l.drop i) i)
  | 0, i, hd, hi => by
    obtain rfl:i=l.length:=by omega
    refine Ev.step (f:=fun _=>some (-1)) (fun k=> ?_) (by rw [List.drop_length];exact Ev.now _)
    simp only [r10_Find.l0]
    rw [if_neg (by omega)]
  | d + 1, i, hd, hi => by
    have hlt:i<l.length:=by omega
    rw [fidx_drop _ zItem l i hlt]
    have hrd:rd_T31 l (i:Int)=l.getD i zItem:=by rw [rd_item,Int.toNat_natCast]
    by_cases e:(l.getD i zItem).f0.toList=n.toList
    · rw [if_pos (beq_iff_eq.2 e)]
      refine Ev.step (f:=fun _=>some (i:Int)) (fun k=> ?_) (Ev.now _)
      simp only [r10_Find.l0]
      rw [if_pos (by omega),if_pos (by omega),hrd,if_pos e]
    · rw [if_neg (fun q => e (beq_iff_eq.1 q))]
      refine Ev.step (f:=fun k=>r10_Find.l0 k l n ((i+1:Nat):Int)) (fun k=> ?_) (r10_Find_l0 l n hl d (i+1) (by omega) (by omega))
      simp only [r10_Find.l0]
      rw [if_pos (by omega),if_pos (by omega),hrd,if_neg e,w64 (by omega) (by omega)]
      rfl
theorem r10_Find_ev (l:List Item) (n:ByteArray) (hl:l.length<1000000):Ev (fun k=>r10_Find.f k l n) (fnd l n):=r10_Find_l0 l n hl _ 0 rfl (by omega)
theorem r10_Up_l0 (l:List Item) (hl:l.length<1000000): ∀(m:Nat) (n:ByteArray) (out:List ByteArray),out.length+m=l.length+1→
    Ev (fun k=>r10_Up.l0 k l out (fnd l n)) (out++upGo l m n)
  | 0, n, out, hm => by
    rw [upGo.eq_1,List.append_nil]
    refine Ev.step (f:=fun _=>some out) (fun k=> ?_) (Ev.now _)
    simp only [r10_Up.l0]
    by_cases h:0≤fnd l n
    · rw [if_pos h,if_neg (by omega)]
    · rw [if_neg h]
  | m + 1, n, out, hm => by
    cases h:look l n with
    | none =>
      rw [upGo_none h,List.append_nil]
      refine Ev.step (f:=fun _=>some out) (fun k=> ?_) (Ev.now _)
      simp only [r10_Up.l0]
      rw [fnd_none h,if_neg (by omega)]
    | some x =>
      rw [upGo_some h]
      have h0:=fnd_ge.2 ⟨x,h⟩
      have h1:=fnd_lt l n
      obtain ⟨hx,hn⟩:=look_mem h
      refine Ev.step (f:=fun k=>(r10_Find.f k l x.f1).bind fun t=>r10_Up.l0 k l (out++ [n]) t) (fun k=> ?_) (Ev.bind (r10_Find_ev l x.f1 hl) ?_)
      · simp only [r10_Up.l0]
        rw [if_pos h0,if_pos (by omega),if_pos h0,if_pos h1,if_pos (by omega),fnd_rd h,hn]
      · have := r10_Up_l0 l hl m x.f1 (out ++ [n]) (by simp; omega)
        simpa using this
theorem r10_Up_ev (l:List Item) (n:ByteArray) (hl:l.length<1000000):Ev (fun k=>r10_Up.f k l n) (up l n):=
 Ev.bind (r10_Find_ev l n hl) (by have:=r10_Up_l0 l hl (l.length+1) n [] (by simp);rw [List.nil_append] at this;exact this)
/-! a store at a name's place -/
theorem set_at {l:List Item} (hn:(l.map (·.f0)).Nodup) {n:ByteArray} {x:Item} (h:look l n=some x) (y:Item):
    l.set (fnd l n).toNat y=l.map (fun z=>if z.f0=n then y else z):=by
  obtain ⟨j,h1,h2,h3,h4,h5⟩:=fnd_some h
  rw [h2,Int.toNat_natCast]
  have hx:l[j]=x:=by rw [←h3];simp [h1]
  apply List.ext_getElem (by simp)
  intro m hm hm'
  simp only [List.length_set] at hm
  rw [List.getElem_set,List.getElem_map]
  by_cases e:j=m
  · subst e
    rw [if_pos rfl,if_pos (by rw [hx];exact h4)]
  · rw [if_neg e, if_neg]
    intro q
    have h6:(l.map (·.f0))[j]'(by simpa using h1)=(l.map (·.f0))[m]'(by simpa using hm):=by simp [hx,h4,q]
    exact e ((List.getElem_inj hn).1 h6)
theorem fnd_map {f:Item→Item} (hf: ∀x,(f x).f0=x.f0) (l:List Item) (n:ByteArray):fnd (l.map f) n=fnd l n:=by
 have: ∀(l:List Item) (i:Int),fidx (fun x:Item=>x.f0.toList==n.toList) (l.map f) i=fidx (fun x:Item=>x.f0.toList==n.toList) l i:=by
  intro l
  induction l with
  |nil=>intro i;rfl
  |cons x l ih=>intro i;simp only [List.map_cons,fidx,hf,ih]
 exact this l 0
theorem drop_cons {us:List ByteArray} {i:Nat} (h:i<us.length):us.drop i=rdOf ByteArray.empty us i::us.drop (i+1):=by
 rw [List.drop_eq_getElem_cons h];simp [rdOf,h]
/-! a new node, as the document says -/
def zVec:Vec:=⟨0,0,0⟩
def newItem (n p:ByteArray) (v:Vec):Item:=⟨n,p,v,zVec,zVec,1⟩
def creR (l:List Item) (n p:ByteArray) (v:Vec):List Item×Int:=
 if¬((n≠⟨#[]⟩∧n.size≤24)∧MayP v) then ([],1) else if (look l n).isSome=true then ([],3) else if p≠⟨#[]⟩∧(look l p).isNone=true then ([],2) else if 120≤l.length then ([],4) else (insL l (newItem n p v),0)
theorem insL_cons (x:Item) (l:List Item) (it:Item):insL (x::l) it=if lt x.f0 it.f0=true then x::insL l it else it::x::l:=by
 unfold insL
 rw [List.takeWhile_cons,List.dropWhile_cons]
 cases lt x.f0 it.f0<;>simp
theorem r10_Create_l0 (n p:ByteArray) (v:Vec) (b:List Item): ∀(a l:List Item),l=a++b→l.length<1000000→Ev (fun k=>r10_Create.l0 k l n p a.length v.f0 v.f1 v.f2) (a++insL b (newItem n p v),0):=by
  induction b with
  | nil =>
    rintro a l rfl hl
    simp only [List.append_nil] at hl ⊢
    refine Ev.step (f:=fun _=>some (a++ [newItem n p v],0)) (fun k=> ?_) (Ev.now _)
    simp only [r10_Create.l0]
    rw [if_neg (by omega),if_pos (by omega),if_pos (by omega),Int.toNat_natCast,List.take_length,r10_copied_eq a (by omega)]
    simp only [Option.bind_some,List.drop_length,List.length_append,List.length_cons,List.length_nil]
    rw [if_pos (by omega),if_pos (by omega),List.append_nil]
    rfl
  | cons x b ih =>
    rintro a l rfl hl
    have hlen:(a++x::b).length=a.length+b.length+1:=by simp;omega
    have hrd:rd_T31 (a++x::b) (a.length:Int)=x:=by rw [rd_item,Int.toNat_natCast];simp
    rw [insL_cons]
    by_cases e:lt x.f0 n=true
    · rw [if_pos (by exact e)]
      have h:=ih (a++ [x]) (a++x::b) (by simp) hl
      refine Ev.step (f:=fun k=>r10_Create.l0 k (a++x::b) n p (a++ [x]).length v.f0 v.f1 v.f2) (fun k=> ?_) (by simpa using h)
      simp only [r10_Create.l0]
      rw [if_pos (by omega),if_pos (by omega),hrd,if_pos (by exact e),w64 (by omega) (by omega)]
      simp
    · rw [if_neg (by exact e)]
      refine Ev.step (f:=fun _=>some (a++newItem n p v::x::b,0)) (fun k=> ?_) (Ev.now _)
      simp only [r10_Create.l0]
      rw [if_pos (by omega),if_pos (by omega),hrd,if_neg (by exact e),if_pos (by omega),Int.toNat_natCast,List.take_left,r10_copied_eq a (by omega)]
      simp only [Option.bind_some,List.drop_left,List.length_append,List.length_cons,List.length_nil]
      rw [if_pos (by omega),if_pos (by omega)]
      simp
      rfl
theorem r10_Create_ev {l:List Item} (hl:l.length<1000000) (n p:ByteArray) (v:Vec):Ev (fun k=>r10_Create.f k l n p v.f0 v.f1 v.f2) (creR l n p v):=by
  have hmv:r10_MayVec.f v.f0 v.f1 v.f2=some (decide (MayP v)):=r10_MayVec_eq _ _ _
  have hno: ∀e:Int,((r10_no.f e).bind fun bt=>some (bt.1,bt.2))=some (([]:List Item),e):=fun _=>rfl
  have hj1: ∀b,Ev (fun k=>r10_Create.j1 k l n p b v.f0 v.f1 v.f2) (if b=true then ([],2) else if 120≤l.length then ([],4) else (insL l (newItem n p v),0)):=by
    intro b
    cases b with
    | true =>
      refine Ev.step (f:=fun _=>some ([],2)) (fun k=> ?_) (Ev.now _)
      simp only [r10_Create.j1,if_true]
      exact hno 2
    | false =>
      simp only [Bool.false_eq_true,if_false]
      by_cases h:120≤l.length
      · rw [if_pos h]
        refine Ev.step (f:=fun _=>some ([],4)) (fun k=> ?_) (Ev.now _)
        simp only [r10_Create.j1,Bool.false_eq_true,if_false]
        rw [if_pos (by omega)];exact hno 4
      · rw [if_neg h]
        refine Ev.step (f:=fun k=>r10_Create.l0 k l n p 0 v.f0 v.f1 v.f2) (fun k=> ?_) (by have:=r10_Create_l0 n p v l [] l rfl hl;simpa using this)
        simp only [r10_Create.j1,Bool.false_eq_true,if_false]
        rw [if_neg (by omega)]
  have hj0: ∀b,Ev (fun k=>r10_Create.j0 k l n p b v.f0 v.f1 v.f2) (if b=true then ([],1) else if (look l n).isSome=true then ([],3) else if p≠⟨#[]⟩∧(look l p).isNone=true then ([],2) else if 120≤l.length then ([],4) else (insL l (newItem n p v),0)):=by
    intro b
    cases b with
    | true =>
      refine Ev.step (f:=fun _=>some ([],1)) (fun k=> ?_) (Ev.now _)
      simp only [r10_Create.j0,if_true]
      exact hno 1
    | false =>
      simp only [Bool.false_eq_true,if_false]
      refine Ev.step (f:=fun k=>(r10_Find.f k l n).bind fun t=>if t≥0 then some ([],3) else if p.toList=([]:List UInt8) then r10_Create.j1 k l n p false v.f0 v.f1 v.f2 else (r10_Find.f k l p).bind fun t=>r10_Create.j1 k l n p (decide (t<0)) v.f0 v.f1 v.f2) (fun k=> ?_) (Ev.bind (r10_Find_ev l n hl) ?_)
      · simp only [r10_Create.j0,Bool.false_eq_true,if_false];rfl
      · cases hn : look l n with
        | some x =>
          refine Ev.congr (fun k=> ?_) (Ev.now _)
          rw [if_pos (fnd_ge.2 ⟨x,hn⟩)];rfl
        | none =>
          simp only [Option.isSome_none,Bool.false_eq_true,if_false]
          by_cases hp:p=⟨#[]⟩
          · have h := hj1 false
            simp only [Bool.false_eq_true,if_false] at h
            rw [if_neg (fun q=>q.1 hp)]
            refine Ev.congr (fun k=> ?_) h
            rw [fnd_none hn,if_neg (by omega),if_pos (nm_empty.2 hp)]
          · have h := hj1 (decide (fnd l p < 0))
            refine Ev.congr (g:=fun k=>_) (f:=fun k=>(r10_Find.f k l p).bind fun t=>r10_Create.j1 k l n p (decide (t<0)) v.f0 v.f1 v.f2) (fun k=> ?_) (Ev.bind (r10_Find_ev l p hl) ?_)
            · rw [fnd_none hn,if_neg (by omega),if_neg (fun q=>hp (nm_empty.1 q))]
            · have e:(p≠⟨#[]⟩∧(look l p).isNone=true)↔(decide (fnd l p<0)=true):=by
                rw [decide_eq_true_iff,fnd_neg];simp [hp]
              rw [ite_iff e];exact h
  unfold creR
  by_cases hn:n≠⟨#[]⟩∧n.size≤24
  · have h := hj0 (!decide (MayP v))
    rw [ite_iff (q:=(!decide (MayP v))=true) (by simp [hn])]
    refine Ev.congr (fun k=> ?_) h
    unfold r10_Create.f
    rw [r10_MayName_eq,hmv]
    simp only [Option.bind_some]
    rw [if_pos (by exact decide_eq_true hn)]
  · have h := hj0 true
    rw [if_pos (fun q=>hn q.1)]
    rw [if_pos rfl] at h
    refine Ev.congr (fun k=> ?_) h
    unfold r10_Create.f
    rw [r10_MayName_eq]
    simp only [Option.bind_some]
    rw [if_neg (by simpa using hn)]
theorem creR_right {l:List Item} (hl:RightP l) {n p:ByteArray} {v:Vec} (h:(creR l n p v).2=0):
    (creR l n p v).1=insL l (newItem n p v)∧RightP (insL l (newItem n p v))∧look l n=none∧l.length<120∧n≠⟨#[]⟩∧n.size≤24∧MayP v∧(p=⟨#[]⟩∨ ∃y,look l p=some y):=by
  unfold creR at h ⊢
  split at h
  · simp at h
  rename_i h1
  split at h
  · simp at h
  rename_i h2
  split at h
  · simp at h
  rename_i h3
  split at h
  · simp at h
  rename_i h4
  rw [if_neg h1,if_neg h2,if_neg h3,if_neg h4]
  obtain ⟨⟨h5,h6⟩,h7⟩:=Classical.not_not.1 h1
  have hn:look l n=none:=by cases q:look l n with
    |none=>rfl
    |some x=>rw [q] at h2;simp at h2
  have hp:p=⟨#[]⟩∨ ∃y,look l p=some y:=by
    by_cases e:p=⟨#[]⟩
    · exact .inl e
    · right
      cases q:look l p with
      |none=>rw [q] at h3;exact absurd ⟨e,rfl⟩ h3
      |some y=>exact ⟨y,rfl⟩
  have hz: ∀c:Comp,c.of zVec=0:=fun c=>by cases c<;>rfl
  refine ⟨rfl,ins_right hl ⟨h5,h6,h7,fun c=> ?_,fun c=> ?_,fun c=> ?_, ?_⟩ (fun c=>⟨hz c,hz c⟩) hn hp (by omega),hn,by omega,h5,h6,h7,hp⟩
  · show 0≤c.of zVec∧c.of zVec≤_;rw [hz];omega
  · show 0≤c.of zVec∧c.of zVec≤_;rw [hz];omega
  · show c.of zVec≤c.of v;rw [hz];exact (h7 c).1
  · show (1:Int)≤1∧(1:Int)≤_;omega
end Go.Proofs.Ytcgefpklljclgaa.Print

namespace Go.Proofs.Ytcgefpklljclgaa.Print
open Go.RowKit Go.Proofs.YtcgefpklljclgaaW.PrintWords Go.Proofs.YtcgefpklljclgaaW.PrintLast
set_option linter.unusedVariables false
set_option linter.unusedSimpArgs false
def Bytes (ns:List Int):Prop:= ∀x∈ns,0≤x∧x≤255
theorem Bytes.rd {ns:List Int} (h:Bytes ns) (i:Int):0≤rd ns i∧rd ns i≤255:=by
 unfold Go.Proofs.YtcgefpklljclgaaW.PrintWords.rd
 rw [List.getD_eq_getElem?_getD]
 cases e:ns[i.toNat]? with
 |none=>simp
 |some x=>exact h x (List.mem_of_getElem? e)
/-- a name of one byte -/
def one (c:Int):ByteArray:=strOfNums [c]
structure MadeP (l:List Item):Prop where
 right:RightP l
 len:l.length≤24
 name: ∀x∈l,∃c:Int,97≤c∧c≤120∧x.f0=one c
 ver: ∀x∈l,x.f5=1
 lim: ∀x∈l,∀c:Comp,20≤c.of x.f2∧c.of x.f2≤275
end Go.Proofs.Ytcgefpklljclgaa.Print

namespace Go.Proofs.Ytcgefpklljclgaa.Print
open Go.RowKit Go.Proofs.YtcgefpklljclgaaW.PrintWords Go.Proofs.YtcgefpklljclgaaW.PrintLast Go.Proofs.YtcgefpklljclgaaW.PrintMore
set_option linter.unusedVariables false
set_option linter.unusedSimpArgs false
/-! what the changes make is the document's -/
theorem shape_made_eq (l:List Item) (n:ByteArray) (hl:l.length<1000000):shape_made.f l n=some (l,fnd l n):=by
 unfold shape_made.f slices_Clone_Item.f
 rw [if_pos (by omega)]
 rfl
theorem sh_Le_eq (a b d a' b' d':Int):vec_Le.f a b d a' b' d'=some (decide (LeP ⟨a,b,d⟩ ⟨a',b',d'⟩)):=by
 unfold vec_Le.f
 rw [show decide (LeP ⟨a,b,d⟩ ⟨a',b',d'⟩)=decide (a≤a'∧b≤b'∧d≤d') from decide_eq_decide.2 leP_iff]
 by_cases h1:a≤a'<;>by_cases h2:b≤b'<;>simp [h1,h2]
theorem sh_May_eq (a b d:Int):vec_May.f a b d=some (decide (MayP ⟨a,b,d⟩)):=by
  unfold vec_May.f
  rw [sh_Le_eq,Option.bind_some]
  have hm:(vec_Most.f)=some (1099511627776,1099511627776,1099511627776):=rfl
  by_cases h:LeP ⟨0,0,0⟩ ⟨a,b,d⟩
  · rw [if_pos (decide_eq_true h), hm]
    simp only [Option.bind_some,sh_Le_eq]
    congr 1
    apply decide_eq_decide.2
    rw [leP_iff] at h ⊢
    rw [mayP_iff]
    omega
  · rw [if_neg (by simpa using h)]
    congr 1
    rw [eq_comm,decide_eq_false_iff_not,mayP_iff]
    rw [leP_iff] at h
    omega
theorem insL_place (l:List Item) (n p:ByteArray) (v:Vec):l.take (placeL l n)++newItem n p v::l.drop (placeL l n)=insL l (newItem n p v):=by
 unfold insL placeL
 have e:=List.takeWhile_append_dropWhile (p:=fun x:Item=>lt x.f0 n) (l:=l)
 have h1:l.take (l.takeWhile fun y:Item=>lt y.f0 n).length=l.takeWhile fun y=>lt y.f0 n:=by
  conv=>lhs;rhs;rw [←e]
  exact List.take_left
 have h2:l.drop (l.takeWhile fun y:Item=>lt y.f0 n).length=l.dropWhile fun y=>lt y.f0 n:=by
  conv=>lhs;rhs;rw [←e]
  exact List.drop_left
 exact congr (congrArg _ h1) (congrArg _ h2)
theorem shape_parent_eq (l:List Item) (j:Int) (p:ByteArray):shape_change_parent.f l j p=some (decide (¬(p≠⟨#[]⟩∧(look l p).isNone=true))):=by
  unfold shape_change_parent.f
  by_cases hp:p=⟨#[]⟩
  · rw [if_pos (nm_empty.2 hp)]
    simp [hp]
  · rw [if_neg (fun e => hp (nm_empty.1 e)), tree_Find_eq]
    simp only [Option.bind_some]
    congr 1
    apply decide_eq_decide.2
    rw [show (fnd l p≥0)↔ ∃x,look l p=some x from fnd_ge]
    cases look l p<;>simp [hp]
/-- what Create makes -/
theorem shape_Create_eq {l:List Item} (hl:l.length<1000000) (n p:ByteArray) (v:Vec):shape_Create.f l n p v.f0 v.f1 v.f2=some (creR l n p v):=by
  unfold shape_Create.f creR
  rw [shape_made_eq l n hl]
  simp only [Option.bind_some,sh_May_eq,shape_parent_eq]
  by_cases h0:n=⟨#[]⟩
  · rw [if_pos (nm_empty.2 h0),if_pos (by simp [h0])]
  · rw [if_neg (fun e => h0 (nm_empty.1 e))]
    by_cases h1:(n.size:Int)>24
    · rw [if_pos h1,if_pos (by intro h;omega)]
    · rw [if_neg h1]
      by_cases h2:MayP v
      · rw [if_neg (show ¬ decide (MayP v) = false by simpa using h2), if_neg (show ¬ ¬ ((n ≠ ⟨#[]⟩ ∧ n.size ≤ 24) ∧ MayP v) from fun h => h ⟨⟨h0, by omega⟩, h2⟩)]
        by_cases h3:fnd l n≥0
        · rw [if_pos h3,if_pos (show (look l n).isSome=true by obtain ⟨x,hx⟩:=fnd_ge.1 h3;rw [hx];rfl)]
        · rw [if_neg h3, if_neg (show ¬ (look l n).isSome = true by rw [fnd_neg.1 (by omega)]; simp)]
          by_cases h4:p≠⟨#[]⟩∧(look l p).isNone=true
          · rw [if_pos (by simpa using h4),if_pos h4]
          · rw [if_neg (show ¬ decide (¬ (p ≠ ⟨#[]⟩ ∧ (look l p).isNone = true)) = false by simpa using h4), if_neg h4]
            by_cases h5:120≤l.length
            · rw [if_pos (by omega),if_pos h5]
            · rw [if_neg (by omega), if_neg h5]
              exact congrArg (fun q=>some (q,(0:Int))) (insL_place l n p v)
      · rw [if_pos (by simpa using h2),if_pos (by intro h;exact h2 h.2)]
end Go.Proofs.Ytcgefpklljclgaa.Print

namespace Go.Proofs.Ytcgefpklljclgaa.Print
open Go.RowKit Go.Proofs.YtcgefpklljclgaaW.PrintWords Go.Proofs.YtcgefpklljclgaaW.PrintLast Go.Proofs.YtcgefpklljclgaaW.PrintMore
attribute [local go_sem] max2_int min2_int max_two min_two max_three min_three max_four min_four   -- for this text's walks alone
set_option linter.unusedVariables false
set_option linter.unusedSimpArgs false

end Go.Proofs.Ytcgefpklljclgaa.Print

namespace Go.Proofs.Ytcgefpklljclgaa.Print
open Go.RowKit Go.Proofs.YtcgefpklljclgaaW.PrintWords Go.Proofs.YtcgefpklljclgaaW.PrintLast Go.Proofs.YtcgefpklljclgaaW.PrintMore
attribute [local go_sem] max2_int min2_int max_two min_two max_three min_three max_four min_four   -- for this text's walks alone
set_option linter.unusedVariables false
set_option linter.unusedSimpArgs false

end Go.Proofs.Ytcgefpklljclgaa.Print

namespace Go.Proofs.Ytcgefpklljclgaa.Print
open Go.RowKit Go.Proofs.YtcgefpklljclgaaW.PrintWords Go.Proofs.YtcgefpklljclgaaW.PrintLast Go.Proofs.YtcgefpklljclgaaW.PrintMore
attribute [local go_sem] max2_int min2_int max_two min_two max_three min_three max_four min_four   -- for this text's walks alone
set_option linter.unusedVariables false
set_option linter.unusedSimpArgs false

end Go.Proofs.Ytcgefpklljclgaa.Print

namespace Go.Proofs.Ytcgefpklljclgaa.Print
open Go.RowKit Go.Proofs.YtcgefpklljclgaaW.PrintWords Go.Proofs.YtcgefpklljclgaaW.PrintLast Go.Proofs.YtcgefpklljclgaaW.PrintMore
attribute [local go_sem] max2_int min2_int max_two min_two max_three min_three max_four min_four   -- for this text's walks alone
set_option linter.unusedVariables false
set_option linter.unusedSimpArgs false

end Go.Proofs.Ytcgefpklljclgaa.Print

namespace Go.Proofs.Ytcgefpklljclgaa.Print
open Go.RowKit Go.Proofs.YtcgefpklljclgaaW.PrintWords Go.Proofs.YtcgefpklljclgaaW.PrintLast Go.Proofs.YtcgefpklljclgaaW.PrintMore
attribute [local go_sem] max2_int min2_int max_two min_two max_three min_three max_four min_four   -- for this text's walks alone
set_option linter.unusedVariables false
set_option linter.unusedSimpArgs false

end Go.Proofs.Ytcgefpklljclgaa.Print

namespace Go.Proofs.Ytcgefpklljclgaa.Print
open Go.RowKit Go.Proofs.YtcgefpklljclgaaW.PrintWords Go.Proofs.YtcgefpklljclgaaW.PrintLast Go.Proofs.YtcgefpklljclgaaW.PrintMore
set_option linter.unusedVariables false
set_option linter.unusedSimpArgs false
/-! the program's way up -/
theorem tree_Up_l0 (l:List Item) (hl:l.length<1000000): ∀(m:Nat) (n:ByteArray) (out:List ByteArray),out.length+m=l.length+1→
    Ev (fun k=>tree_Up.l0 k l out (fnd l n)) (out++upGo l m n)
  | 0, n, out, hm => by
    rw [upGo.eq_1,List.append_nil]
    refine Ev.step (f:=fun _=>some out) (fun k=> ?_) (Ev.now _)
    simp only [tree_Up.l0]
    by_cases h:0≤fnd l n
    · rw [if_pos h,if_neg (by omega)]
    · rw [if_neg h]
  | m + 1, n, out, hm => by
    cases h:look l n with
    | none =>
      rw [upGo_none h,List.append_nil]
      refine Ev.step (f:=fun _=>some out) (fun k=> ?_) (Ev.now _)
      simp only [tree_Up.l0]
      rw [fnd_none h,if_neg (by omega)]
    | some x =>
      rw [upGo_some h]
      have h0:=fnd_ge.2 ⟨x,h⟩
      have h1:=fnd_lt l n
      obtain ⟨hx,hn⟩:=look_mem h
      refine Ev.step (f:=fun k=>tree_Up.l0 k l (out++ [n]) (fnd l x.f1)) (fun k=> ?_) ?_
      · simp only [tree_Up.l0]
        rw [if_pos h0,if_pos (by omega),if_pos h0,if_pos h1,if_pos (by omega),fnd_rd h,hn,tree_Find_eq]
        rfl
      · have := tree_Up_l0 l hl m x.f1 (out ++ [n]) (by simp; omega)
        simpa using this
theorem tree_Up_ev (l:List Item) (n:ByteArray) (hl:l.length<1000000):Ev (fun k=>tree_Up.f k l n) (up l n):=by
 have:=tree_Up_l0 l hl (l.length+1) n [] (by simp)
 rw [List.nil_append] at this
 exact this
end Go.Proofs.Ytcgefpklljclgaa.Print

namespace Go.Proofs.Ytcgefpklljclgaa.Print
open Go.RowKit Go.Proofs.YtcgefpklljclgaaW.PrintWords Go.Proofs.YtcgefpklljclgaaW.PrintLast Go.Proofs.YtcgefpklljclgaaW.PrintMore
attribute [local go_sem] max2_int min2_int max_two min_two max_three min_three max_four min_four   -- for this text's walks alone
set_option linter.unusedVariables false
set_option linter.unusedSimpArgs false

end Go.Proofs.Ytcgefpklljclgaa.Print

namespace Go.Proofs.Ytcgefpklljclgaa.Print
open Go.RowKit Go.Proofs.YtcgefpklljclgaaW.PrintWords Go.Proofs.YtcgefpklljclgaaW.PrintLast Go.Proofs.YtcgefpklljclgaaW.PrintMore
attribute [local go_sem] max2_int min2_int max_two min_two max_three min_three max_four min_four   -- for this text's walks alone
set_option linter.unusedVariables false
set_option linter.unusedSimpArgs false

/-! ### room_Share: function 74 -/
/-- is the string among these? -/
def hasStr (l:List ByteArray) (s:ByteArray):Bool:=l.any (fun x=>decide (s.toList=x.toList))
theorem index_some (l:List ByteArray) (s:ByteArray) (hl:l.length<1000000000): ∀(d i:Nat),l.length - i=d→i≤l.length→ ∃r,slices_Index_string_string.l0 (d+1) l s l.length i=some r∧decide (r≥0)=hasStr (l.drop i) s
  | 0, i, hd, hi => by
    obtain rfl:i=l.length:=by omega
    refine ⟨-1, ?_,by rw [List.drop_length];rfl⟩
    simp only [slices_Index_string_string.l0]
    rw [if_neg (by omega)]
  | d + 1, i, hd, hi => by
    have hlt:i<l.length:=by omega
    have hrd:rdOf ByteArray.empty l (i:Int)=l[i]:=by simp [rdOf,hlt]
    rw [List.drop_eq_getElem_cons hlt]
    obtain ⟨r,h1,h2⟩:=index_some l s hl d (i+1) (by omega) (by omega)
    rw [slices_Index_string_string.l0,if_pos (by omega),if_pos (by omega),if_pos (by omega),hrd]
    by_cases e:s.toList=l[i].toList
    · refine ⟨i, if_pos e, ?_⟩
      unfold hasStr
      rw [List.any_cons,decide_eq_true e]
      simp
    · refine ⟨r, ?_, ?_⟩
      · rw [if_neg e,show wrap64 ((i:Int)+1)=((i+1:Nat):Int) from by unfold wrap64;omega];exact h1
      · rw [h2];unfold hasStr;rw [List.any_cons,decide_eq_false e,Bool.false_or]
end Go.Proofs.Ytcgefpklljclgaa.Print

namespace Go.Proofs.Ytcgefpklljclgaa.Print
open Go.RowKit Go.Proofs.YtcgefpklljclgaaW.PrintWords Go.Proofs.YtcgefpklljclgaaW.PrintLast Go.Proofs.YtcgefpklljclgaaW.PrintMore
attribute [local go_sem] max2_int min2_int max_two min_two max_three min_three max_four min_four   -- for this text's walks alone
set_option linter.unusedVariables false
set_option linter.unusedSimpArgs false

end Go.Proofs.Ytcgefpklljclgaa.Print

namespace Go.Proofs.Ytcgefpklljclgaa.Print
open Go.RowKit Go.Proofs.YtcgefpklljclgaaW.PrintWords Go.Proofs.YtcgefpklljclgaaW.PrintLast Go.Proofs.YtcgefpklljclgaaW.PrintMore
set_option linter.unusedVariables false
set_option linter.unusedSimpArgs false
/-! what some nodes share -/
theorem hasStr_cons (x:ByteArray) (l:List ByteArray) (s:ByteArray):hasStr (x::l) s=(decide (s.toList=x.toList)||hasStr l s):=by unfold hasStr;rw [List.any_cons]
theorem r10_in_l0 (l:List ByteArray) (s:ByteArray) (hl:l.length<1000000): ∀(d i:Nat),l.length - i=d→i≤l.length→Ev (fun k=>r10_in.l0 k l s i) (hasStr (l.drop i) s)
  | 0, i, hd, hi => by
    obtain rfl:i=l.length:=by omega
    rw [List.drop_length]
    refine Ev.step (f:=fun _=>some false) (fun k=> ?_) (Ev.now _)
    simp only [r10_in.l0]
    rw [if_neg (by omega)]
  | d + 1, i, hd, hi => by
    have hlt:i<l.length:=by omega
    have hrd:rdOf ByteArray.empty l (i:Int)=l[i]:=by simp [rdOf,hlt]
    rw [List.drop_eq_getElem_cons hlt,hasStr_cons]
    by_cases e:l[i].toList=s.toList
    · rw [decide_eq_true e.symm, Bool.true_or]
      refine Ev.step (f:=fun _=>some true) (fun k=> ?_) (Ev.now _)
      simp only [r10_in.l0]
      rw [if_pos (by omega),if_pos (by omega),hrd,if_pos e]
    · rw [decide_eq_false (fun q => e q.symm), Bool.false_or]
      refine Ev.step (f:=fun k=>r10_in.l0 k l s ((i+1:Nat):Int)) (fun k=> ?_) (r10_in_l0 l s hl d (i+1) (by omega) (by omega))
      simp only [r10_in.l0]
      rw [if_pos (by omega),if_pos (by omega),hrd,if_neg e,w64 (by omega) (by omega)]
      rfl
theorem r10_in_ev (l:List ByteArray) (s:ByteArray) (hl:l.length<1000000):Ev (fun k=>r10_in.f k l s) (hasStr l s):=r10_in_l0 l s hl _ 0 rfl (by omega)
def addV (a:Vec) (ws:List Item):Vec:=⟨a.f0+sumBy (fun x=>x.f4.f0) ws,a.f1+sumBy (fun x=>x.f4.f1) ws,a.f2+sumBy (fun x=>x.f4.f2) ws⟩
theorem addV_nil (a:Vec):addV a []=a:=by unfold addV;simp [sumBy_nil]
def SmallV (a:Vec) (n:Nat):Prop:= ∀c:Comp,0≤c.of a∧c.of a≤1099511627776*n
theorem small_wrap {a b:Vec} {n:Nat} (ha:SmallV a n) (hb:MayP b) (hn:n≤1000):wrap64 (a.f0+b.f0)=(vadd a b).f0∧wrap64 (a.f1+b.f1)=(vadd a b).f1∧wrap64 (a.f2+b.f2)=(vadd a b).f2:=by
 have a0:=ha .cpu;have a1:=ha .mem;have a2:=ha .pods
 have b0:=hb .cpu;have b1:=hb .mem;have b2:=hb .pods
 simp only [Comp.of] at a0 a1 a2 b0 b1 b2
 exact ⟨w64 (by omega) (by omega),w64 (by omega) (by omega),w64 (by omega) (by omega)⟩
end Go.Proofs.Ytcgefpklljclgaa.Print

namespace Go.Proofs.Ytcgefpklljclgaa.Print
open Go.RowKit Go.Proofs.YtcgefpklljclgaaW.PrintWords Go.Proofs.YtcgefpklljclgaaW.PrintLast Go.Proofs.YtcgefpklljclgaaW.PrintMore
set_option linter.unusedVariables false
set_option linter.unusedSimpArgs false
theorem up_cons {l:List Item} (hl:RightP l) {x:Item} (hx:x∈l):up l x.f0=x.f0::up l x.f1:=(Chain.cons (hl.look hx) (hl.chainAll x.f1)).up
theorem sumBy_filter (g:Item→Int) (p:Item→Bool): ∀l:List Item,sumBy g (l.filter p)=sumBy (fun x=>if p x=true then g x else 0) l
  |[]=>rfl
  | x :: l => by
    rw [sumBy_cons]
    by_cases h:p x=true
    · rw [List.filter_cons_of_pos h,sumBy_cons,sumBy_filter g p l,if_pos h]
    · rw [List.filter_cons_of_neg h,sumBy_filter g p l,if_neg h];omega
theorem below_l0 (l:List Item) (n:ByteArray) (hl:l.length<1000000): ∀(d i:Nat) (acc:List ByteArray),l.length - i=d→i≤l.length→acc.length≤i→Ev (fun k=>r10_Below.l0 k l n acc i) (acc++((l.drop i).filter (fun x=>decide (x.f1=n))).map (·.f0))
  | 0, i, acc, hd, hi, ha => by
    obtain rfl:i=l.length:=by omega
    rw [List.drop_length]
    refine Ev.step (f:=fun _=>some acc) (fun k=> ?_) (by rw [show acc++(([]:List Item).filter (fun x=>decide (x.f1=n))).map (·.f0)=acc from List.append_nil _];exact Ev.now _)
    rw [r10_Below.l0,if_neg (by omega)]
  | d + 1, i, acc, hd, hi, ha => by
    have hlt:i<l.length:=by omega
    have hrd:rd_T31 l (i:Int)=l[i]:=by rw [rd_item,Int.toNat_natCast];simp [hlt]
    rw [List.drop_eq_getElem_cons hlt]
    generalize l[i]=x at*
    by_cases h:x.f1=n
    · rw [List.filter_cons_of_pos (by exact decide_eq_true h)]
      refine Ev.step (f:=fun k=>r10_Below.l0 k l n (acc++ [x.f0]) ((i+1:Nat):Int)) (fun k=> ?_) ?_
      · rw [r10_Below.l0, if_pos (by omega), if_pos (by omega), hrd, if_pos (nm_inj.2 h), if_pos (by omega), w64 (by omega) (by omega)]
        rfl
      · have := below_l0 l n hl d (i + 1) (acc ++ [x.f0]) (by omega) (by omega) (by simp; omega)
        rw [List.append_assoc] at this
        exact this
    · rw [List.filter_cons_of_neg (by simpa using h)]
      refine Ev.step (f:=fun k=>r10_Below.l0 k l n acc ((i+1:Nat):Int)) (fun k=> ?_) (below_l0 l n hl d (i+1) acc (by omega) (by omega) (by omega))
      rw [r10_Below.l0,if_pos (by omega),if_pos (by omega),hrd,if_neg (fun q=>h (nm_inj.1 q)),w64 (by omega) (by omega)]
      rfl
def kids (l:List Item) (n:ByteArray):List ByteArray:=(l.filter (fun x=>decide (x.f1=n))).map (·.f0)
theorem below_ev (l:List Item) (n:ByteArray) (hl:l.length<1000000):Ev (fun k=>r10_Below.f k l n) (kids l n):=by
 have h:=below_l0 l n hl _ 0 [] rfl (by omega) (by simp)
 rw [List.drop_zero,List.nil_append] at h
 exact h
theorem kids_mem {l:List Item} {n s:ByteArray}:s∈kids l n↔ ∃y∈l,y.f1=n∧y.f0=s:=by
  unfold kids
  simp only [List.mem_map,List.mem_filter,decide_eq_true_eq]
  constructor
  · rintro ⟨y,⟨h1,h2⟩,h3⟩;exact ⟨y,h1,h2,h3⟩
  · rintro ⟨y,h1,h2,h3⟩;exact ⟨y,⟨h1,h2⟩,h3⟩
end Go.Proofs.Ytcgefpklljclgaa.Print

namespace Go.Proofs.Ytcgefpklljclgaa.Print
open Go.RowKit Go.Proofs.YtcgefpklljclgaaW.PrintWords Go.Proofs.YtcgefpklljclgaaW.PrintLast Go.Proofs.YtcgefpklljclgaaW.PrintMore
set_option linter.unusedVariables false
set_option linter.unusedSimpArgs false
/-! limits, and what is deleted -/
theorem shbelow_l0 (l:List Item) (n:ByteArray) (hl:l.length<1000000): ∀(d i:Nat) (acc:List ByteArray),l.length - i=d→i≤l.length→acc.length≤i→Ev (fun k=>tree_Below.l0 k n acc l (l.length:Int) i) (acc++((l.drop i).filter (fun x=>decide (x.f1=n))).map (·.f0))
  | 0, i, acc, hd, hi, ha => by
    obtain rfl:i=l.length:=by omega
    rw [List.drop_length]
    refine Ev.step (f:=fun _=>some acc) (fun k=> ?_) (by rw [show acc++(([]:List Item).filter (fun x=>decide (x.f1=n))).map (·.f0)=acc from List.append_nil _];exact Ev.now _)
    rw [tree_Below.l0,if_neg (by omega)]
  | d + 1, i, acc, hd, hi, ha => by
    have hlt:i<l.length:=by omega
    have hrd:rd_T31 l (i:Int)=l[i]:=by rw [rd_item,Int.toNat_natCast];simp [hlt]
    rw [List.drop_eq_getElem_cons hlt]
    generalize l[i]=x at*
    by_cases h:x.f1=n
    · rw [List.filter_cons_of_pos (by exact decide_eq_true h)]
      refine Ev.step (f:=fun k=>tree_Below.l0 k n (acc++ [x.f0]) l (l.length:Int) ((i+1:Nat):Int)) (fun k=> ?_) ?_
      · rw [tree_Below.l0, if_pos (by omega), if_pos (by omega), if_pos (by omega), hrd, if_pos (nm_inj.2 h), if_pos (by omega), w64 (by omega) (by omega)]
        rfl
      · have := shbelow_l0 l n hl d (i + 1) (acc ++ [x.f0]) (by omega) (by omega) (by simp; omega)
        rw [List.append_assoc] at this
        exact this
    · rw [List.filter_cons_of_neg (by simpa using h)]
      refine Ev.step (f:=fun k=>tree_Below.l0 k n acc l (l.length:Int) ((i+1:Nat):Int)) (fun k=> ?_) (shbelow_l0 l n hl d (i+1) acc (by omega) (by omega) (by omega))
      rw [tree_Below.l0,if_pos (by omega),if_pos (by omega),if_pos (by omega),hrd,if_neg (fun q=>h (nm_inj.1 q)),w64 (by omega) (by omega)]
      rfl
theorem shbelow_ev (l:List Item) (n:ByteArray) (hl:l.length<1000000):Ev (fun k=>tree_Below.f k l n) (kids l n):=by
 have h:=shbelow_l0 l n hl _ 0 [] rfl (by omega) (by simp)
 rw [List.drop_zero,List.nil_append] at h
 exact h
/-- the error of what is there, and its version -/
def oldR (l:List Item) (n:ByteArray) (ver:Int):Int:=match look l n with
 |none=>2
 |some x=>if 0≤ver∧x.f5≠ver then 14 else 0
theorem oldR_none {l:List Item} {n:ByteArray} {ver:Int} (h:look l n=none):oldR l n ver=2:=by unfold oldR;rw [h]
theorem oldR_some {l:List Item} {n:ByteArray} {ver:Int} {x:Item} (h:look l n=some x):oldR l n ver=if 0≤ver∧x.f5≠ver then 14 else 0:=by unfold oldR;rw [h]
theorem oldR_zero {l:List Item} {n:ByteArray} {ver:Int} (h:oldR l n ver=0): ∃x,look l n=some x∧(0≤ver→x.f5=ver):=by
  cases q:look l n with
  |none=>rw [oldR_none q] at h;cases h
  | some x =>
    rw [oldR_some q] at h
    refine ⟨x,rfl,fun hv=> ?_⟩
    by_cases e:x.f5=ver
    · exact e
    · rw [if_pos ⟨hv,e⟩] at h;cases h
theorem guardF_eq (l:List Item) (n:ByteArray) (ver:Int):guardF l (fnd l n) ver=some (oldR l n ver):=by
  unfold guardF
  cases q:look l n with
  |none=>rw [fnd_none q,oldR_none q,if_pos (by omega)]
  | some x =>
    have h0:=fnd_ge.2 ⟨x,q⟩
    have h1:=fnd_lt l n
    rw [if_neg (by omega),if_pos h1,fnd_rd q,oldR_some q]
    by_cases e:0≤ver∧x.f5≠ver
    · rw [if_pos e,if_pos e]
    · rw [if_neg e,if_neg e]
theorem r10_old_ev (l:List Item) (n:ByteArray) (ver:Int) (hl:l.length<1000000):Ev (fun k=>r10_old.f k l n ver) (oldR l n ver):=by
  refine Ev.bind (r10_Find_ev l n hl) (Ev.const ?_)
  cases q:look l n with
  |none=>rw [fnd_none q,oldR_none q,if_pos (by omega)]
  | some x =>
    have h0:=fnd_ge.2 ⟨x,q⟩
    have h1:=fnd_lt l n
    rw [if_neg (by omega),fnd_rd q,oldR_some q]
    by_cases e:ver≥0
    · rw [if_pos e, if_pos h0, if_pos h1]
      by_cases e2:x.f5=ver
      · rw [if_pos e2,if_neg (fun h=>h.2 e2)]
      · rw [if_neg e2,if_pos ⟨e,e2⟩]
    · rw [if_neg e,if_neg (fun h=>e h.1)]
def limG (n:ByteArray) (v:Vec) (x:Item):Item:=if x.f0=n then ⟨x.f0,x.f1,v,x.f3,x.f4,x.f5+1⟩ else x
def limR (l:List Item) (n:ByteArray) (v:Vec) (ver:Int):List Item×Int:=
 if¬MayP v then ([],1) else if oldR l n ver≠0 then ([],oldR l n ver) else match look l n with
  |none=>([],2)
  |some x=>if 9007199254740992≤x.f5 then ([],4) else if LeP x.f4 v then (l.map (limG n v),0) else ([],12)
theorem set_limG {l:List Item} (hl:RightP l) {n:ByteArray} {x:Item} (h:look l n=some x) (v:Vec):l.set (fnd l n).toNat ⟨x.f0,x.f1,v,x.f3,x.f4,x.f5+1⟩=l.map (limG n v):=by
  rw [set_at hl.nodup h]
  refine List.map_congr_left fun z hz=> ?_
  unfold limG
  by_cases e:z.f0=n
  · rw [if_pos e, if_pos e]
    have hx:=look_mem h
    have:=hl.eq_of hz hx.1 (by rw [e,hx.2])
    rw [this]
  · rw [if_neg e,if_neg e]
theorem rd_set {l:List Item} {j:Int} (h0:0≤j) (h1:j<(l.length:Int)) (y:Item):rd_T31 (l.set j.toNat y) j=y:=by
 rw [rd_item]
 simp [List.getD_eq_getElem?_getD,show j.toNat<l.length by omega]
theorem ver_step {x:Item} (h:ItemOK x):wrap64 (x.f5+1)=x.f5+1:=by
 have:=h.ver
 exact w64 (by omega) (by omega)
theorem olderF_eq {l:List Item} (hl:RightP l) {n:ByteArray} {x:Item} (h:look l n=some x):olderF l (fnd l n)=if 9007199254740992≤x.f5 then some (4,l) else some (0,l.set (fnd l n).toNat ⟨x.f0,x.f1,x.f2,x.f3,x.f4,x.f5+1⟩):=by
 unfold olderF
 have h0:=fnd_ge.2 ⟨x,h⟩
 have h1:=fnd_lt l n
 rw [if_pos ⟨h0,h1⟩,fnd_rd h]
 unfold verF
 rw [ver_step (hl.ok x (look_mem h).1)]
theorem shape_Limit_eq {l:List Item} (hl:RightP l) (n:ByteArray) (v:Vec) (ver:Int):shape_Limit.f l n v.f0 v.f1 v.f2 ver=some (limR l n v ver):=by
  have hlen:=hl.len
  unfold shape_Limit.f limR
  rw [sh_May_eq]
  simp only [Option.bind_some]
  by_cases h1:MayP v
  · rw [if_neg (show ¬ decide (MayP v) = false by simpa using h1), if_neg (show ¬ ¬ MayP v from fun h => h h1), shape_made_eq l n (by omega)]
    simp only [Option.bind_some,guardF_eq]
    by_cases h2:oldR l n ver=0
    · rw [if_neg (by simpa using h2), if_neg (by simpa using h2)]
      obtain ⟨x,hx,_⟩:=oldR_zero h2
      have j0:=fnd_ge.2 ⟨x,hx⟩
      have j1:=fnd_lt l n
      rw [olderF_eq hl hx]
      simp only [hx]
      by_cases h3:9007199254740992≤x.f5
      · rw [if_pos h3, if_pos h3]
        simp
      · rw [if_neg h3, if_neg h3]
        simp only [Option.bind_some]
        rw [if_neg (by simp),rd_set j0 j1,sh_Le_eq]
        simp only [Option.bind_some]
        by_cases h4:LeP x.f4 v
        · rw [if_neg (show ¬ decide (LeP ⟨x.f4.f0, x.f4.f1, x.f4.f2⟩ ⟨v.f0, v.f1, v.f2⟩) = false by simpa using h4), if_pos h4, List.set_set]
          exact congrArg (fun q=>some (q,(0:Int))) (set_limG hl hx v)
        · rw [if_pos (show decide (LeP ⟨x.f4.f0,x.f4.f1,x.f4.f2⟩ ⟨v.f0,v.f1,v.f2⟩)=false by simpa using h4),if_neg h4]
    · rw [if_pos h2,if_pos h2]
  · rw [if_pos (show decide (MayP v)=false by simpa using h1),if_pos h1]
theorem r10_Limit_ev {l:List Item} (hl:RightP l) (n:ByteArray) (v:Vec) (ver:Int):Ev (fun k=>r10_Limit.f k l n v.f0 v.f1 v.f2 ver) (limR l n v ver):=by
  have hlen:=hl.len
  have hmv:r10_MayVec.f v.f0 v.f1 v.f2=some (decide (MayP v)):=r10_MayVec_eq _ _ _
  have hno: ∀e:Int,((r10_no.f e).bind fun bt=>some (bt.1,bt.2))=some (([]:List Item),e):=fun _=>rfl
  have hcp:r10_copied.f l=some l:=r10_copied_eq l (by omega)
  unfold r10_Limit.f limR
  rw [hmv]
  simp only [Option.bind_some]
  by_cases h1:MayP v
  · rw [if_neg (show ¬ ¬ MayP v from fun h => h h1)]
    simp only [decide_eq_true h1,if_true]
    refine Ev.bind (r10_old_ev l n ver (by omega)) ?_
    by_cases h2:oldR l n ver=0
    · simp only [h2, if_true, hcp, Option.bind_some]
      rw [if_neg (by simp)]
      obtain ⟨x,hx,_⟩:=oldR_zero h2
      have j0:=fnd_ge.2 ⟨x,hx⟩
      have j1:=fnd_lt l n
      refine Ev.bind (r10_Find_ev l n (by omega)) ?_
      simp only [hx,eq_true j0,eq_true j1,if_true,fnd_rd hx]
      by_cases h3:9007199254740992≤x.f5
      · simp only [show (x.f5 ≥ 9007199254740992) = True from eq_true h3, h3, if_true]
        exact Ev.const (hno 4)
      · simp only [show (x.f5 ≥ 9007199254740992) = False from eq_false h3, h3, if_false, r10_Le_eq, Option.bind_some]
        by_cases h4:LeP x.f4 v
        · simp only [show decide (LeP ⟨x.f4.f0, x.f4.f1, x.f4.f2⟩ ⟨v.f0, v.f1, v.f2⟩) = true from decide_eq_true h4, if_true, h4]
          refine Ev.const ?_
          rw [rd_set j0 j1,List.set_set]
          dsimp only
          rw [ver_step (hl.ok x (look_mem hx).1)]
          exact congrArg (fun q=>some (q,(0:Int))) (set_limG hl hx v)
        · simp only [show decide (LeP ⟨x.f4.f0, x.f4.f1, x.f4.f2⟩ ⟨v.f0, v.f1, v.f2⟩) = false from decide_eq_false h4, if_false, h4]
          exact Ev.const (hno 12)
    · simp only [h2, if_false]
      rw [if_pos (show oldR l n ver≠0 from h2)]
      exact Ev.const (hno _)
  · simp only [decide_eq_false h1]
    rw [if_pos h1]
    exact Ev.const (hno 1)
end Go.Proofs.Ytcgefpklljclgaa.Print

namespace Go.Proofs.Ytcgefpklljclgaa.Print
open Go.RowKit Go.Proofs.YtcgefpklljclgaaW.PrintWords Go.Proofs.YtcgefpklljclgaaW.PrintLast Go.Proofs.YtcgefpklljclgaaW.PrintMore
set_option linter.unusedVariables false
set_option linter.unusedSimpArgs false
/-! what is deleted -/
def delL (l:List Item) (n:ByteArray):List Item:=l.filter (fun z=>decide (z.f0≠n))
def delR (l:List Item) (n:ByteArray) (ver:Int):List Item×Int:=
 if oldR l n ver≠0 then ([],oldR l n ver) else if 0<(kids l n).length then ([],13) else match look l n with
  |none=>([],2)
  |some x=>if x.f3.f0=0∧x.f3.f1=0∧x.f3.f2=0 then (delL l n,0) else ([],13)
theorem mem_delL {l:List Item} {n:ByteArray} {x:Item}:x∈delL l n↔x∈l∧x.f0≠n:=by simp [delL]
theorem look_delL (l:List Item) (n m:ByteArray):look (delL l n) m=if m=n then none else look l m:=by
  induction l with
  |nil=>simp [delL,look]
  | cons x l ih =>
    unfold delL at ih ⊢
    by_cases e:x.f0=n
    · rw [List.filter_cons_of_neg (by simpa using e), ih]
      by_cases em:m=n
      · rw [if_pos em,if_pos em]
      · rw [if_neg em, if_neg em]
        unfold look
        rw [List.find?_cons]
        simp [show x.f0≠m from fun q=>em (q.symm.trans e)]
    · rw [List.filter_cons_of_pos (by simpa using e)]
      unfold look at ih ⊢
      rw [List.find?_cons,List.find?_cons,ih]
      by_cases em:m=n
      · rw [if_pos em, if_pos em]
        simp [show x.f0≠m from fun q=>e (q.trans em)]
      · rw [if_neg em,if_neg em]
theorem cut_delL {l:List Item} (hl:RightP l) {n:ByteArray} {x:Item} (h:look l n=some x):l.take (fnd l n).toNat++l.drop ((fnd l n).toNat+1)=delL l n:=by
  obtain ⟨j,h1,h2,h3,h4,h5⟩:=fnd_some h
  rw [h2,Int.toNat_natCast]
  have hx:l[j]=x:=by rw [←h3];simp [h1]
  have hsp:l=l.take j++l[j]::l.drop (j+1):=by rw [←List.drop_eq_getElem_cons h1,List.take_append_drop]
  have hnd:=hl.nodup
  unfold delL
  conv=>rhs;rw [hsp]
  rw [hsp,List.map_append,List.map_cons,List.nodup_append] at hnd
  obtain ⟨_,hn2,hn3⟩:=hnd
  rw [List.nodup_cons] at hn2
  rw [List.filter_append,List.filter_cons_of_neg (by rw [hx,h4];simp)]
  congr 1
  · rw [List.filter_eq_self.2]
    intro z hz
    have:=hn3 z.f0 (List.mem_map_of_mem hz) l[j].f0 (List.mem_cons_self ..)
    rw [hx,h4] at this
    simpa using this
  · rw [List.filter_eq_self.2]
    intro z hz
    have:z.f0≠l[j].f0:=fun e=>hn2.1 (by rw [←e];exact List.mem_map_of_mem hz)
    rw [hx,h4] at this
    simpa using this
theorem shape_Delete_ev {l:List Item} (hl:RightP l) (n:ByteArray) (ver:Int):Ev (fun k=>shape_Delete.f k l n ver) (delR l n ver):=by
  have hlen:=hl.len
  unfold shape_Delete.f delR
  rw [shape_made_eq l n (by omega)]
  simp only [Option.bind_some,guardF_eq]
  by_cases h2:oldR l n ver=0
  · obtain ⟨x, hx, _⟩ := oldR_zero h2
    simp only [h2,ne_eq,not_true_eq_false,if_false]
    refine Ev.bind (shbelow_ev l n (by omega)) ?_
    by_cases h3:0<(kids l n).length
    · simp only [show (((kids l n).length : Int) > 0) = True from eq_true (by omega), h3, if_true]
      exact Ev.now _
    · simp only [show (((kids l n).length : Int) > 0) = False from eq_false (by omega), h3, if_false, hx, fnd_rd hx]
      by_cases h4:x.f3.f0=0∧x.f3.f1=0∧x.f3.f2=0
      · simp only [h4, and_self, if_true]
        rw [cut_delL hl hx]
        exact Ev.now _
      · simp only [h4, if_false]
        exact Ev.now _
  · simp only [h2, ne_eq, not_false_eq_true, if_true]
    exact Ev.now _
theorem r10_Delete_ev {l:List Item} (hl:RightP l) (n:ByteArray) (ver:Int):Ev (fun k=>r10_Delete.f k l n ver) (delR l n ver):=by
  have hlen:=hl.len
  have hno: ∀e:Int,((r10_no.f e).bind fun bt=>some (bt.1,bt.2))=some (([]:List Item),e):=fun _=>rfl
  unfold r10_Delete.f delR
  refine Ev.bind (r10_old_ev l n ver (by omega)) ?_
  by_cases h2:oldR l n ver=0
  · obtain ⟨x, hx, _⟩ := oldR_zero h2
    have j0:=fnd_ge.2 ⟨x,hx⟩
    have j1:=fnd_lt l n
    simp only [h2,ne_eq,not_true_eq_false,if_false,if_true]
    refine Ev.bind (r10_Find_ev l n (by omega)) (Ev.bind (below_ev l n (by omega)) ?_)
    by_cases h3:0<(kids l n).length
    · simp only [show (((kids l n).length : Int) > 0) = True from eq_true (by omega), h3, if_true]
      refine Ev.step (f:=fun _=>some ([],13)) (fun k=> ?_) (Ev.now _)
      simp only [r10_Delete.j0,if_true]
      exact hno 13
    · simp only [show (((kids l n).length : Int) > 0) = False from eq_false (by omega), h3, if_false, hx, fnd_rd hx, eq_true j0, eq_true j1, if_true]
      by_cases h4:x.f3.f0=0∧x.f3.f1=0∧x.f3.f2=0
      · obtain ⟨q1, q2, q3⟩ := h4
        simp only [q1,q2,q3,and_self,if_true,beq_self_eq_true,Bool.not_true,Bool.or_self]
        refine Ev.step (f:=fun _=>some (delL l n,0)) (fun k=> ?_) (Ev.now _)
        simp only [r10_Delete.j0]
        have e1:wrap64 (fnd l n+1)=fnd l n+1:=w64 (by omega) (by omega)
        rw [if_neg (by simp),if_pos j0,if_pos (by omega),r10_copied_eq _ (by rw [List.length_take];omega)]
        simp only [Option.bind_some,e1]
        rw [if_pos (by omega),if_pos (by omega),if_pos (by rw [List.length_take,List.length_drop];omega),show (fnd l n+1).toNat=(fnd l n).toNat+1 by omega,cut_delL hl hx]
      · simp only [h4, if_false]
        refine Ev.step (f:=fun _=>some ([],13)) (fun k=> ?_) (Ev.now _)
        simp only [r10_Delete.j0]
        rw [if_pos]
        · exact hno 13
        · by_cases q1:x.f3.f0=0<;>by_cases q2:x.f3.f1=0<;>by_cases q3:x.f3.f2=0<;>simp_all
  · simp only [h2, ne_eq, not_false_eq_true, if_true, if_false]
    exact Ev.const (hno _)
theorem kids_none {l:List Item} {n:ByteArray} (h: ¬0<(kids l n).length): ∀y∈l,y.f1≠n:=fun y hy e=>h (List.length_pos_of_mem (kids_mem.2 ⟨y,hy,e,rfl⟩))
theorem del_right {l:List Item} (hl:RightP l) {n:ByteArray} {x:Item} (hx:look l n=some x) (hk: ∀y∈l,y.f1≠n) (h0:x.f3.f0=0∧x.f3.f1=0∧x.f3.f2=0):RightP (delL l n):=by
  obtain ⟨hxm,hxn⟩:=look_mem hx
  have hxs: ∀c:Comp,c.of x.f4=0:=fun c=>by
    have:=hl.sum c x hxm
    have e:csum c l x.f0=0:=sumBy_zero fun y hy=>if_neg (by rw [hxn];exact hk y hy)
    have e3:c.of x.f3=0:=by cases c<;>simp [Comp.of,h0]
    omega
  refine ⟨?_,fun y hy=>hl.ok y (mem_delL.1 hy).1,hl.sorted.filter _,fun y hy=> ?_,fun c y hy=> ?_,fun y hy=> ?_⟩
  · exact Nat.le_trans (List.length_filter_le _ _) hl.len
  · obtain ⟨hy1, hy2⟩ := mem_delL.1 hy
    rcases hl.par y hy1 with h|⟨z,hz⟩
    · exact .inl h
    · exact .inr ⟨z,by rw [look_delL,if_neg (hk y hy1)];exact hz⟩
  · obtain ⟨hy1, hy2⟩ := mem_delL.1 hy
    rw [hl.sum c y hy1]
    congr 1
    unfold csum delL
    rw [sumBy_filter]
    refine sumBy_congr fun z hz=> ?_
    by_cases e:z.f0=n
    · have : z = x := hl.eq_of hz hxm (e.trans hxn.symm)
      subst this
      simp [e,hxs c]
    · simp [e]
  · obtain ⟨hy1, hy2⟩ := mem_delL.1 hy
    obtain ⟨us,h⟩:=hl.chain y hy1
    refine ⟨us, ?_⟩
    have: ∀{m:ByteArray} {us:List ByteArray},Chain l m us→m≠n→Chain (delL l n) m us:=by
      intro m us h
      induction h with
      |nil q=>intro hm;exact Chain.nil (by rw [look_delL,if_neg hm];exact q)
      | cons q _ ih =>
        intro hm
        refine Chain.cons (by rw [look_delL,if_neg hm];exact q) (ih (hk _ (look_mem q).1))
    exact this h hy2
end Go.Proofs.Ytcgefpklljclgaa.Print

namespace Go.Proofs.Ytcgefpklljclgaa.Print
open Go.RowKit Go.Proofs.YtcgefpklljclgaaW.PrintWords Go.Proofs.YtcgefpklljclgaaW.PrintLast Go.Proofs.YtcgefpklljclgaaW.PrintMore
set_option linter.unusedVariables false
set_option linter.unusedSimpArgs false
/-! what is moved -/
def updF (us:List ByteArray) (f:Item→Item) (x:Item):Item:=if x.f0∈us then f x else x
theorem updF_name {us:List ByteArray} {f:Item→Item} (hf: ∀x,(f x).f0=x.f0) (x:Item):(updF us f x).f0=x.f0:=by
  unfold updF
  split
  · exact hf x
  · rfl
theorem set_upd {l:List Item} (hn:(l.map (·.f0)).Nodup) {s:ByteArray} {x:Item} (h:look l s=some x) (f:Item→Item):l.set (fnd l s).toNat (f x)=l.map (updF [s] f):=by
  rw [set_at hn h]
  refine List.map_congr_left fun z hz=> ?_
  unfold updF
  by_cases e:z.f0=s
  · rw [if_pos e, if_pos (by simp [e])]
    have h1:=look_of_mem hn hz
    rw [e,h] at h1
    rw [Option.some.inj h1]
  · rw [if_neg e,if_neg (by simpa using e)]
theorem upd_cons {us:List ByteArray} {s:ByteArray} (hs:s ∉ us) {f:Item→Item} (hf: ∀x,(f x).f0=x.f0) (l:List Item):(l.map (updF [s] f)).map (updF us f)=l.map (updF (s::us) f):=by
  rw [List.map_map]
  refine List.map_congr_left fun z hz=> ?_
  simp only [Function.comp]
  by_cases e:z.f0=s
  · have e1 : updF [s] f z = f z := by unfold updF; rw [if_pos (by simp [e])]
    rw [e1]
    unfold updF
    rw [if_neg (by rw [hf,e];exact hs),if_pos (by simp [e])]
  · have e1 : updF [s] f z = z := by unfold updF; rw [if_neg (by simpa using e)]
    rw [e1]
    unfold updF
    by_cases e2:z.f0∈us
    · rw [if_pos e2,if_pos (List.mem_cons_of_mem _ e2)]
    · rw [if_neg e2,if_neg (by simp [e,e2])]
theorem upd_nil (f:Item→Item) (l:List Item):l.map (updF [] f)=l:=by
 rw [show updF [] f=id from by funext z;simp [updF]]
 simp
theorem nodup_upd {us:List ByteArray} {f:Item→Item} (hf: ∀x,(f x).f0=x.f0) {l:List Item} (hn:(l.map (·.f0)).Nodup):((l.map (updF us f)).map (·.f0)).Nodup:=by
 rw [List.map_map,show ((fun x:Item=>x.f0) ∘ updF us f)=(fun x=>x.f0) from by funext z;exact updF_name hf z]
 exact hn
theorem look_upd {us:List ByteArray} {f:Item→Item} (hf: ∀x,(f x).f0=x.f0) (l:List Item) (m:ByteArray):look (l.map (updF us f)) m=(look l m).map (updF us f):=look_map (f:=updF us f) (updF_name hf) l m
theorem shSub_name (op:Vec→Vec) (x:Item):(shSub op x).f0=x.f0:=rfl
theorem shiftF_eq (op:Vec→Vec): ∀(us:List ByteArray) (l:List Item),(l.map (·.f0)).Nodup→us.Nodup→(∀s∈us,∃x,look l s=some x)→shiftF op us l=some (l.map (updF us (shSub op)))
  |[],l,_,_,_=>by rw [upd_nil];rfl
  | s :: us, l, hn, hu, hin => by
    rw [List.nodup_cons] at hu
    obtain ⟨x,hx⟩:=hin s (List.mem_cons_self ..)
    have j0:=fnd_ge.2 ⟨x,hx⟩
    have j1:=fnd_lt l s
    unfold shiftF
    rw [tree_Find_eq]
    simp only [Option.bind_some]
    rw [if_pos ⟨j0,j1⟩,fnd_rd hx,set_upd hn hx,shiftF_eq op us _ (nodup_upd (shSub_name op) hn) hu.2 (fun t ht=>by
      obtain ⟨y,hy⟩:=hin t (List.mem_cons_of_mem _ ht)
      exact ⟨_,by rw [look_upd (shSub_name op),hy];rfl⟩),upd_cons hu.1 (shSub_name op)]
/-! the document's way -/
def opA (v u:Vec):Vec:=⟨wrap64 (u.f0+v.f0),wrap64 (u.f1+v.f1),wrap64 (u.f2+v.f2)⟩
theorem mv_l0 {l:List Item} {p:ByteArray} {x:Item} {n:ByteArray} (hx:look l n=some x) (ts us:List ByteArray) (hul:us.length<1000000) {R:List Item×Int}: ∀(d i:Nat) (cur:List Item),us.length - i=d→i≤us.length→cur.length<1000000→(cur.map (·.f0)).Nodup→(us.drop i).Nodup→(∀s∈us.drop i,∃y,look cur s=some y)→
    Ev (fun k=>r10_Move.l1 k l p (fnd l n) ts (cur.map (updF (us.drop i) (shSub (mvSub x.f4)))) 0) R→Ev (fun k=>r10_Move.l0 k l p (fnd l n) ts cur us i) R
  | 0, i, cur, hd, hi, hc, hn, hu, hin, h => by
    obtain rfl:i=us.length:=by omega
    rw [List.drop_length,upd_nil] at h
    refine Ev.step (f:=fun k=>r10_Move.l1 k l p (fnd l n) ts cur 0) (fun k=> ?_) h
    simp only [r10_Move.l0]
    rw [if_neg (by omega)]
  | d + 1, i, cur, hd, hi, hc, hn, hu, hin, h => by
    have hlt:i<us.length:=by omega
    rw [drop_cons hlt] at hu hin h
    rw [List.nodup_cons] at hu
    obtain ⟨y,hy⟩:=hin _ (List.mem_cons_self ..)
    have j0:=fnd_ge.2 ⟨y,hy⟩
    have j1:=fnd_lt cur (rdOf ByteArray.empty us i)
    have i0:=fnd_ge.2 ⟨x,hx⟩
    have i1:=fnd_lt l n
    rw [←upd_cons hu.1 (shSub_name _),←set_upd hn hy] at h
    have ih:=mv_l0 hx ts us hul d (i+1) _ (by omega) (by omega) (by rw [List.length_set];exact hc) (by rw [set_upd hn hy];exact nodup_upd (shSub_name (mvSub x.f4)) hn) hu.2 (fun t ht=>by
      obtain ⟨z,hz⟩:=hin t (List.mem_cons_of_mem _ ht)
      exact ⟨_,by rw [set_upd hn hy,look_upd (shSub_name (mvSub x.f4)),hz];rfl⟩) h
    refine Ev.step (f:=fun k=>(r10_Find.f k cur (rdOf ByteArray.empty us i)).bind fun t=>if 0≤t then (if t<(cur.length:Int) then r10_Move.l0 k l p (fnd l n) ts (cur.set t.toNat (shSub (mvSub x.f4) (rd_T31 cur t))) us ((i+1:Nat):Int) else none) else none) (fun k=> ?_) (Ev.bind (r10_Find_ev _ _ hc) ?_)
    · simp only [r10_Move.l0]
      rw [if_pos (by omega),if_pos (by omega)]
      simp only [eq_true i0,eq_true i1,if_true,fnd_rd hx]
      rw [w64 (n:=(i:Int)+1) (by omega) (by omega)]
      rfl
    · simp only [eq_true j0, eq_true j1, if_true, fnd_rd hy]
      exact ih
def chk (v:Vec) (cur:List Item) (us:List ByteArray):Bool:=us.all fun s=>match look cur s with
 |none=>false
 |some y=>decide (LeP (opA v y.f4) y.f2)
theorem chk_upd {v:Vec} {cur:List Item} {s:ByteArray} {us:List ByteArray} (hs:s ∉ us) {f:Item→Item} (hf: ∀x,(f x).f0=x.f0):chk v (cur.map (updF [s] f)) us=chk v cur us:=by
  unfold chk
  rw [Bool.eq_iff_iff,List.all_eq_true,List.all_eq_true]
  have e: ∀t∈us,look (cur.map (updF [s] f)) t=look cur t:=fun t ht=>by
    rw [look_upd hf]
    cases q:look cur t with
    |none=>rfl
    | some y =>
      obtain ⟨_,hy⟩:=look_mem q
      show some (updF [s] f y)=some y
      unfold updF
      rw [if_neg (by rw [hy];simp;rintro rfl;exact hs ht)]
  constructor<;>(intro h t ht;have:=h t ht;first|(rw [e t ht] at this;exact this)|(rw [e t ht];exact this))
def finM (l:List Item) (j:Int) (p:ByteArray):List Item:=l.set j.toNat ⟨(rd_T31 l j).f0,p,(rd_T31 l j).f2,(rd_T31 l j).f3,(rd_T31 l j).f4,wrap64 ((rd_T31 l j).f5+1)⟩
theorem mv_l1 {l:List Item} {p:ByteArray} {x:Item} {n:ByteArray} (hx:look l n=some x) (us:List ByteArray) (hul:us.length<1000000): ∀(d i:Nat) (cur:List Item),us.length - i=d→i≤us.length→cur.length<1000000→cur.length=l.length→(cur.map (·.f0)).Nodup→(us.drop i).Nodup→(∀s∈us.drop i,∃y,look cur s=some y)→
    Ev (fun k=>r10_Move.l1 k l p (fnd l n) us cur i) (if chk x.f4 cur (us.drop i)=true then (finM (cur.map (updF (us.drop i) (shSub (opA x.f4)))) (fnd l n) p,0) else ([],12))
  | 0, i, cur, hd, hi, hc, hcl, hn, hu, hin => by
    obtain rfl:i=us.length:=by omega
    have i0:=fnd_ge.2 ⟨x,hx⟩
    have i1:=fnd_lt l n
    rw [List.drop_length,upd_nil,if_pos (show chk x.f4 cur []=true from rfl)]
    refine Ev.step (f:=fun _=>some (finM cur (fnd l n) p,0)) (fun k=> ?_) (Ev.now _)
    simp only [r10_Move.l1]
    rw [if_neg (by omega),if_pos i0,if_pos (by omega)]
    simp only [Option.bind_some]
    rw [rd_set i0 (by omega),List.set_set]
    rfl
  | d + 1, i, cur, hd, hi, hc, hcl, hn, hu, hin => by
    have hlt:i<us.length:=by omega
    rw [drop_cons hlt] at hu hin ⊢
    rw [List.nodup_cons] at hu
    obtain ⟨y,hy⟩:=hin _ (List.mem_cons_self ..)
    have j0:=fnd_ge.2 ⟨y,hy⟩
    have j1:=fnd_lt cur (rdOf ByteArray.empty us i)
    have i0:=fnd_ge.2 ⟨x,hx⟩
    have i1:=fnd_lt l n
    have ih:=mv_l1 (p:=p) hx us hul d (i+1) (cur.set (fnd cur (rdOf ByteArray.empty us i)).toNat (shSub (opA x.f4) y)) (by omega) (by omega) (by rw [List.length_set];exact hc) (by rw [List.length_set];exact hcl) (by rw [set_upd hn hy];exact nodup_upd (shSub_name (opA x.f4)) hn) hu.2 (fun t ht=>by
      obtain ⟨z,hz⟩:=hin t (List.mem_cons_of_mem _ ht)
      exact ⟨_,by rw [set_upd hn hy,look_upd (shSub_name (opA x.f4)),hz];rfl⟩)
    have hck:chk x.f4 cur (rdOf ByteArray.empty us i::us.drop (i+1))=(decide (LeP (opA x.f4 y.f4) y.f2) && chk x.f4 cur (us.drop (i+1))):=by
      unfold chk
      rw [List.all_cons,hy]
    refine Ev.step (f:=fun k=>(r10_Find.f k cur (rdOf ByteArray.empty us i)).bind fun t=>if 0≤t then (if t<(cur.length:Int) then (r10_Le.f (rd_T31 (cur.set t.toNat (shSub (opA x.f4) (rd_T31 cur t))) t).f4.f0 (rd_T31 (cur.set t.toNat (shSub (opA x.f4) (rd_T31 cur t))) t).f4.f1 (rd_T31 (cur.set t.toNat (shSub (opA x.f4) (rd_T31 cur t))) t).f4.f2 (rd_T31 (cur.set t.toNat (shSub (opA x.f4) (rd_T31 cur t))) t).f2.f0 (rd_T31 (cur.set t.toNat (shSub (opA x.f4) (rd_T31 cur t))) t).f2.f1 (rd_T31 (cur.set t.toNat (shSub (opA x.f4) (rd_T31 cur t))) t).f2.f2).bind fun b=>if b=true then r10_Move.l1 k l p (fnd l n) us (cur.set t.toNat (shSub (opA x.f4) (rd_T31 cur t))) ((i+1:Nat):Int) else some ([],12) else none) else none) (fun k=> ?_) (Ev.bind (r10_Find_ev _ _ hc) ?_)
    · simp only [r10_Move.l1]
      rw [if_pos (by omega),if_pos (by omega)]
      simp only [eq_true i0,eq_true i1,if_true,fnd_rd hx]
      rw [w64 (n:=(i:Int)+1) (by omega) (by omega)]
      rfl
    · simp only [eq_true j0, eq_true j1, if_true, fnd_rd hy, rd_set j0 j1, r10_Le_eq, Option.bind_some, shSub]
      rw [hck]
      by_cases hle:LeP (opA x.f4 y.f4) y.f2
      · rw [decide_eq_true hle, Bool.true_and]
        refine Ev.congr (fun k=>if_pos rfl) ?_
        rw [show chk x.f4 (cur.set (fnd cur (rdOf ByteArray.empty us i)).toNat (shSub (opA x.f4) y)) (us.drop (i+1))=chk x.f4 cur (us.drop (i+1)) from by rw [set_upd hn hy,chk_upd hu.1 (shSub_name _)],
          show (cur.set (fnd cur (rdOf ByteArray.empty us i)).toNat (shSub (opA x.f4) y)).map (updF (us.drop (i+1)) (shSub (opA x.f4)))=cur.map (updF (rdOf ByteArray.empty us i::us.drop (i+1)) (shSub (opA x.f4))) from by rw [set_upd hn hy,upd_cons hu.1 (shSub_name _)]] at ih
        exact ih
      · rw [decide_eq_false hle, Bool.false_and, if_neg (by simp)]
        exact Ev.congr (fun k=>if_neg (by simp)) (Ev.now _)
end Go.Proofs.Ytcgefpklljclgaa.Print

namespace Go.Proofs.Ytcgefpklljclgaa.Print
open Go.RowKit Go.Proofs.YtcgefpklljclgaaW.PrintWords Go.Proofs.YtcgefpklljclgaaW.PrintLast Go.Proofs.YtcgefpklljclgaaW.PrintMore
set_option linter.unusedVariables false
set_option linter.unusedSimpArgs false
theorem contains_ev (l:List ByteArray) (s:ByteArray) (hl:l.length<1000000):Ev (fun k=>slices_Contains_string_string.f k l s) (hasStr l s):=by
 obtain ⟨r,h1,h2⟩:=index_some l s (by omega) l.length 0 (by omega) (by omega)
 refine Ev.of (fun k=>slices_Contains_string_string.mono l s k) (k:=l.length+1) ?_
 unfold slices_Contains_string_string.f slices_Index_string_string.f
 rw [show slices_Index_string_string.l0 (l.length+1) l s (l.length:Int) 0=some r from h1]
 simp only [Option.bind_some]
 rw [h2,List.drop_zero]
theorem hasStr_iff {l:List ByteArray} {s:ByteArray}:hasStr l s=true↔s∈l:=by
  unfold hasStr
  rw [List.any_eq_true]
  constructor
  · rintro ⟨x, hx, e⟩
    rw [nm_inj.1 (of_decide_eq_true e)]
    exact hx
  · intro h
    exact ⟨s,h,decide_eq_true rfl⟩
/-- amounts that are small enough -/
def SmP (v:Vec):Prop:= ∀c:Comp, -2199023255552≤c.of v∧c.of v≤2199023255552
theorem MayP.sm {v:Vec} (h:MayP v):SmP v:=fun c=>by have:=h c;omega
theorem mvSub_eq {v u:Vec} (hv:MayP v) (hu:MayP u):mvSub v u=vsub u v:=by
 have a0:=hv .cpu;have a1:=hv .mem;have a2:=hv .pods
 have b0:=hu .cpu;have b1:=hu .mem;have b2:=hu .pods
 simp only [Comp.of] at a0 a1 a2 b0 b1 b2
 unfold mvSub vsub
 rw [w64 (by omega) (by omega),w64 (by omega) (by omega),w64 (by omega) (by omega)]
theorem vsub_sm {v u:Vec} (hv:MayP v) (hu:MayP u):SmP (vsub u v):=fun c=>by
 have a:=hv c;have b:=hu c
 rw [of_vsub];omega
theorem opA_eq {v u:Vec} (hv:MayP v) (hu:SmP u):opA v u=vadd u v:=by
 have a0:=hv .cpu;have a1:=hv .mem;have a2:=hv .pods
 have b0:=hu .cpu;have b1:=hu .mem;have b2:=hu .pods
 simp only [Comp.of] at a0 a1 a2 b0 b1 b2
 unfold opA vadd
 rw [w64 (by omega) (by omega),w64 (by omega) (by omega),w64 (by omega) (by omega)]
theorem mvAdd_eq {v u:Vec} (hv:MayP v) (hu:SmP u):mvAdd v u=vadd u v:=by
 have a0:=hv .cpu;have a1:=hv .mem;have a2:=hv .pods
 have b0:=hu .cpu;have b1:=hu .mem;have b2:=hu .pods
 simp only [Comp.of] at a0 a1 a2 b0 b1 b2
 unfold mvAdd vec_Add.f
 simp only [vecByF,Option.getD_some]
 unfold vadd
 rw [w64 (n:=0+u.f0) (by omega) (by omega),w64 (n:=0+u.f1) (by omega) (by omega),w64 (n:=0+u.f2) (by omega) (by omega),w64 (by omega) (by omega),w64 (by omega) (by omega),w64 (by omega) (by omega)]
 simp
/-- what is in use of a node behind a move -/
def mvS (fs ts:List ByteArray) (v:Vec) (z:Item):Vec:=if z.f0∈ts then vadd (if z.f0∈fs then vsub z.f4 v else z.f4) v else if z.f0∈fs then vsub z.f4 v else z.f4
def movG (n p:ByteArray) (fs ts:List ByteArray) (v:Vec) (z:Item):Item:=⟨z.f0,if z.f0=n then p else z.f1,z.f2,z.f3,mvS fs ts v z,if z.f0=n then z.f5+1 else z.f5⟩
def movL (l:List Item) (n p:ByteArray) (x:Item):List Item:=l.map (movG n p (up l x.f1) (up l p) x.f4)
def movB (l:List Item) (x:Item) (p:ByteArray):Bool:=(up l p).all fun s=>hasStr (up l x.f1) s||match look l s with
 |none=>false
 |some y=>decide (LeP (vadd y.f4 x.f4) y.f2)
def movR (l:List Item) (n p:ByteArray) (ver:Int):List Item×Int:=
 if oldR l n ver≠0 then ([],oldR l n ver) else if p≠⟨#[]⟩∧(look l p).isNone=true then ([],2) else if n∈up l p then ([],10) else match look l n with
  |none=>([],2)
  |some x=>if 9007199254740992≤x.f5 then ([],4) else if movB l x p=true then (movL l n p x,0) else ([],12)
theorem mv_in {l:List Item} (hl:RightP l) {m s:ByteArray} (h:s∈up l m): ∃x,look l s=some x:=(hl.chainAll m).mem_look h
theorem not_own_way {l:List Item} (hl:RightP l) {n:ByteArray} {x:Item} (hx:look l n=some x):n ∉ up l x.f1:=by
 have h:=(Chain.cons hx (hl.chainAll x.f1)).nodup
 rw [List.nodup_cons] at h
 exact h.1
theorem way_len {l:List Item} (hl:RightP l) (m:ByteArray):(up l m).length<1000000:=by
 have:=up_len l m
 have:=hl.len
 omega
theorem fits_ev {l:List Item} (hl:RightP l) {x:Item} (hx:MayP x.f4) (fs:List ByteArray) (hf:fs.length<1000000): ∀us:List ByteArray,(∀s∈us,∃y,look l s=some y)→Ev (fun k=>fitsF k l fs x.f4 us) (us.all fun s=>hasStr fs s||match look l s with
  |none=>false
  |some y=>decide (LeP (vadd y.f4 x.f4) y.f2))
  |[],_=>Ev.now _
  | s :: us, hin => by
    obtain ⟨y,hy⟩:=hin s (List.mem_cons_self ..)
    have j0:=fnd_ge.2 ⟨y,hy⟩
    have j1:=fnd_lt l s
    have ih:=fits_ev hl hx fs hf us (fun t ht=>hin t (List.mem_cons_of_mem _ ht))
    have hya:=mvAdd_eq hx (hl.ok y (look_mem hy).1).sub.sm
    unfold fitsF
    simp only [tree_Find_eq,Option.bind_some,eq_true j0,eq_true j1,true_and,if_true,fnd_rd hy,hya]
    refine Ev.bind (contains_ev fs s hf) ?_
    rw [List.all_cons,hy]
    cases hasStr fs s with
    | true =>
      simp only [if_true,Bool.true_or,Bool.true_and]
      exact ih
    | false =>
      simp only [Bool.false_or,sh_Le_eq,Option.bind_some]
      by_cases hle:LeP (vadd y.f4 x.f4) y.f2
      · rw [decide_eq_true (show LeP ⟨(vadd y.f4 x.f4).f0, (vadd y.f4 x.f4).f1, (vadd y.f4 x.f4).f2⟩ ⟨y.f2.f0, y.f2.f1, y.f2.f2⟩ from hle), Bool.true_and]
        simp only [Bool.false_eq_true,if_false,if_true]
        exact ih
      · rw [decide_eq_false (show ¬ LeP ⟨(vadd y.f4 x.f4).f0, (vadd y.f4 x.f4).f1, (vadd y.f4 x.f4).f2⟩ ⟨y.f2.f0, y.f2.f1, y.f2.f2⟩ from hle), Bool.false_and]
        simp only [Bool.false_eq_true,if_false]
        exact Ev.now _
theorem set_one {l:List Item} (hn:(l.map (·.f0)).Nodup) {n:ByteArray} {x:Item} (h:look l n=some x) {f:Item→Item} {y:Item} (hy:y=f x):l.set (fnd l n).toNat y=l.map (updF [n] f):=by
 rw [hy]
 exact set_upd hn h f
theorem mov_prog {l:List Item} (hl:RightP l) {n p:ByteArray} {x:Item} (hx:look l n=some x) (hnt:n ∉ up l p):
    let l4:=((l.set (fnd l n).toNat (⟨x.f0,x.f1,x.f2,x.f3,x.f4,x.f5+1⟩:Item)).map (updF (up l x.f1) (shSub (mvSub x.f4)))).map (updF (up l p) (shSub (mvAdd x.f4)))
    l4.set (fnd l n).toNat (parF p (rd_T31 l4 (fnd l n)))=movL l n p x:=by
  intro l4
  obtain ⟨hxm,hxn⟩:=look_mem hx
  have hxs:=(hl.ok x hxm).sub
  have hnf:=not_own_way hl hx
  have hver: ∀z:Item,(⟨z.f0,z.f1,z.f2,z.f3,z.f4,z.f5+1⟩:Item).f0=z.f0:=fun _=>rfl
  have e2:l.set (fnd l n).toNat (⟨x.f0,x.f1,x.f2,x.f3,x.f4,x.f5+1⟩:Item)=l.map (updF [n] fun z=>⟨z.f0,z.f1,z.f2,z.f3,z.f4,z.f5+1⟩):=set_one (f:=fun z=>⟨z.f0,z.f1,z.f2,z.f3,z.f4,z.f5+1⟩) hl.nodup hx rfl
  have e4:l4=l.map fun z=>updF (up l p) (shSub (mvAdd x.f4)) (updF (up l x.f1) (shSub (mvSub x.f4)) (updF [n] (fun z=>⟨z.f0,z.f1,z.f2,z.f3,z.f4,z.f5+1⟩) z)):=by
    show ((l.set _ _).map _).map _=_
    rw [e2,List.map_map,List.map_map]
    rfl
  have hname: ∀z:Item,(updF (up l p) (shSub (mvAdd x.f4)) (updF (up l x.f1) (shSub (mvSub x.f4)) (updF [n] (fun z=>⟨z.f0,z.f1,z.f2,z.f3,z.f4,z.f5+1⟩) z))).f0=z.f0:=fun z=>by
    rw [updF_name (shSub_name _),updF_name (shSub_name _),updF_name hver]
  have hn4:(l4.map (·.f0)).Nodup:=by
    rw [e4,List.map_map]
    rw [show ((fun x:Item=>x.f0) ∘ fun z=>updF (up l p) (shSub (mvAdd x.f4)) (updF (up l x.f1) (shSub (mvSub x.f4)) (updF [n] (fun z=>⟨z.f0,z.f1,z.f2,z.f3,z.f4,z.f5+1⟩) z)))=(fun x=>x.f0) from funext hname]
    exact hl.nodup
  have hlk:=look_map hname l n
  rw [hx,←e4] at hlk
  have hf4:fnd l4 n=fnd l n:=by rw [e4];exact fnd_map hname l n
  rw [←hf4,fnd_rd hlk,set_upd hn4 hlk (parF p),e4,List.map_map]
  unfold movL
  refine List.map_congr_left fun z hz=> ?_
  have hzs:=(hl.ok z hz).sub
  simp only [Function.comp]
  by_cases e:z.f0=n
  · have q1 : z.f0 ∉ up l x.f1 := by rw [e]; exact hnf
    have q2:z.f0 ∉ up l p:=by rw [e];exact hnt
    simp [updF,movG,mvS,parF,e,hnf,hnt]
  · have ev : mvSub x.f4 z.f4 = vsub z.f4 x.f4 := mvSub_eq hxs hzs
    have ea:mvAdd x.f4 z.f4=vadd z.f4 x.f4:=mvAdd_eq hxs hzs.sm
    have ea2:mvAdd x.f4 (vsub z.f4 x.f4)=vadd (vsub z.f4 x.f4) x.f4:=mvAdd_eq hxs (vsub_sm hxs hzs)
    by_cases q1:z.f0∈up l x.f1<;>by_cases q2:z.f0∈up l p<;>simp [updF,movG,mvS,shSub,e,q1,q2,ev,ea,ea2]
theorem mov_doc {l:List Item} (hl:RightP l) {n p:ByteArray} {x:Item} (hx:look l n=some x) (hnt:n ∉ up l p):
    finM ((l.map (updF (up l x.f1) (shSub (mvSub x.f4)))).map (updF (up l p) (shSub (opA x.f4)))) (fnd l n) p=movL l n p x:=by
  obtain ⟨hxm,hxn⟩:=look_mem hx
  have hxs:=(hl.ok x hxm).sub
  have hnf:=not_own_way hl hx
  have e4:(l.map (updF (up l x.f1) (shSub (mvSub x.f4)))).map (updF (up l p) (shSub (opA x.f4)))=l.map fun z=>updF (up l p) (shSub (opA x.f4)) (updF (up l x.f1) (shSub (mvSub x.f4)) z):=by
    rw [List.map_map]
    rfl
  have hname: ∀z:Item,(updF (up l p) (shSub (opA x.f4)) (updF (up l x.f1) (shSub (mvSub x.f4)) z)).f0=z.f0:=fun z=>by
    rw [updF_name (shSub_name _),updF_name (shSub_name _)]
  rw [e4]
  have hn4:((l.map fun z=>updF (up l p) (shSub (opA x.f4)) (updF (up l x.f1) (shSub (mvSub x.f4)) z)).map (·.f0)).Nodup:=by
    rw [List.map_map,show ((fun x:Item=>x.f0) ∘ fun z=>updF (up l p) (shSub (opA x.f4)) (updF (up l x.f1) (shSub (mvSub x.f4)) z))=(fun x=>x.f0) from funext hname]
    exact hl.nodup
  have hlk:=look_map hname l n
  rw [hx] at hlk
  have hf4:=fnd_map hname l n
  unfold finM
  rw [←hf4,fnd_rd hlk]
  rw [set_one (f:=fun z=>⟨z.f0,p,z.f2,z.f3,z.f4,wrap64 (z.f5+1)⟩) hn4 hlk rfl,List.map_map]
  unfold movL
  refine List.map_congr_left fun z hz=> ?_
  have hzs:=(hl.ok z hz).sub
  simp only [Function.comp]
  by_cases e:z.f0=n
  · have hw := ver_step (hl.ok z hz)
    simp [updF,movG,mvS,e,hnf,hnt,hw]
  · have ev : mvSub x.f4 z.f4 = vsub z.f4 x.f4 := mvSub_eq hxs hzs
    have ea:opA x.f4 z.f4=vadd z.f4 x.f4:=opA_eq hxs hzs.sm
    have ea2:opA x.f4 (vsub z.f4 x.f4)=vadd (vsub z.f4 x.f4) x.f4:=opA_eq hxs (vsub_sm hxs hzs)
    by_cases q1:z.f0∈up l x.f1<;>by_cases q2:z.f0∈up l p<;>simp [updF,movG,mvS,shSub,e,q1,q2,ev,ea,ea2]
theorem chk_movB {l:List Item} (hl:RightP l) {n p:ByteArray} {x:Item} (hx:look l n=some x):chk x.f4 (l.map (updF (up l x.f1) (shSub (mvSub x.f4)))) (up l p)=movB l x p:=by
  obtain ⟨hxm,hxn⟩:=look_mem hx
  have hxs:=(hl.ok x hxm).sub
  unfold chk movB
  rw [Bool.eq_iff_iff,List.all_eq_true,List.all_eq_true]
  have key: ∀s∈up l p,(match look (l.map (updF (up l x.f1) (shSub (mvSub x.f4)))) s with|none=>false|some y=>decide (LeP (opA x.f4 y.f4) y.f2))=(hasStr (up l x.f1) s||match look l s with|none=>false|some y=>decide (LeP (vadd y.f4 x.f4) y.f2)):=by
    intro s hs
    obtain ⟨y,hy⟩:=mv_in hl hs
    obtain ⟨hym,hyn⟩:=look_mem hy
    have hys:=hl.ok y hym
    rw [look_upd (shSub_name _),hy]
    show decide (LeP (opA x.f4 (updF (up l x.f1) (shSub (mvSub x.f4)) y).f4) (updF (up l x.f1) (shSub (mvSub x.f4)) y).f2)=_
    by_cases q:s∈up l x.f1
    · have e : updF (up l x.f1) (shSub (mvSub x.f4)) y = shSub (mvSub x.f4) y := by unfold updF; rw [if_pos (by rw [hyn]; exact q)]
      rw [e,hasStr_iff.2 q,Bool.true_or]
      refine decide_eq_true ?_
      show LeP (opA x.f4 (mvSub x.f4 y.f4)) y.f2
      rw [mvSub_eq hxs hys.sub,opA_eq hxs (vsub_sm hxs hys.sub)]
      intro c
      have:=hys.fit c
      rw [of_vadd,of_vsub]
      omega
    · have e : updF (up l x.f1) (shSub (mvSub x.f4)) y = y := by unfold updF; rw [if_neg (by rw [hyn]; exact q)]
      have hq:hasStr (up l x.f1) s=false:=by
        cases h:hasStr (up l x.f1) s with
        |false=>rfl
        |true=>exact absurd (hasStr_iff.1 h) q
      rw [e,hq,Bool.false_or,opA_eq hxs hys.sub.sm]
  constructor
  · intro h s hs
    exact (key s hs).symm.trans (h s hs)
  · intro h s hs
    exact (key s hs).trans (h s hs)
end Go.Proofs.Ytcgefpklljclgaa.Print

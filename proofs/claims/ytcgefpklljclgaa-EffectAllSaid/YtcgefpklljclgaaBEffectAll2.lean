/- EffectAll: a part -/
import Derived.Laws.Cover1
import Derived.Shelf.Abstract
import Derived.Laws.Strings
import Derived.Deep.Slices
import Derived.Deep.Fields
import Derived.ChangeSame
import Derived.StillTailTactics
import Derived.Test.YtcgefpklljclgaaBEffectAll0
import Derived.Test.YtcgefpklljclgaaBEffectAll1
set_option linter.unusedVariables false
set_option linter.unusedSimpArgs false
namespace Go.Proofs.Ytcgefpklljclgaa.Print
open Go.RowKit Go.Proofs.YtcgefpklljclgaaW.PrintWords Go.Proofs.YtcgefpklljclgaaW.PrintLast Go.Proofs.YtcgefpklljclgaaW.PrintMore
attribute [local go_sem] max2_int min2_int max_two min_two max_three min_three max_four min_four

def effL (mk:S54) (n:ByteArray):Bool→List S54→List S54
 |b,[]=>if b=true then [] else [mk]
 |b,m::ms=>(if b=false∧Op.bytesLess m.f0.toList n.toList=false then [mk] else [])++((if m.f0.toList=n.toList then [] else [m])++effL mk n (if b=false∧Op.bytesLess m.f0.toList n.toList=false then true else b) ms)
theorem effL_len (mk:S54) (n:ByteArray): ∀(ms:List S54) (b:Bool),(effL mk n b ms).length≤2*ms.length+1
  |[],b=>by unfold effL;split<;>simp
  | m :: ms, b => by
    unfold effL
    have:=effL_len mk n ms (if b=false∧Op.bytesLess m.f0.toList n.toList=false then true else b)
    rw [List.length_append,List.length_append,List.length_cons]
    have h1:(if b=false∧Op.bytesLess m.f0.toList n.toList=false then [mk] else []).length≤1:=by split<;>simp
    have h2:(if m.f0.toList=n.toList then [] else [m]).length≤1:=by split<;>simp
    omega
def effect_Marks.f (l0:List (S54)) (l1:List (S31)) (s0:Int) (s1 s2:ByteArray) (s3 s4 s5:Int):Option (List (S54)):=if l0.length<400000000 then (effect_find.f l1 s1).bind fun q=>some (effL ⟨s1,q.2.1,⟨q.2.2.1,q.2.2.2.1,q.2.2.2.2.1⟩,q.2.2.2.2.2.2.2.2.2.2.2.1⟩ s1 (!q.2.2.2.2.2.2.2.2.2.2.2.2||s0==4) l0) else none
set_option maxHeartbeats 8000000 in
set_option maxRecDepth 100000 in
theorem effect_Marks.calls (A0:Option Addr) (c0:Nat) (l0:List (S54)) (A:Option Addr) (c:Nat) (l:List (S31)) (s0:Int) (s1 s2:ByteArray) (s3 s4 s5:Int) (r:List (S54)) (w:World) (hr0:Kd.C k54 w A0 l0.length l0) (hc0:l0.length≤c0) (hr1:Kd.C k31 w A l.length l) (hc1:l.length≤c) (h:effect_Marks.f l0 l s0 s1 s2 s3 s4 s5=some r):
    Calls Try.prog 54 #[.slice A0 l0.length c0, .slice A l.length c, .agg #[.int .i64 s0, .string s1, .string s2, .int .i64 s3, .int .i64 s4, .int .i64 s5]] w fun e w'=> ∃v0_:Value,e= .returned (v0_)∧Kd.R k54 54 w' w.heap.size (fun _=>True) v0_ r∧Below w.heap.size w w':=by
  have hu142:=Try.underlying142
  have hu140:=Try.underlying140
  have hu31:=Try.underlying31
  have hu54:=Try.underlying54
  have hu58:=Try.underlying58
  have hu27:=Try.underlying27
  unfold effect_Marks.f at h
  by_cases hlim:l0.length<400000000
  case neg=>rw [if_neg hlim] at h;cases h
  rw [if_pos hlim] at h
  obtain ⟨⟨r2,r3,r4,r5,r6,r7,r8,r9,r10,r11,r12,r13,r14⟩,hf,h⟩:=Option.bind_eq_some_iff.1 h
  have hrr:=(Option.some.inj h).symm
  dsimp only at hrr
  obtain ⟨mk,hmk⟩: ∃x:S54,x=⟨s1,r3,⟨r4,r5,r6⟩,r13⟩:=⟨_,rfl⟩
  rw [←hmk] at hrr
  have HMK:=Aside0.mk hmk
  have HRQ:=Aside0.mk hrr
  have HF:=Aside0.mk hf
  have HL:=Aside0.mk hlim
  have HR0:=Aside0.mk hr0
  have HR:=Aside0.mk hr1
  have HC:=Aside0.mk hc1
  have HB:=am_ (Below.refl w.heap.size w)
  clear hr0 hc0 hr1 hc1 hf h hrr hlim hmk
  go_enter Try.func54,Try.ntmps54
  go_wp2_with (first|((with_reducible refine gate_dst (N:=5) rfl ?_);refine bx_ (N:=5) (cs:=#[.int .i64 s0, .string s1, .string s2, .int .i64 s3, .int .i64 s4, .int .i64 s5]) (t:=58) ?_;intro gb5 hg w3 hbox hb;have BK5:=am_ (hbox);have GE5:=am_ ((by rw [hg];exact below_size HB.out:w.heap.size≤gb5));replace HB:=am_ (below_step HB.out hb);have EQ5:=am_ (hg);clear hb hbox hg;have cgb5_0:=(blk_cell BK5.out 0).trans rfl;have cgb5_1:=(blk_cell BK5.out 1).trans rfl;have cgb5_2:=(blk_cell BK5.out 2).trans rfl;have cgb5_3:=(blk_cell BK5.out 3).trans rfl;have cgb5_4:=(blk_cell BK5.out 4).trans rfl;have cgb5_5:=(blk_cell BK5.out 5).trans rfl))
  refine (effFind_calls A c l s1 r2 r3 r4 r5 r6 r7 r8 r9 r10 r11 r12 r13 r14 _ (Kd.C_below HR.out HB.out) HC.out HF.out).mono ?_
  rintro e w4 ⟨rfl,hb⟩
  have n0_:=am_ (blk_below BK5.out hb)
  have nB_:=am_ (below_step HB.out hb)
  clear BK5 HB hb cgb5_0 cgb5_1 cgb5_2 cgb5_3 cgb5_4 cgb5_5
  have BK5:=n0_
  have HB:=nB_
  clear nB_ n0_
  rcases Bool.eq_false_or_eq_true r14 with q14|q14
  subst q14
  focus (go_wp2_with (first|((with_reducible refine gate_dst (N:=7) rfl ?_);refine bx_ (N:=7) (cs:=#[.slice none 0 0, .string ⟨#[]⟩, .string ⟨#[]⟩, .int .i64 0, .int .i64 0, .int .i64 0, .int .i64 0, .int .i64 0, .int .i64 0, .int .i64 0, .int .i64 0, .int .i64 0, .int .i64 0, .bool false]) (t:=142) ?_;intro gb7 hg w5 hbox hb;have NE5_7:=am_ (show gb5≠gb7 from by have:=blk_lt BK5.out;rw [hg];exact Nat.ne_of_lt this);have LT5_7:=am_ (show gb5<gb7 from by have:=blk_lt BK5.out;rw [hg];exact this);replace BK5:=am_ (blk_below BK5.out hb);have BK7:=am_ (hbox);have GE7:=am_ ((by rw [hg];exact below_size HB.out:w.heap.size≤gb7));replace HB:=am_ (below_step HB.out hb);have EQ7:=am_ (hg);clear hb hbox hg;have cgb7_0:=(blk_cell BK7.out 0).trans rfl;have cgb7_1:=(blk_cell BK7.out 1).trans rfl;have cgb7_2:=(blk_cell BK7.out 2).trans rfl;have cgb7_3:=(blk_cell BK7.out 3).trans rfl;have cgb7_4:=(blk_cell BK7.out 4).trans rfl;have cgb7_5:=(blk_cell BK7.out 5).trans rfl;have cgb7_6:=(blk_cell BK7.out 6).trans rfl;have cgb7_7:=(blk_cell BK7.out 7).trans rfl;have cgb7_8:=(blk_cell BK7.out 8).trans rfl;have cgb7_9:=(blk_cell BK7.out 9).trans rfl;have cgb7_10:=(blk_cell BK7.out 10).trans rfl;have cgb7_11:=(blk_cell BK7.out 11).trans rfl;have cgb7_12:=(blk_cell BK7.out 12).trans rfl;have cgb7_13:=(blk_cell BK7.out 13).trans rfl)|((with_reducible refine gate_store (t:=142) (p:=7) (v:= .tmp 16) rfl ?_);refine store_all BK7.out 142 (.tmp 7) (.tmp 16) rfl rfl rfl (.agg #[.slice A l.length c, .string r2, .string r3, .int .i64 r4, .int .i64 r5, .int .i64 r6, .int .i64 r7, .int .i64 r8, .int .i64 r9, .int .i64 r10, .int .i64 r11, .int .i64 r12, .int .i64 r13, .bool true]) [.slice A l.length c, .string r2, .string r3, .int .i64 r4, .int .i64 r5, .int .i64 r6, .int .i64 r7, .int .i64 r8, .int .i64 r9, .int .i64 r10, .int .i64 r11, .int .i64 r12, .int .i64 r13, .bool true] rfl rfl rfl (by kernel_rfl) rfl (by intro q hq;simp only [List.mem_cons,List.not_mem_nil,or_false] at hq;rcases hq with rfl|rfl|rfl|rfl|rfl|rfl|rfl|rfl|rfl|rfl|rfl|rfl|rfl|rfl<;>rfl) ?_;intro w6 hbk hg;clear cgb7_0 cgb7_1 cgb7_2 cgb7_3 cgb7_4 cgb7_5 cgb7_6 cgb7_7 cgb7_8 cgb7_9 cgb7_10 cgb7_11 cgb7_12 cgb7_13;replace BK5:=am_ (blk_put_other BK5.out hg (NE5_7.out));replace HB:=am_ (below_put HB.out (below_size HB.out) hg GE7.out);replace BK7:=am_ (hbk);clear hbk hg;have cgb7_0:=(blk_cell BK7.out 0).trans rfl;have cgb7_1:=(blk_cell BK7.out 1).trans rfl;have cgb7_2:=(blk_cell BK7.out 2).trans rfl;have cgb7_3:=(blk_cell BK7.out 3).trans rfl;have cgb7_4:=(blk_cell BK7.out 4).trans rfl;have cgb7_5:=(blk_cell BK7.out 5).trans rfl;have cgb7_6:=(blk_cell BK7.out 6).trans rfl;have cgb7_7:=(blk_cell BK7.out 7).trans rfl;have cgb7_8:=(blk_cell BK7.out 8).trans rfl;have cgb7_9:=(blk_cell BK7.out 9).trans rfl;have cgb7_10:=(blk_cell BK7.out 10).trans rfl;have cgb7_11:=(blk_cell BK7.out 11).trans rfl;have cgb7_12:=(blk_cell BK7.out 12).trans rfl;have cgb7_13:=(blk_cell BK7.out 13).trans rfl;have cgb5_0:=(blk_cell BK5.out 0).trans rfl;have cgb5_1:=(blk_cell BK5.out 1).trans rfl;have cgb5_2:=(blk_cell BK5.out 2).trans rfl;have cgb5_3:=(blk_cell BK5.out 3).trans rfl;have cgb5_4:=(blk_cell BK5.out 4).trans rfl;have cgb5_5:=(blk_cell BK5.out 5).trans rfl)|((with_reducible refine gate_dst (N:=8) rfl ?_);refine bx_ (N:=8) (cs:=#[.slice none 0 0]) (t:=35) ?_;intro gb8 hg w7 hbox hb;have NE5_8:=am_ (show gb5≠gb8 from by have:=blk_lt BK5.out;rw [hg];exact Nat.ne_of_lt this);have LT5_8:=am_ (show gb5<gb8 from by have:=blk_lt BK5.out;rw [hg];exact this);have NE7_8:=am_ (show gb7≠gb8 from by have:=blk_lt BK7.out;rw [hg];exact Nat.ne_of_lt this);have LT7_8:=am_ (show gb7<gb8 from by have:=blk_lt BK7.out;rw [hg];exact this);replace BK5:=am_ (blk_below BK5.out hb);replace BK7:=am_ (blk_below BK7.out hb);have BK8:=am_ (hbox);have GE8:=am_ ((by rw [hg];exact below_size HB.out:w.heap.size≤gb8));replace HB:=am_ (below_step HB.out hb);have EQ8:=am_ (hg);clear hb hbox hg;have cgb8_0:=(blk_cell BK8.out 0).trans rfl;clear cgb5_0 cgb5_1 cgb5_2 cgb5_3 cgb5_4 cgb5_5 cgb7_0 cgb7_1 cgb7_2 cgb7_3 cgb7_4 cgb7_5 cgb7_6 cgb7_7 cgb7_8 cgb7_9 cgb7_10 cgb7_11 cgb7_12 cgb7_13;have cgb7_13:=(blk_cell BK7.out 13).trans rfl;have cgb5_0:=(blk_cell BK5.out 0).trans rfl;have cgb5_1:=(blk_cell BK5.out 1).trans rfl;have cgb5_2:=(blk_cell BK5.out 2).trans rfl;have cgb5_3:=(blk_cell BK5.out 3).trans rfl;have cgb5_4:=(blk_cell BK5.out 4).trans rfl;have cgb5_5:=(blk_cell BK5.out 5).trans rfl)|((with_reducible refine gate_dst (N:=9) rfl ?_);refine bx_ (N:=9) (cs:=#[.bool false]) (t:=4) ?_;intro gb9 hg w8 hbox hb;have NE5_9:=am_ (show gb5≠gb9 from by have:=blk_lt BK5.out;rw [hg];exact Nat.ne_of_lt this);have LT5_9:=am_ (show gb5<gb9 from by have:=blk_lt BK5.out;rw [hg];exact this);have NE7_9:=am_ (show gb7≠gb9 from by have:=blk_lt BK7.out;rw [hg];exact Nat.ne_of_lt this);have LT7_9:=am_ (show gb7<gb9 from by have:=blk_lt BK7.out;rw [hg];exact this);have NE8_9:=am_ (show gb8≠gb9 from by have:=blk_lt BK8.out;rw [hg];exact Nat.ne_of_lt this);have LT8_9:=am_ (show gb8<gb9 from by have:=blk_lt BK8.out;rw [hg];exact this);replace BK5:=am_ (blk_below BK5.out hb);replace BK7:=am_ (blk_below BK7.out hb);replace BK8:=am_ (blk_below BK8.out hb);have BK9:=am_ (hbox);have GE9:=am_ ((by rw [hg];exact below_size HB.out:w.heap.size≤gb9));replace HB:=am_ (below_step HB.out hb);have EQ9:=am_ (hg);clear hb hbox hg;have cgb9_0:=(blk_cell BK9.out 0).trans rfl)|((with_reducible refine gate_store (t:=4) (p:=9) (v:= .tmp 24) rfl ?_);refine store_all BK9.out 4 (.tmp 9) (.tmp 24) rfl rfl rfl (.bool (s0==4)) [.bool (s0==4)] rfl rfl rfl (by kernel_rfl) rfl (by intro q hq;simp only [List.mem_cons,List.not_mem_nil,or_false] at hq;rcases hq with rfl<;>rfl) ?_;intro w9 hbk hg;clear cgb9_0;replace BK5:=am_ (blk_put_other BK5.out hg (NE5_9.out));replace BK7:=am_ (blk_put_other BK7.out hg (NE7_9.out));replace BK8:=am_ (blk_put_other BK8.out hg (NE8_9.out));replace HB:=am_ (below_put HB.out (below_size HB.out) hg GE9.out);replace BK9:=am_ (hbk);clear hbk hg)))
  have HRR:=am_ (show r=effL mk s1 (s0==4) l0 from HRQ.out)
  obtain ⟨in0,hin0⟩: ∃b,b=(s0==4):=⟨_,rfl⟩
  rw [←hin0] at HRR BK9
  obtain ⟨b14,hb14⟩: ∃b,b=true:=⟨_,rfl⟩
  rw [←hb14] at BK7
  clear HRQ hin0 hb14
  rotate_left
  subst q14
  focus (go_wp2_with (first|((with_reducible refine gate_dst (N:=7) rfl ?_);refine bx_ (N:=7) (cs:=#[.slice none 0 0, .string ⟨#[]⟩, .string ⟨#[]⟩, .int .i64 0, .int .i64 0, .int .i64 0, .int .i64 0, .int .i64 0, .int .i64 0, .int .i64 0, .int .i64 0, .int .i64 0, .int .i64 0, .bool false]) (t:=142) ?_;intro gb7 hg w5 hbox hb;have NE5_7:=am_ (show gb5≠gb7 from by have:=blk_lt BK5.out;rw [hg];exact Nat.ne_of_lt this);have LT5_7:=am_ (show gb5<gb7 from by have:=blk_lt BK5.out;rw [hg];exact this);replace BK5:=am_ (blk_below BK5.out hb);have BK7:=am_ (hbox);have GE7:=am_ ((by rw [hg];exact below_size HB.out:w.heap.size≤gb7));replace HB:=am_ (below_step HB.out hb);have EQ7:=am_ (hg);clear hb hbox hg;have cgb7_0:=(blk_cell BK7.out 0).trans rfl;have cgb7_1:=(blk_cell BK7.out 1).trans rfl;have cgb7_2:=(blk_cell BK7.out 2).trans rfl;have cgb7_3:=(blk_cell BK7.out 3).trans rfl;have cgb7_4:=(blk_cell BK7.out 4).trans rfl;have cgb7_5:=(blk_cell BK7.out 5).trans rfl;have cgb7_6:=(blk_cell BK7.out 6).trans rfl;have cgb7_7:=(blk_cell BK7.out 7).trans rfl;have cgb7_8:=(blk_cell BK7.out 8).trans rfl;have cgb7_9:=(blk_cell BK7.out 9).trans rfl;have cgb7_10:=(blk_cell BK7.out 10).trans rfl;have cgb7_11:=(blk_cell BK7.out 11).trans rfl;have cgb7_12:=(blk_cell BK7.out 12).trans rfl;have cgb7_13:=(blk_cell BK7.out 13).trans rfl)|((with_reducible refine gate_store (t:=142) (p:=7) (v:= .tmp 16) rfl ?_);refine store_all BK7.out 142 (.tmp 7) (.tmp 16) rfl rfl rfl (.agg #[.slice A l.length c, .string r2, .string r3, .int .i64 r4, .int .i64 r5, .int .i64 r6, .int .i64 r7, .int .i64 r8, .int .i64 r9, .int .i64 r10, .int .i64 r11, .int .i64 r12, .int .i64 r13, .bool false]) [.slice A l.length c, .string r2, .string r3, .int .i64 r4, .int .i64 r5, .int .i64 r6, .int .i64 r7, .int .i64 r8, .int .i64 r9, .int .i64 r10, .int .i64 r11, .int .i64 r12, .int .i64 r13, .bool false] rfl rfl rfl (by kernel_rfl) rfl (by intro q hq;simp only [List.mem_cons,List.not_mem_nil,or_false] at hq;rcases hq with rfl|rfl|rfl|rfl|rfl|rfl|rfl|rfl|rfl|rfl|rfl|rfl|rfl|rfl<;>rfl) ?_;intro w6 hbk hg;clear cgb7_0 cgb7_1 cgb7_2 cgb7_3 cgb7_4 cgb7_5 cgb7_6 cgb7_7 cgb7_8 cgb7_9 cgb7_10 cgb7_11 cgb7_12 cgb7_13;replace BK5:=am_ (blk_put_other BK5.out hg (NE5_7.out));replace HB:=am_ (below_put HB.out (below_size HB.out) hg GE7.out);replace BK7:=am_ (hbk);clear hbk hg;have cgb7_0:=(blk_cell BK7.out 0).trans rfl;have cgb7_1:=(blk_cell BK7.out 1).trans rfl;have cgb7_2:=(blk_cell BK7.out 2).trans rfl;have cgb7_3:=(blk_cell BK7.out 3).trans rfl;have cgb7_4:=(blk_cell BK7.out 4).trans rfl;have cgb7_5:=(blk_cell BK7.out 5).trans rfl;have cgb7_6:=(blk_cell BK7.out 6).trans rfl;have cgb7_7:=(blk_cell BK7.out 7).trans rfl;have cgb7_8:=(blk_cell BK7.out 8).trans rfl;have cgb7_9:=(blk_cell BK7.out 9).trans rfl;have cgb7_10:=(blk_cell BK7.out 10).trans rfl;have cgb7_11:=(blk_cell BK7.out 11).trans rfl;have cgb7_12:=(blk_cell BK7.out 12).trans rfl;have cgb7_13:=(blk_cell BK7.out 13).trans rfl;have cgb5_0:=(blk_cell BK5.out 0).trans rfl;have cgb5_1:=(blk_cell BK5.out 1).trans rfl;have cgb5_2:=(blk_cell BK5.out 2).trans rfl;have cgb5_3:=(blk_cell BK5.out 3).trans rfl;have cgb5_4:=(blk_cell BK5.out 4).trans rfl;have cgb5_5:=(blk_cell BK5.out 5).trans rfl)|((with_reducible refine gate_dst (N:=8) rfl ?_);refine bx_ (N:=8) (cs:=#[.slice none 0 0]) (t:=35) ?_;intro gb8 hg w7 hbox hb;have NE5_8:=am_ (show gb5≠gb8 from by have:=blk_lt BK5.out;rw [hg];exact Nat.ne_of_lt this);have LT5_8:=am_ (show gb5<gb8 from by have:=blk_lt BK5.out;rw [hg];exact this);have NE7_8:=am_ (show gb7≠gb8 from by have:=blk_lt BK7.out;rw [hg];exact Nat.ne_of_lt this);have LT7_8:=am_ (show gb7<gb8 from by have:=blk_lt BK7.out;rw [hg];exact this);replace BK5:=am_ (blk_below BK5.out hb);replace BK7:=am_ (blk_below BK7.out hb);have BK8:=am_ (hbox);have GE8:=am_ ((by rw [hg];exact below_size HB.out:w.heap.size≤gb8));replace HB:=am_ (below_step HB.out hb);have EQ8:=am_ (hg);clear hb hbox hg;have cgb8_0:=(blk_cell BK8.out 0).trans rfl;clear cgb5_0 cgb5_1 cgb5_2 cgb5_3 cgb5_4 cgb5_5 cgb7_0 cgb7_1 cgb7_2 cgb7_3 cgb7_4 cgb7_5 cgb7_6 cgb7_7 cgb7_8 cgb7_9 cgb7_10 cgb7_11 cgb7_12 cgb7_13;have cgb7_13:=(blk_cell BK7.out 13).trans rfl;have cgb5_0:=(blk_cell BK5.out 0).trans rfl;have cgb5_1:=(blk_cell BK5.out 1).trans rfl;have cgb5_2:=(blk_cell BK5.out 2).trans rfl;have cgb5_3:=(blk_cell BK5.out 3).trans rfl;have cgb5_4:=(blk_cell BK5.out 4).trans rfl;have cgb5_5:=(blk_cell BK5.out 5).trans rfl)|((with_reducible refine gate_dst (N:=9) rfl ?_);refine bx_ (N:=9) (cs:=#[.bool false]) (t:=4) ?_;intro gb9 hg w8 hbox hb;have NE5_9:=am_ (show gb5≠gb9 from by have:=blk_lt BK5.out;rw [hg];exact Nat.ne_of_lt this);have LT5_9:=am_ (show gb5<gb9 from by have:=blk_lt BK5.out;rw [hg];exact this);have NE7_9:=am_ (show gb7≠gb9 from by have:=blk_lt BK7.out;rw [hg];exact Nat.ne_of_lt this);have LT7_9:=am_ (show gb7<gb9 from by have:=blk_lt BK7.out;rw [hg];exact this);have NE8_9:=am_ (show gb8≠gb9 from by have:=blk_lt BK8.out;rw [hg];exact Nat.ne_of_lt this);have LT8_9:=am_ (show gb8<gb9 from by have:=blk_lt BK8.out;rw [hg];exact this);replace BK5:=am_ (blk_below BK5.out hb);replace BK7:=am_ (blk_below BK7.out hb);replace BK8:=am_ (blk_below BK8.out hb);have BK9:=am_ (hbox);have GE9:=am_ ((by rw [hg];exact below_size HB.out:w.heap.size≤gb9));replace HB:=am_ (below_step HB.out hb);have EQ9:=am_ (hg);clear hb hbox hg;have cgb9_0:=(blk_cell BK9.out 0).trans rfl)|((with_reducible refine gate_store (t:=4) (p:=9) (v:= .tmp 24) rfl ?_);refine store_all BK9.out 4 (.tmp 9) (.tmp 24) rfl rfl rfl (.bool true) [.bool true] rfl rfl rfl (by kernel_rfl) rfl (by intro q hq;simp only [List.mem_cons,List.not_mem_nil,or_false] at hq;rcases hq with rfl<;>rfl) ?_;intro w9 hbk hg;clear cgb9_0;replace BK5:=am_ (blk_put_other BK5.out hg (NE5_9.out));replace BK7:=am_ (blk_put_other BK7.out hg (NE7_9.out));replace BK8:=am_ (blk_put_other BK8.out hg (NE8_9.out));replace HB:=am_ (below_put HB.out (below_size HB.out) hg GE9.out);replace BK9:=am_ (hbk);clear hbk hg)))
  have HRR:=am_ (show r=effL mk s1 true l0 from HRQ.out)
  obtain ⟨in0,hin0⟩: ∃b,b=true:=⟨_,rfl⟩
  rw [←hin0] at HRR BK9
  obtain ⟨b14,hb14⟩: ∃b,b=false:=⟨_,rfl⟩
  rw [←hb14] at BK7
  clear HRQ hin0 hb14
  rotate_left
  all_goals clear cgb8_0 cgb5_0 cgb5_1 cgb5_2 cgb5_3 cgb5_4 cgb5_5 cgb7_13
  all_goals (
    go_loopg [28] l0.length (fun kq v28 w'=> ∃(i:Nat) (acc:List S54) (u:Value) (inb:Bool),i≤l0.length∧l0.length - i≤kq∧v28= .int .i64 i∧Aside0 (r=acc++effL mk s1 inb (l0.drop i))∧Aside0 (acc.length≤2*i)∧Aside0 (Kd.R k54 54 w' (gb9+1) (fun _=>True) u acc)∧Aside0 (w'.heap[gb5]?=some (.cells #[.int .i64 s0, .string s1, .string s2, .int .i64 s3, .int .i64 s4, .int .i64 s5] 58 (0,0)))∧Aside0 (w'.heap[gb7]?=some (.cells #[.slice A l.length c, .string r2, .string r3, .int .i64 r4, .int .i64 r5, .int .i64 r6, .int .i64 r7, .int .i64 r8, .int .i64 r9, .int .i64 r10, .int .i64 r11, .int .i64 r12, .int .i64 r13, .bool b14] 142 (0,0)))∧Aside0 (w'.heap[gb8]?=some (.cells #[u] 35 (0,0)))∧Aside0 (w'.heap[gb9]?=some (.cells #[.bool inb] 4 (0,0)))∧Aside0 (Below w.heap.size w w'))
    case atStart=>exact ⟨0,[], .slice none 0 0,in0,Nat.zero_le _,Nat.le_refl _,(by first|rfl|(simp;done)|(simp [*];done)),⟨by rw [List.drop_zero,List.nil_append];exact HRR.out⟩,⟨Nat.le_refl _⟩,⟨Kd.R_nil _ _ _ _ _⟩,⟨by refine zk_ ?_;exact BK5.out⟩,⟨by refine zk_ ?_;exact BK7.out⟩,⟨by refine zk_ ?_;exact BK8.out⟩,⟨by refine zk_ ?_;exact BK9.out⟩,⟨zl0_ HB⟩⟩
    case round=>
      clear HRR BK5 BK7 BK8 BK9 HB
      obtain ⟨i,acc,u,inb,hi,hm,rfl,HE,HAC,HO,BK5,BK7,BK8,BK9,HB⟩:=hrel
      have HI:=Aside0.mk hi
      have HM:=Aside0.mk hm
      clear hi hm
      obtain ⟨Au,cu,eu⟩:=Kd.R_slice HO.out
      subst eu
      by_cases c1:i<l0.length
      · have c1b : decide ((i : Int) < (l0.length : Int)) = true := decide_eq_true (by omega)
        have hrd:(rd_T54 l0 (i:Int))=l0[i]:=by
          show l0.getD (i:Int).toNat _=_
          rw [Int.toNat_natCast,List.getD_eq_getElem?_getD,List.getElem?_eq_getElem c1,Option.getD_some]
        have hdr:=HE.out
        rw [List.drop_eq_getElem_cons c1,←hrd] at hdr
        unfold effL at hdr
        have HE:=Aside0.mk hdr
        have HC:=Aside0.mk c1
        have ei:wrap64 ((i:Int)+1)=((i+1:Nat):Int):=by have:=HL.out;rw [show wrap64 ((i:Int)+1)=(i:Int)+1 from by unfold wrap64;omega];rfl
        have p6:0≤((i:Nat):Int):=by omega
        have q6:((i:Nat):Int)<(l0.length:Int):=by omega
        clear hrd hdr c1
        obtain ⟨ad,e6,k0,k1_,k2,k3,k4,k5⟩:=at_T54 HR0.out (i:Int) p6 q6
        cases e6
        have k0:=zx_ HB k0
        have k1_:=zx_ HB k1_
        have k2:=zx_ HB k2
        have k3:=zx_ HB k3
        have k4:=zx_ HB k4
        have k5:=zx_ HB k5
        simp only [Int.toNat_natCast] at k0 k1_ k2 k3 k4 k5
        replace p6:=eq_true p6
        replace q6:=eq_true q6
        cases inb with
        | true =>
          by_cases c2:(rd_T54 l0 (i:Int)).f0.toList=s1.toList
          · have c2b : ((rd_T54 l0 (i : Int)).f0.toList != s1.toList) = false := bne_eq_false_iff_eq.mpr c2
            have c2a:((rd_T54 l0 (i:Int)).f0.toList==s1.toList)=true:=beq_iff_eq.mpr c2
            have HR2:=am_ (show r=acc++effL mk s1 true (l0.drop (i+1)) from by rw [HE.out,if_neg (show¬(true=false∧Op.bytesLess (rd_T54 l0 (i:Int)).f0.toList s1.toList=false) from fun q=>nomatch q.1),if_neg (show¬(true=false∧Op.bytesLess (rd_T54 l0 (i:Int)).f0.toList s1.toList=false) from fun q=>nomatch q.1),if_pos c2];simp only [List.nil_append,List.append_assoc])
            clear HE c2
            go_wp2_with (first|((with_reducible refine gate_dst (N:=12) rfl ?_);refine bx_ (N:=12) (cs:=#[.string ⟨#[]⟩, .string ⟨#[]⟩, .int .i64 0, .int .i64 0, .int .i64 0, .int .i64 0]) (t:=54) ?_;intro gb12 hg w10 hbox hb;have NE5_12:=am_ (show gb5≠gb12 from by have:=blk_lt BK5.out;rw [hg];exact Nat.ne_of_lt this);have LT5_12:=am_ (show gb5<gb12 from by have:=blk_lt BK5.out;rw [hg];exact this);have NE7_12:=am_ (show gb7≠gb12 from by have:=blk_lt BK7.out;rw [hg];exact Nat.ne_of_lt this);have LT7_12:=am_ (show gb7<gb12 from by have:=blk_lt BK7.out;rw [hg];exact this);have NE8_12:=am_ (show gb8≠gb12 from by have:=blk_lt BK8.out;rw [hg];exact Nat.ne_of_lt this);have LT8_12:=am_ (show gb8<gb12 from by have:=blk_lt BK8.out;rw [hg];exact this);have NE9_12:=am_ (show gb9≠gb12 from by have:=blk_lt BK9.out;rw [hg];exact Nat.ne_of_lt this);have LT9_12:=am_ (show gb9<gb12 from by have:=blk_lt BK9.out;rw [hg];exact this);have HOn:=am_ (show Kd.R k54 54 w10 (gb9+1) (fun k=>k<gb12) _ acc from by rw [hg];exact Kd.R_below (eff_old HO.out) hb);clear HO;have HO:=HOn;clear HOn;replace BK5:=am_ (blk_below BK5.out hb);replace BK7:=am_ (blk_below BK7.out hb);replace BK8:=am_ (blk_below BK8.out hb);replace BK9:=am_ (blk_below BK9.out hb);have BK12:=am_ (hbox);have GE12:=am_ ((by rw [hg];exact below_size HB.out:w.heap.size≤gb12));replace HB:=am_ (below_step HB.out hb);have EQ12:=am_ (hg);clear hb hbox hg;have cgb12_0:=(blk_cell BK12.out 0).trans rfl;have cgb12_1:=(blk_cell BK12.out 1).trans rfl;have cgb12_2:=(blk_cell BK12.out 2).trans rfl;have cgb12_3:=(blk_cell BK12.out 3).trans rfl;have cgb12_4:=(blk_cell BK12.out 4).trans rfl;have cgb12_5:=(blk_cell BK12.out 5).trans rfl)|((with_reducible refine gate_store (t:=54) (p:=12) (v:= .tmp 31) rfl ?_);refine store_all BK12.out 54 (.tmp 12) (.tmp 31) rfl rfl rfl (.agg #[.string (rd_T54 l0 (i:Int)).f0, .string (rd_T54 l0 (i:Int)).f1, .int .i64 (rd_T54 l0 (i:Int)).f2.f0, .int .i64 (rd_T54 l0 (i:Int)).f2.f1, .int .i64 (rd_T54 l0 (i:Int)).f2.f2, .int .i64 (rd_T54 l0 (i:Int)).f3]) [.string (rd_T54 l0 (i:Int)).f0, .string (rd_T54 l0 (i:Int)).f1, .int .i64 (rd_T54 l0 (i:Int)).f2.f0, .int .i64 (rd_T54 l0 (i:Int)).f2.f1, .int .i64 (rd_T54 l0 (i:Int)).f2.f2, .int .i64 (rd_T54 l0 (i:Int)).f3] rfl rfl rfl (by kernel_rfl) rfl (by intro q hq;simp only [List.mem_cons,List.not_mem_nil,or_false] at hq;rcases hq with rfl|rfl|rfl|rfl|rfl|rfl<;>rfl) ?_;intro w11 hbk hg;clear cgb12_0 cgb12_1 cgb12_2 cgb12_3 cgb12_4 cgb12_5;have HOn:=am_ (eff_put_old HO.out hg);clear HO;have HO:=HOn;clear HOn;replace BK5:=am_ (blk_put_other BK5.out hg (NE5_12.out));replace BK7:=am_ (blk_put_other BK7.out hg (NE7_12.out));replace BK8:=am_ (blk_put_other BK8.out hg (NE8_12.out));replace BK9:=am_ (blk_put_other BK9.out hg (NE9_12.out));replace HB:=am_ (below_put HB.out (below_size HB.out) hg GE12.out);replace BK12:=am_ (hbk);clear hbk hg;have cgb12_0:=(blk_cell BK12.out 0).trans rfl;have cgb12_1:=(blk_cell BK12.out 1).trans rfl;have cgb12_2:=(blk_cell BK12.out 2).trans rfl;have cgb12_3:=(blk_cell BK12.out 3).trans rfl;have cgb12_4:=(blk_cell BK12.out 4).trans rfl;have cgb12_5:=(blk_cell BK12.out 5).trans rfl;have cgb5_1:=(blk_cell BK5.out 1).trans rfl;have cgb8_0:=(blk_cell BK8.out 0).trans rfl;have cgb9_0:=(blk_cell BK9.out 0).trans rfl)|((with_reducible refine gate_builtin (b:= .append) (xs:=#[.tmp 48, .tmp 50]) rfl ?_);at_builtin;refine Kd.R_append k54 (w0:=w11) (gb9+1) rfl (.tmp 48) (.tmp 50) 35 54 (.agg #[(.string ⟨#[]⟩),(.string ⟨#[]⟩),(.int .i64 0),(.int .i64 0),(.int .i64 0),(.int .i64 0)]) 64 rfl Try.underlying35 info54 rfl (by decide) (by omega) _ acc (rd_T54 l0 (i:Int)) [.string (rd_T54 l0 (i:Int)).f0, .string (rd_T54 l0 (i:Int)).f1, .int .i64 (rd_T54 l0 (i:Int)).f2.f0, .int .i64 (rd_T54 l0 (i:Int)).f2.f1, .int .i64 (rd_T54 l0 (i:Int)).f2.f2, .int .i64 (rd_T54 l0 (i:Int)).f3] (fun _=>True) (fun _=>False) rfl (by first|(go_simp;done)|(go_simp;rfl)) ?aP (fun _ hk=>hk.elim) ?aF ?aO ?aB ?aS ?aL ?_;(case aP=>exact k54_mkM _ _ _ (rd_T54 l0 (i:Int)));(case aF=>exact fun _ _=>trivial);(case aO=>exact Kd.R_mono HO.out (fun _ _=>trivial));(case aB=>exact Below.refl _ _);(case aS=>exact Nat.succ_le_of_lt (blk_lt BK9.out));(case aL=>have:=HAC.out;have:=HI.out;have:=HL.out;(try simp only [List.length_append,List.length_singleton]);omega);intro v5 w13 ho hb hg hat;have HG8:=Aside0.mk hg;have ne5:some gb5≠_:=Kd.R_ne HO.out BK5.out (by decide);have ne7:some gb7≠_:=Kd.R_ne HO.out BK7.out (by decide);have ne8:some gb8≠_:=Kd.R_ne HO.out BK8.out (by decide);have ne9:some gb9≠_:=Kd.R_ne HO.out BK9.out (by decide);have n0_:=am_ (blk_grown BK5.out hg ne5);have n1_:=am_ (blk_grown BK7.out hg ne7);have n2_:=am_ (blk_grown BK8.out hg ne8);have n3_:=am_ (blk_grown BK9.out hg ne9);have n4_:=Aside0.mk ho;have n5_:=am_ (pw_below_grown HB.out _ (below_size HB.out) hg (fun k e=>by have:=(eff_own HO.out k e).1;have:=GE8.out;have:=LT8_9.out;omega));clear BK5 BK7 BK8 BK9 BK12 HO HB;have BK5:=n0_;have BK7:=n1_;have BK8:=n2_;have BK9:=n3_;have HO:=n4_;have HB:=n5_;clear n0_ n1_ n2_ n3_ n4_ n5_ ho hb hg hat ne5 ne7 ne8 ne9;obtain ⟨Ao,co_,eo⟩:=Kd.R_slice HO.out;subst eo)|((with_reducible refine gate_store (t:=35) (p:=8) (v:= .tmp 51) rfl ?_);refine store_all BK8.out 35 (.tmp 8) (.tmp 51) rfl rfl rfl _ [_] rfl rfl rfl (by kernel_rfl) rfl (by intro q hq;simp only [List.mem_cons,List.not_mem_nil,or_false] at hq;rcases hq with rfl;rfl) ?_;intro w14 hbk hg;have n0_:=am_ (blk_put_other BK5.out hg (by have:=LT5_8.out;omega));have n1_:=am_ (blk_put_other BK7.out hg (by have:=LT7_8.out;omega));have n2_:=am_ (blk_put_other BK9.out hg (by have:=LT8_9.out;omega));have n3_:=am_ (R_put HO.out BK8.out (by decide) hg);have n4_:=am_ (below_put HB.out (below_size HB.out) hg GE8.out);have n5_:=Aside0.mk hbk;clear BK5 BK7 BK8 BK9 HO HB hbk hg;have BK5:=n0_;have BK7:=n1_;have BK9:=n2_;have HO:=n3_;have HB:=n4_;have BK8:=n5_;clear n0_ n1_ n2_ n3_ n4_ n5_))
            go_roundg (l0.length - (i+1))
            case measure=>have:=HM.out;have:=HC.out;omega
            case rel=>exact ⟨i+1,_,_,_,(by have:=HC.out;omega),Nat.le_refl _,(by first|rfl|(rw [ei];done)|(simp [ei];done)|(simp [*];done)),HR2,⟨by have:=HAC.out;(try simp only [List.length_append,List.length_singleton]);omega⟩,⟨Kd.R_mono HO.out (fun _ _=>trivial)⟩,BK5,BK7,BK8,BK9,HB⟩
          · have c2b : ((rd_T54 l0 (i : Int)).f0.toList != s1.toList) = true := bne_iff_ne.mpr c2
            have c2a:((rd_T54 l0 (i:Int)).f0.toList==s1.toList)=false:=beq_eq_false_iff_ne.mpr c2
            have HR2:=am_ (show r=(acc++ [(rd_T54 l0 (i:Int))])++effL mk s1 true (l0.drop (i+1)) from by rw [HE.out,if_neg (show¬(true=false∧Op.bytesLess (rd_T54 l0 (i:Int)).f0.toList s1.toList=false) from fun q=>nomatch q.1),if_neg (show¬(true=false∧Op.bytesLess (rd_T54 l0 (i:Int)).f0.toList s1.toList=false) from fun q=>nomatch q.1),if_neg c2];simp only [List.nil_append,List.append_assoc])
            clear HE c2
            go_wp2_with (first|((with_reducible refine gate_dst (N:=12) rfl ?_);refine bx_ (N:=12) (cs:=#[.string ⟨#[]⟩, .string ⟨#[]⟩, .int .i64 0, .int .i64 0, .int .i64 0, .int .i64 0]) (t:=54) ?_;intro gb12 hg w10 hbox hb;have NE5_12:=am_ (show gb5≠gb12 from by have:=blk_lt BK5.out;rw [hg];exact Nat.ne_of_lt this);have LT5_12:=am_ (show gb5<gb12 from by have:=blk_lt BK5.out;rw [hg];exact this);have NE7_12:=am_ (show gb7≠gb12 from by have:=blk_lt BK7.out;rw [hg];exact Nat.ne_of_lt this);have LT7_12:=am_ (show gb7<gb12 from by have:=blk_lt BK7.out;rw [hg];exact this);have NE8_12:=am_ (show gb8≠gb12 from by have:=blk_lt BK8.out;rw [hg];exact Nat.ne_of_lt this);have LT8_12:=am_ (show gb8<gb12 from by have:=blk_lt BK8.out;rw [hg];exact this);have NE9_12:=am_ (show gb9≠gb12 from by have:=blk_lt BK9.out;rw [hg];exact Nat.ne_of_lt this);have LT9_12:=am_ (show gb9<gb12 from by have:=blk_lt BK9.out;rw [hg];exact this);have HOn:=am_ (show Kd.R k54 54 w10 (gb9+1) (fun k=>k<gb12) _ acc from by rw [hg];exact Kd.R_below (eff_old HO.out) hb);clear HO;have HO:=HOn;clear HOn;replace BK5:=am_ (blk_below BK5.out hb);replace BK7:=am_ (blk_below BK7.out hb);replace BK8:=am_ (blk_below BK8.out hb);replace BK9:=am_ (blk_below BK9.out hb);have BK12:=am_ (hbox);have GE12:=am_ ((by rw [hg];exact below_size HB.out:w.heap.size≤gb12));replace HB:=am_ (below_step HB.out hb);have EQ12:=am_ (hg);clear hb hbox hg;have cgb12_0:=(blk_cell BK12.out 0).trans rfl;have cgb12_1:=(blk_cell BK12.out 1).trans rfl;have cgb12_2:=(blk_cell BK12.out 2).trans rfl;have cgb12_3:=(blk_cell BK12.out 3).trans rfl;have cgb12_4:=(blk_cell BK12.out 4).trans rfl;have cgb12_5:=(blk_cell BK12.out 5).trans rfl)|((with_reducible refine gate_store (t:=54) (p:=12) (v:= .tmp 31) rfl ?_);refine store_all BK12.out 54 (.tmp 12) (.tmp 31) rfl rfl rfl (.agg #[.string (rd_T54 l0 (i:Int)).f0, .string (rd_T54 l0 (i:Int)).f1, .int .i64 (rd_T54 l0 (i:Int)).f2.f0, .int .i64 (rd_T54 l0 (i:Int)).f2.f1, .int .i64 (rd_T54 l0 (i:Int)).f2.f2, .int .i64 (rd_T54 l0 (i:Int)).f3]) [.string (rd_T54 l0 (i:Int)).f0, .string (rd_T54 l0 (i:Int)).f1, .int .i64 (rd_T54 l0 (i:Int)).f2.f0, .int .i64 (rd_T54 l0 (i:Int)).f2.f1, .int .i64 (rd_T54 l0 (i:Int)).f2.f2, .int .i64 (rd_T54 l0 (i:Int)).f3] rfl rfl rfl (by kernel_rfl) rfl (by intro q hq;simp only [List.mem_cons,List.not_mem_nil,or_false] at hq;rcases hq with rfl|rfl|rfl|rfl|rfl|rfl<;>rfl) ?_;intro w11 hbk hg;clear cgb12_0 cgb12_1 cgb12_2 cgb12_3 cgb12_4 cgb12_5;have HOn:=am_ (eff_put_old HO.out hg);clear HO;have HO:=HOn;clear HOn;replace BK5:=am_ (blk_put_other BK5.out hg (NE5_12.out));replace BK7:=am_ (blk_put_other BK7.out hg (NE7_12.out));replace BK8:=am_ (blk_put_other BK8.out hg (NE8_12.out));replace BK9:=am_ (blk_put_other BK9.out hg (NE9_12.out));replace HB:=am_ (below_put HB.out (below_size HB.out) hg GE12.out);replace BK12:=am_ (hbk);clear hbk hg;have cgb12_0:=(blk_cell BK12.out 0).trans rfl;have cgb12_1:=(blk_cell BK12.out 1).trans rfl;have cgb12_2:=(blk_cell BK12.out 2).trans rfl;have cgb12_3:=(blk_cell BK12.out 3).trans rfl;have cgb12_4:=(blk_cell BK12.out 4).trans rfl;have cgb12_5:=(blk_cell BK12.out 5).trans rfl;have cgb5_1:=(blk_cell BK5.out 1).trans rfl;have cgb8_0:=(blk_cell BK8.out 0).trans rfl;have cgb9_0:=(blk_cell BK9.out 0).trans rfl)|((with_reducible refine gate_builtin (b:= .append) (xs:=#[.tmp 48, .tmp 50]) rfl ?_);at_builtin;refine Kd.R_append k54 (w0:=w11) (gb9+1) rfl (.tmp 48) (.tmp 50) 35 54 (.agg #[(.string ⟨#[]⟩),(.string ⟨#[]⟩),(.int .i64 0),(.int .i64 0),(.int .i64 0),(.int .i64 0)]) 64 rfl Try.underlying35 info54 rfl (by decide) (by omega) _ acc (rd_T54 l0 (i:Int)) [.string (rd_T54 l0 (i:Int)).f0, .string (rd_T54 l0 (i:Int)).f1, .int .i64 (rd_T54 l0 (i:Int)).f2.f0, .int .i64 (rd_T54 l0 (i:Int)).f2.f1, .int .i64 (rd_T54 l0 (i:Int)).f2.f2, .int .i64 (rd_T54 l0 (i:Int)).f3] (fun _=>True) (fun _=>False) rfl (by first|(go_simp;done)|(go_simp;rfl)) ?aP (fun _ hk=>hk.elim) ?aF ?aO ?aB ?aS ?aL ?_;(case aP=>exact k54_mkM _ _ _ (rd_T54 l0 (i:Int)));(case aF=>exact fun _ _=>trivial);(case aO=>exact Kd.R_mono HO.out (fun _ _=>trivial));(case aB=>exact Below.refl _ _);(case aS=>exact Nat.succ_le_of_lt (blk_lt BK9.out));(case aL=>have:=HAC.out;have:=HI.out;have:=HL.out;(try simp only [List.length_append,List.length_singleton]);omega);intro v5 w13 ho hb hg hat;have HG8:=Aside0.mk hg;have ne5:some gb5≠_:=Kd.R_ne HO.out BK5.out (by decide);have ne7:some gb7≠_:=Kd.R_ne HO.out BK7.out (by decide);have ne8:some gb8≠_:=Kd.R_ne HO.out BK8.out (by decide);have ne9:some gb9≠_:=Kd.R_ne HO.out BK9.out (by decide);have n0_:=am_ (blk_grown BK5.out hg ne5);have n1_:=am_ (blk_grown BK7.out hg ne7);have n2_:=am_ (blk_grown BK8.out hg ne8);have n3_:=am_ (blk_grown BK9.out hg ne9);have n4_:=Aside0.mk ho;have n5_:=am_ (pw_below_grown HB.out _ (below_size HB.out) hg (fun k e=>by have:=(eff_own HO.out k e).1;have:=GE8.out;have:=LT8_9.out;omega));clear BK5 BK7 BK8 BK9 BK12 HO HB;have BK5:=n0_;have BK7:=n1_;have BK8:=n2_;have BK9:=n3_;have HO:=n4_;have HB:=n5_;clear n0_ n1_ n2_ n3_ n4_ n5_ ho hb hg hat ne5 ne7 ne8 ne9;obtain ⟨Ao,co_,eo⟩:=Kd.R_slice HO.out;subst eo)|((with_reducible refine gate_store (t:=35) (p:=8) (v:= .tmp 51) rfl ?_);refine store_all BK8.out 35 (.tmp 8) (.tmp 51) rfl rfl rfl _ [_] rfl rfl rfl (by kernel_rfl) rfl (by intro q hq;simp only [List.mem_cons,List.not_mem_nil,or_false] at hq;rcases hq with rfl;rfl) ?_;intro w14 hbk hg;have n0_:=am_ (blk_put_other BK5.out hg (by have:=LT5_8.out;omega));have n1_:=am_ (blk_put_other BK7.out hg (by have:=LT7_8.out;omega));have n2_:=am_ (blk_put_other BK9.out hg (by have:=LT8_9.out;omega));have n3_:=am_ (R_put HO.out BK8.out (by decide) hg);have n4_:=am_ (below_put HB.out (below_size HB.out) hg GE8.out);have n5_:=Aside0.mk hbk;clear BK5 BK7 BK8 BK9 HO HB hbk hg;have BK5:=n0_;have BK7:=n1_;have BK9:=n2_;have HO:=n3_;have HB:=n4_;have BK8:=n5_;clear n0_ n1_ n2_ n3_ n4_ n5_))
            go_roundg (l0.length - (i+1))
            case measure=>have:=HM.out;have:=HC.out;omega
            case rel=>exact ⟨i+1,_,_,_,(by have:=HC.out;omega),Nat.le_refl _,(by first|rfl|(rw [ei];done)|(simp [ei];done)|(simp [*];done)),HR2,⟨by have:=HAC.out;(try simp only [List.length_append,List.length_singleton]);omega⟩,⟨Kd.R_mono HO.out (fun _ _=>trivial)⟩,BK5,BK7,BK8,BK9,HB⟩
        | false =>
          by_cases cl:Op.bytesLess (rd_T54 l0 (i:Int)).f0.toList s1.toList=false
          · skip
            by_cases c2:(rd_T54 l0 (i:Int)).f0.toList=s1.toList
            · have c2b : ((rd_T54 l0 (i : Int)).f0.toList != s1.toList) = false := bne_eq_false_iff_eq.mpr c2
              have c2a:((rd_T54 l0 (i:Int)).f0.toList==s1.toList)=true:=beq_iff_eq.mpr c2
              have HR2:=am_ (show r=(acc++ [mk])++effL mk s1 true (l0.drop (i+1)) from by rw [HE.out,if_pos (show false=false∧Op.bytesLess (rd_T54 l0 (i:Int)).f0.toList s1.toList=false from ⟨rfl,cl⟩),if_pos (show false=false∧Op.bytesLess (rd_T54 l0 (i:Int)).f0.toList s1.toList=false from ⟨rfl,cl⟩),if_pos c2];simp only [List.nil_append,List.append_assoc])
              clear HE c2
              go_wp2_with (first|((with_reducible refine gate_dst (N:=12) rfl ?_);refine bx_ (N:=12) (cs:=#[.string ⟨#[]⟩, .string ⟨#[]⟩, .int .i64 0, .int .i64 0, .int .i64 0, .int .i64 0]) (t:=54) ?_;intro gb12 hg w10 hbox hb;have NE5_12:=am_ (show gb5≠gb12 from by have:=blk_lt BK5.out;rw [hg];exact Nat.ne_of_lt this);have LT5_12:=am_ (show gb5<gb12 from by have:=blk_lt BK5.out;rw [hg];exact this);have NE7_12:=am_ (show gb7≠gb12 from by have:=blk_lt BK7.out;rw [hg];exact Nat.ne_of_lt this);have LT7_12:=am_ (show gb7<gb12 from by have:=blk_lt BK7.out;rw [hg];exact this);have NE8_12:=am_ (show gb8≠gb12 from by have:=blk_lt BK8.out;rw [hg];exact Nat.ne_of_lt this);have LT8_12:=am_ (show gb8<gb12 from by have:=blk_lt BK8.out;rw [hg];exact this);have NE9_12:=am_ (show gb9≠gb12 from by have:=blk_lt BK9.out;rw [hg];exact Nat.ne_of_lt this);have LT9_12:=am_ (show gb9<gb12 from by have:=blk_lt BK9.out;rw [hg];exact this);have HOn:=am_ (show Kd.R k54 54 w10 (gb9+1) (fun k=>k<gb12) _ acc from by rw [hg];exact Kd.R_below (eff_old HO.out) hb);clear HO;have HO:=HOn;clear HOn;replace BK5:=am_ (blk_below BK5.out hb);replace BK7:=am_ (blk_below BK7.out hb);replace BK8:=am_ (blk_below BK8.out hb);replace BK9:=am_ (blk_below BK9.out hb);have BK12:=am_ (hbox);have GE12:=am_ ((by rw [hg];exact below_size HB.out:w.heap.size≤gb12));replace HB:=am_ (below_step HB.out hb);have EQ12:=am_ (hg);clear hb hbox hg;have cgb12_0:=(blk_cell BK12.out 0).trans rfl;have cgb12_1:=(blk_cell BK12.out 1).trans rfl;have cgb12_2:=(blk_cell BK12.out 2).trans rfl;have cgb12_3:=(blk_cell BK12.out 3).trans rfl;have cgb12_4:=(blk_cell BK12.out 4).trans rfl;have cgb12_5:=(blk_cell BK12.out 5).trans rfl)|((with_reducible refine gate_store (t:=54) (p:=12) (v:= .tmp 31) rfl ?_);refine store_all BK12.out 54 (.tmp 12) (.tmp 31) rfl rfl rfl (.agg #[.string (rd_T54 l0 (i:Int)).f0, .string (rd_T54 l0 (i:Int)).f1, .int .i64 (rd_T54 l0 (i:Int)).f2.f0, .int .i64 (rd_T54 l0 (i:Int)).f2.f1, .int .i64 (rd_T54 l0 (i:Int)).f2.f2, .int .i64 (rd_T54 l0 (i:Int)).f3]) [.string (rd_T54 l0 (i:Int)).f0, .string (rd_T54 l0 (i:Int)).f1, .int .i64 (rd_T54 l0 (i:Int)).f2.f0, .int .i64 (rd_T54 l0 (i:Int)).f2.f1, .int .i64 (rd_T54 l0 (i:Int)).f2.f2, .int .i64 (rd_T54 l0 (i:Int)).f3] rfl rfl rfl (by kernel_rfl) rfl (by intro q hq;simp only [List.mem_cons,List.not_mem_nil,or_false] at hq;rcases hq with rfl|rfl|rfl|rfl|rfl|rfl<;>rfl) ?_;intro w11 hbk hg;clear cgb12_0 cgb12_1 cgb12_2 cgb12_3 cgb12_4 cgb12_5;have HOn:=am_ (eff_put_old HO.out hg);clear HO;have HO:=HOn;clear HOn;replace BK5:=am_ (blk_put_other BK5.out hg (NE5_12.out));replace BK7:=am_ (blk_put_other BK7.out hg (NE7_12.out));replace BK8:=am_ (blk_put_other BK8.out hg (NE8_12.out));replace BK9:=am_ (blk_put_other BK9.out hg (NE9_12.out));replace HB:=am_ (below_put HB.out (below_size HB.out) hg GE12.out);replace BK12:=am_ (hbk);clear hbk hg;have cgb12_0:=(blk_cell BK12.out 0).trans rfl;have cgb12_1:=(blk_cell BK12.out 1).trans rfl;have cgb12_2:=(blk_cell BK12.out 2).trans rfl;have cgb12_3:=(blk_cell BK12.out 3).trans rfl;have cgb12_4:=(blk_cell BK12.out 4).trans rfl;have cgb12_5:=(blk_cell BK12.out 5).trans rfl;have cgb5_1:=(blk_cell BK5.out 1).trans rfl;have cgb8_0:=(blk_cell BK8.out 0).trans rfl;have cgb9_0:=(blk_cell BK9.out 0).trans rfl))
              refine (effPut_calls _ w.heap.size gb8 gb5 gb7 gb9 (gb9+1) l.length A c _ false acc s0 s3 s4 s5 s1 s2 r2 r3 r4 r5 r6 r7 r8 r9 r10 r11 r12 r13 b14 BK8.out BK5.out BK7.out BK9.out (by have:=GE8.out;omega) LT8_9.out (Nat.lt_succ_self _) (Nat.succ_le_of_lt (blk_lt BK9.out)) (Kd.R_mono HO.out (fun _ _=>trivial)) (by have:=HAC.out;have:=HI.out;have:=HL.out;omega)).mono ?_
              rintro e w12 ⟨rfl,v2,hbo,hbi,ho,hk,hb⟩
              rw [←HMK.out] at ho
              have n0_:=am_ ((hk.2 gb5 (blk_lt BK5.out) (by have:=LT5_8.out;omega) (by have:=LT5_9.out;omega) (Kd.R_ne HO.out BK5.out (by decide))).trans BK5.out)
              have n1_:=am_ ((hk.2 gb7 (blk_lt BK7.out) (by have:=LT7_8.out;omega) (by have:=LT7_9.out;omega) (Kd.R_ne HO.out BK7.out (by decide))).trans BK7.out)
              have n2_:=am_ ((hk.2 gb12 (blk_lt BK12.out) (by have:=LT8_12.out;omega) (by have:=LT9_12.out;omega) (eff_ne_old HO.out)).trans BK12.out)
              have n3_:=am_ (HB.out.trans hb)
              clear cgb5_1 cgb8_0 cgb9_0 cgb12_0 cgb12_1 cgb12_2 cgb12_3 cgb12_4 cgb12_5 BK5 BK7 BK8 BK9 BK12 HB HO
              have BK5:=n0_
              have BK7:=n1_
              have BK12:=n2_
              have HB:=n3_
              have BK8:=Aside0.mk hbo
              have BK9:=Aside0.mk hbi
              have HO:=Aside0.mk ho
              clear n0_ n1_ n2_ n3_ hbo hbi ho hk hb
              obtain ⟨Ap_,cp_,ep_⟩:=Kd.R_slice HO.out
              subst ep_
              simp only [List.length_append,List.length_cons,List.length_nil,Nat.zero_add] at HO BK8
              have cgb5_1:=(blk_cell BK5.out 1).trans rfl
              have cgb8_0:=(blk_cell BK8.out 0).trans rfl
              have cgb9_0:=(blk_cell BK9.out 0).trans rfl
              have cgb12_0:=(blk_cell BK12.out 0).trans rfl
              have cgb12_1:=(blk_cell BK12.out 1).trans rfl
              have cgb12_2:=(blk_cell BK12.out 2).trans rfl
              have cgb12_3:=(blk_cell BK12.out 3).trans rfl
              have cgb12_4:=(blk_cell BK12.out 4).trans rfl
              have cgb12_5:=(blk_cell BK12.out 5).trans rfl
              go_wp2_with (first|((with_reducible refine gate_builtin (b:= .append) (xs:=#[.tmp 48, .tmp 50]) rfl ?_);at_builtin;refine Kd.R_append k54 (w0:=w12) (gb9+1) rfl (.tmp 48) (.tmp 50) 35 54 (.agg #[(.string ⟨#[]⟩),(.string ⟨#[]⟩),(.int .i64 0),(.int .i64 0),(.int .i64 0),(.int .i64 0)]) 64 rfl Try.underlying35 info54 rfl (by decide) (by omega) _ (acc++ [mk]) (rd_T54 l0 (i:Int)) [.string (rd_T54 l0 (i:Int)).f0, .string (rd_T54 l0 (i:Int)).f1, .int .i64 (rd_T54 l0 (i:Int)).f2.f0, .int .i64 (rd_T54 l0 (i:Int)).f2.f1, .int .i64 (rd_T54 l0 (i:Int)).f2.f2, .int .i64 (rd_T54 l0 (i:Int)).f3] (fun _=>True) (fun _=>False) rfl (by first|(go_simp;done)|(go_simp;rfl)) ?aP (fun _ hk=>hk.elim) ?aF ?aO ?aB ?aS ?aL ?_;(case aP=>exact k54_mkM _ _ _ (rd_T54 l0 (i:Int)));(case aF=>exact fun _ _=>trivial);(case aO=>exact Kd.R_mono HO.out (fun _ _=>trivial));(case aB=>exact Below.refl _ _);(case aS=>exact Nat.succ_le_of_lt (blk_lt BK9.out));(case aL=>have:=HAC.out;have:=HI.out;have:=HL.out;(try simp only [List.length_append,List.length_singleton]);omega);intro v5 w13 ho hb hg hat;have HG8:=Aside0.mk hg;have ne5:some gb5≠_:=Kd.R_ne HO.out BK5.out (by decide);have ne7:some gb7≠_:=Kd.R_ne HO.out BK7.out (by decide);have ne8:some gb8≠_:=Kd.R_ne HO.out BK8.out (by decide);have ne9:some gb9≠_:=Kd.R_ne HO.out BK9.out (by decide);have n0_:=am_ (blk_grown BK5.out hg ne5);have n1_:=am_ (blk_grown BK7.out hg ne7);have n2_:=am_ (blk_grown BK8.out hg ne8);have n3_:=am_ (blk_grown BK9.out hg ne9);have n4_:=Aside0.mk ho;have n5_:=am_ (pw_below_grown HB.out _ (below_size HB.out) hg (fun k e=>by have:=(eff_own HO.out k e).1;have:=GE8.out;have:=LT8_9.out;omega));clear BK5 BK7 BK8 BK9 BK12 HO HB;have BK5:=n0_;have BK7:=n1_;have BK8:=n2_;have BK9:=n3_;have HO:=n4_;have HB:=n5_;clear n0_ n1_ n2_ n3_ n4_ n5_ ho hb hg hat ne5 ne7 ne8 ne9;obtain ⟨Ao,co_,eo⟩:=Kd.R_slice HO.out;subst eo)|((with_reducible refine gate_store (t:=35) (p:=8) (v:= .tmp 51) rfl ?_);refine store_all BK8.out 35 (.tmp 8) (.tmp 51) rfl rfl rfl _ [_] rfl rfl rfl (by kernel_rfl) rfl (by intro q hq;simp only [List.mem_cons,List.not_mem_nil,or_false] at hq;rcases hq with rfl;rfl) ?_;intro w14 hbk hg;have n0_:=am_ (blk_put_other BK5.out hg (by have:=LT5_8.out;omega));have n1_:=am_ (blk_put_other BK7.out hg (by have:=LT7_8.out;omega));have n2_:=am_ (blk_put_other BK9.out hg (by have:=LT8_9.out;omega));have n3_:=am_ (R_put HO.out BK8.out (by decide) hg);have n4_:=am_ (below_put HB.out (below_size HB.out) hg GE8.out);have n5_:=Aside0.mk hbk;clear BK5 BK7 BK8 BK9 HO HB hbk hg;have BK5:=n0_;have BK7:=n1_;have BK9:=n2_;have HO:=n3_;have HB:=n4_;have BK8:=n5_;clear n0_ n1_ n2_ n3_ n4_ n5_))
              go_roundg (l0.length - (i+1))
              case measure=>have:=HM.out;have:=HC.out;omega
              case rel=>exact ⟨i+1,_,_,_,(by have:=HC.out;omega),Nat.le_refl _,(by first|rfl|(rw [ei];done)|(simp [ei];done)|(simp [*];done)),HR2,⟨by have:=HAC.out;(try simp only [List.length_append,List.length_singleton]);omega⟩,⟨Kd.R_mono HO.out (fun _ _=>trivial)⟩,BK5,BK7,BK8,BK9,HB⟩
            · have c2b : ((rd_T54 l0 (i : Int)).f0.toList != s1.toList) = true := bne_iff_ne.mpr c2
              have c2a:((rd_T54 l0 (i:Int)).f0.toList==s1.toList)=false:=beq_eq_false_iff_ne.mpr c2
              have HR2:=am_ (show r=((acc++ [mk])++ [(rd_T54 l0 (i:Int))])++effL mk s1 true (l0.drop (i+1)) from by rw [HE.out,if_pos (show false=false∧Op.bytesLess (rd_T54 l0 (i:Int)).f0.toList s1.toList=false from ⟨rfl,cl⟩),if_pos (show false=false∧Op.bytesLess (rd_T54 l0 (i:Int)).f0.toList s1.toList=false from ⟨rfl,cl⟩),if_neg c2];simp only [List.nil_append,List.append_assoc])
              clear HE c2
              go_wp2_with (first|((with_reducible refine gate_dst (N:=12) rfl ?_);refine bx_ (N:=12) (cs:=#[.string ⟨#[]⟩, .string ⟨#[]⟩, .int .i64 0, .int .i64 0, .int .i64 0, .int .i64 0]) (t:=54) ?_;intro gb12 hg w10 hbox hb;have NE5_12:=am_ (show gb5≠gb12 from by have:=blk_lt BK5.out;rw [hg];exact Nat.ne_of_lt this);have LT5_12:=am_ (show gb5<gb12 from by have:=blk_lt BK5.out;rw [hg];exact this);have NE7_12:=am_ (show gb7≠gb12 from by have:=blk_lt BK7.out;rw [hg];exact Nat.ne_of_lt this);have LT7_12:=am_ (show gb7<gb12 from by have:=blk_lt BK7.out;rw [hg];exact this);have NE8_12:=am_ (show gb8≠gb12 from by have:=blk_lt BK8.out;rw [hg];exact Nat.ne_of_lt this);have LT8_12:=am_ (show gb8<gb12 from by have:=blk_lt BK8.out;rw [hg];exact this);have NE9_12:=am_ (show gb9≠gb12 from by have:=blk_lt BK9.out;rw [hg];exact Nat.ne_of_lt this);have LT9_12:=am_ (show gb9<gb12 from by have:=blk_lt BK9.out;rw [hg];exact this);have HOn:=am_ (show Kd.R k54 54 w10 (gb9+1) (fun k=>k<gb12) _ acc from by rw [hg];exact Kd.R_below (eff_old HO.out) hb);clear HO;have HO:=HOn;clear HOn;replace BK5:=am_ (blk_below BK5.out hb);replace BK7:=am_ (blk_below BK7.out hb);replace BK8:=am_ (blk_below BK8.out hb);replace BK9:=am_ (blk_below BK9.out hb);have BK12:=am_ (hbox);have GE12:=am_ ((by rw [hg];exact below_size HB.out:w.heap.size≤gb12));replace HB:=am_ (below_step HB.out hb);have EQ12:=am_ (hg);clear hb hbox hg;have cgb12_0:=(blk_cell BK12.out 0).trans rfl;have cgb12_1:=(blk_cell BK12.out 1).trans rfl;have cgb12_2:=(blk_cell BK12.out 2).trans rfl;have cgb12_3:=(blk_cell BK12.out 3).trans rfl;have cgb12_4:=(blk_cell BK12.out 4).trans rfl;have cgb12_5:=(blk_cell BK12.out 5).trans rfl)|((with_reducible refine gate_store (t:=54) (p:=12) (v:= .tmp 31) rfl ?_);refine store_all BK12.out 54 (.tmp 12) (.tmp 31) rfl rfl rfl (.agg #[.string (rd_T54 l0 (i:Int)).f0, .string (rd_T54 l0 (i:Int)).f1, .int .i64 (rd_T54 l0 (i:Int)).f2.f0, .int .i64 (rd_T54 l0 (i:Int)).f2.f1, .int .i64 (rd_T54 l0 (i:Int)).f2.f2, .int .i64 (rd_T54 l0 (i:Int)).f3]) [.string (rd_T54 l0 (i:Int)).f0, .string (rd_T54 l0 (i:Int)).f1, .int .i64 (rd_T54 l0 (i:Int)).f2.f0, .int .i64 (rd_T54 l0 (i:Int)).f2.f1, .int .i64 (rd_T54 l0 (i:Int)).f2.f2, .int .i64 (rd_T54 l0 (i:Int)).f3] rfl rfl rfl (by kernel_rfl) rfl (by intro q hq;simp only [List.mem_cons,List.not_mem_nil,or_false] at hq;rcases hq with rfl|rfl|rfl|rfl|rfl|rfl<;>rfl) ?_;intro w11 hbk hg;clear cgb12_0 cgb12_1 cgb12_2 cgb12_3 cgb12_4 cgb12_5;have HOn:=am_ (eff_put_old HO.out hg);clear HO;have HO:=HOn;clear HOn;replace BK5:=am_ (blk_put_other BK5.out hg (NE5_12.out));replace BK7:=am_ (blk_put_other BK7.out hg (NE7_12.out));replace BK8:=am_ (blk_put_other BK8.out hg (NE8_12.out));replace BK9:=am_ (blk_put_other BK9.out hg (NE9_12.out));replace HB:=am_ (below_put HB.out (below_size HB.out) hg GE12.out);replace BK12:=am_ (hbk);clear hbk hg;have cgb12_0:=(blk_cell BK12.out 0).trans rfl;have cgb12_1:=(blk_cell BK12.out 1).trans rfl;have cgb12_2:=(blk_cell BK12.out 2).trans rfl;have cgb12_3:=(blk_cell BK12.out 3).trans rfl;have cgb12_4:=(blk_cell BK12.out 4).trans rfl;have cgb12_5:=(blk_cell BK12.out 5).trans rfl;have cgb5_1:=(blk_cell BK5.out 1).trans rfl;have cgb8_0:=(blk_cell BK8.out 0).trans rfl;have cgb9_0:=(blk_cell BK9.out 0).trans rfl))
              refine (effPut_calls _ w.heap.size gb8 gb5 gb7 gb9 (gb9+1) l.length A c _ false acc s0 s3 s4 s5 s1 s2 r2 r3 r4 r5 r6 r7 r8 r9 r10 r11 r12 r13 b14 BK8.out BK5.out BK7.out BK9.out (by have:=GE8.out;omega) LT8_9.out (Nat.lt_succ_self _) (Nat.succ_le_of_lt (blk_lt BK9.out)) (Kd.R_mono HO.out (fun _ _=>trivial)) (by have:=HAC.out;have:=HI.out;have:=HL.out;omega)).mono ?_
              rintro e w12 ⟨rfl,v2,hbo,hbi,ho,hk,hb⟩
              rw [←HMK.out] at ho
              have n0_:=am_ ((hk.2 gb5 (blk_lt BK5.out) (by have:=LT5_8.out;omega) (by have:=LT5_9.out;omega) (Kd.R_ne HO.out BK5.out (by decide))).trans BK5.out)
              have n1_:=am_ ((hk.2 gb7 (blk_lt BK7.out) (by have:=LT7_8.out;omega) (by have:=LT7_9.out;omega) (Kd.R_ne HO.out BK7.out (by decide))).trans BK7.out)
              have n2_:=am_ ((hk.2 gb12 (blk_lt BK12.out) (by have:=LT8_12.out;omega) (by have:=LT9_12.out;omega) (eff_ne_old HO.out)).trans BK12.out)
              have n3_:=am_ (HB.out.trans hb)
              clear cgb5_1 cgb8_0 cgb9_0 cgb12_0 cgb12_1 cgb12_2 cgb12_3 cgb12_4 cgb12_5 BK5 BK7 BK8 BK9 BK12 HB HO
              have BK5:=n0_
              have BK7:=n1_
              have BK12:=n2_
              have HB:=n3_
              have BK8:=Aside0.mk hbo
              have BK9:=Aside0.mk hbi
              have HO:=Aside0.mk ho
              clear n0_ n1_ n2_ n3_ hbo hbi ho hk hb
              obtain ⟨Ap_,cp_,ep_⟩:=Kd.R_slice HO.out
              subst ep_
              simp only [List.length_append,List.length_cons,List.length_nil,Nat.zero_add] at HO BK8
              have cgb5_1:=(blk_cell BK5.out 1).trans rfl
              have cgb8_0:=(blk_cell BK8.out 0).trans rfl
              have cgb9_0:=(blk_cell BK9.out 0).trans rfl
              have cgb12_0:=(blk_cell BK12.out 0).trans rfl
              have cgb12_1:=(blk_cell BK12.out 1).trans rfl
              have cgb12_2:=(blk_cell BK12.out 2).trans rfl
              have cgb12_3:=(blk_cell BK12.out 3).trans rfl
              have cgb12_4:=(blk_cell BK12.out 4).trans rfl
              have cgb12_5:=(blk_cell BK12.out 5).trans rfl
              go_wp2_with (first|((with_reducible refine gate_builtin (b:= .append) (xs:=#[.tmp 48, .tmp 50]) rfl ?_);at_builtin;refine Kd.R_append k54 (w0:=w12) (gb9+1) rfl (.tmp 48) (.tmp 50) 35 54 (.agg #[(.string ⟨#[]⟩),(.string ⟨#[]⟩),(.int .i64 0),(.int .i64 0),(.int .i64 0),(.int .i64 0)]) 64 rfl Try.underlying35 info54 rfl (by decide) (by omega) _ (acc++ [mk]) (rd_T54 l0 (i:Int)) [.string (rd_T54 l0 (i:Int)).f0, .string (rd_T54 l0 (i:Int)).f1, .int .i64 (rd_T54 l0 (i:Int)).f2.f0, .int .i64 (rd_T54 l0 (i:Int)).f2.f1, .int .i64 (rd_T54 l0 (i:Int)).f2.f2, .int .i64 (rd_T54 l0 (i:Int)).f3] (fun _=>True) (fun _=>False) rfl (by first|(go_simp;done)|(go_simp;rfl)) ?aP (fun _ hk=>hk.elim) ?aF ?aO ?aB ?aS ?aL ?_;(case aP=>exact k54_mkM _ _ _ (rd_T54 l0 (i:Int)));(case aF=>exact fun _ _=>trivial);(case aO=>exact Kd.R_mono HO.out (fun _ _=>trivial));(case aB=>exact Below.refl _ _);(case aS=>exact Nat.succ_le_of_lt (blk_lt BK9.out));(case aL=>have:=HAC.out;have:=HI.out;have:=HL.out;(try simp only [List.length_append,List.length_singleton]);omega);intro v5 w13 ho hb hg hat;have HG8:=Aside0.mk hg;have ne5:some gb5≠_:=Kd.R_ne HO.out BK5.out (by decide);have ne7:some gb7≠_:=Kd.R_ne HO.out BK7.out (by decide);have ne8:some gb8≠_:=Kd.R_ne HO.out BK8.out (by decide);have ne9:some gb9≠_:=Kd.R_ne HO.out BK9.out (by decide);have n0_:=am_ (blk_grown BK5.out hg ne5);have n1_:=am_ (blk_grown BK7.out hg ne7);have n2_:=am_ (blk_grown BK8.out hg ne8);have n3_:=am_ (blk_grown BK9.out hg ne9);have n4_:=Aside0.mk ho;have n5_:=am_ (pw_below_grown HB.out _ (below_size HB.out) hg (fun k e=>by have:=(eff_own HO.out k e).1;have:=GE8.out;have:=LT8_9.out;omega));clear BK5 BK7 BK8 BK9 BK12 HO HB;have BK5:=n0_;have BK7:=n1_;have BK8:=n2_;have BK9:=n3_;have HO:=n4_;have HB:=n5_;clear n0_ n1_ n2_ n3_ n4_ n5_ ho hb hg hat ne5 ne7 ne8 ne9;obtain ⟨Ao,co_,eo⟩:=Kd.R_slice HO.out;subst eo)|((with_reducible refine gate_store (t:=35) (p:=8) (v:= .tmp 51) rfl ?_);refine store_all BK8.out 35 (.tmp 8) (.tmp 51) rfl rfl rfl _ [_] rfl rfl rfl (by kernel_rfl) rfl (by intro q hq;simp only [List.mem_cons,List.not_mem_nil,or_false] at hq;rcases hq with rfl;rfl) ?_;intro w14 hbk hg;have n0_:=am_ (blk_put_other BK5.out hg (by have:=LT5_8.out;omega));have n1_:=am_ (blk_put_other BK7.out hg (by have:=LT7_8.out;omega));have n2_:=am_ (blk_put_other BK9.out hg (by have:=LT8_9.out;omega));have n3_:=am_ (R_put HO.out BK8.out (by decide) hg);have n4_:=am_ (below_put HB.out (below_size HB.out) hg GE8.out);have n5_:=Aside0.mk hbk;clear BK5 BK7 BK8 BK9 HO HB hbk hg;have BK5:=n0_;have BK7:=n1_;have BK9:=n2_;have HO:=n3_;have HB:=n4_;have BK8:=n5_;clear n0_ n1_ n2_ n3_ n4_ n5_))
              go_roundg (l0.length - (i+1))
              case measure=>have:=HM.out;have:=HC.out;omega
              case rel=>exact ⟨i+1,_,_,_,(by have:=HC.out;omega),Nat.le_refl _,(by first|rfl|(rw [ei];done)|(simp [ei];done)|(simp [*];done)),HR2,⟨by have:=HAC.out;(try simp only [List.length_append,List.length_singleton]);omega⟩,⟨Kd.R_mono HO.out (fun _ _=>trivial)⟩,BK5,BK7,BK8,BK9,HB⟩
          · have cl : Op.bytesLess (rd_T54 l0 (i : Int)).f0.toList s1.toList = true := by simpa using cl
            by_cases c2:(rd_T54 l0 (i:Int)).f0.toList=s1.toList
            · have c2b : ((rd_T54 l0 (i : Int)).f0.toList != s1.toList) = false := bne_eq_false_iff_eq.mpr c2
              have c2a:((rd_T54 l0 (i:Int)).f0.toList==s1.toList)=true:=beq_iff_eq.mpr c2
              have HR2:=am_ (show r=acc++effL mk s1 false (l0.drop (i+1)) from by rw [HE.out,if_neg (show¬(false=false∧Op.bytesLess (rd_T54 l0 (i:Int)).f0.toList s1.toList=false) from fun q=>by rw [cl] at q;exact nomatch q.2),if_neg (show¬(false=false∧Op.bytesLess (rd_T54 l0 (i:Int)).f0.toList s1.toList=false) from fun q=>by rw [cl] at q;exact nomatch q.2),if_pos c2];simp only [List.nil_append,List.append_assoc])
              clear HE c2
              go_wp2_with (first|((with_reducible refine gate_dst (N:=12) rfl ?_);refine bx_ (N:=12) (cs:=#[.string ⟨#[]⟩, .string ⟨#[]⟩, .int .i64 0, .int .i64 0, .int .i64 0, .int .i64 0]) (t:=54) ?_;intro gb12 hg w10 hbox hb;have NE5_12:=am_ (show gb5≠gb12 from by have:=blk_lt BK5.out;rw [hg];exact Nat.ne_of_lt this);have LT5_12:=am_ (show gb5<gb12 from by have:=blk_lt BK5.out;rw [hg];exact this);have NE7_12:=am_ (show gb7≠gb12 from by have:=blk_lt BK7.out;rw [hg];exact Nat.ne_of_lt this);have LT7_12:=am_ (show gb7<gb12 from by have:=blk_lt BK7.out;rw [hg];exact this);have NE8_12:=am_ (show gb8≠gb12 from by have:=blk_lt BK8.out;rw [hg];exact Nat.ne_of_lt this);have LT8_12:=am_ (show gb8<gb12 from by have:=blk_lt BK8.out;rw [hg];exact this);have NE9_12:=am_ (show gb9≠gb12 from by have:=blk_lt BK9.out;rw [hg];exact Nat.ne_of_lt this);have LT9_12:=am_ (show gb9<gb12 from by have:=blk_lt BK9.out;rw [hg];exact this);have HOn:=am_ (show Kd.R k54 54 w10 (gb9+1) (fun k=>k<gb12) _ acc from by rw [hg];exact Kd.R_below (eff_old HO.out) hb);clear HO;have HO:=HOn;clear HOn;replace BK5:=am_ (blk_below BK5.out hb);replace BK7:=am_ (blk_below BK7.out hb);replace BK8:=am_ (blk_below BK8.out hb);replace BK9:=am_ (blk_below BK9.out hb);have BK12:=am_ (hbox);have GE12:=am_ ((by rw [hg];exact below_size HB.out:w.heap.size≤gb12));replace HB:=am_ (below_step HB.out hb);have EQ12:=am_ (hg);clear hb hbox hg;have cgb12_0:=(blk_cell BK12.out 0).trans rfl;have cgb12_1:=(blk_cell BK12.out 1).trans rfl;have cgb12_2:=(blk_cell BK12.out 2).trans rfl;have cgb12_3:=(blk_cell BK12.out 3).trans rfl;have cgb12_4:=(blk_cell BK12.out 4).trans rfl;have cgb12_5:=(blk_cell BK12.out 5).trans rfl)|((with_reducible refine gate_store (t:=54) (p:=12) (v:= .tmp 31) rfl ?_);refine store_all BK12.out 54 (.tmp 12) (.tmp 31) rfl rfl rfl (.agg #[.string (rd_T54 l0 (i:Int)).f0, .string (rd_T54 l0 (i:Int)).f1, .int .i64 (rd_T54 l0 (i:Int)).f2.f0, .int .i64 (rd_T54 l0 (i:Int)).f2.f1, .int .i64 (rd_T54 l0 (i:Int)).f2.f2, .int .i64 (rd_T54 l0 (i:Int)).f3]) [.string (rd_T54 l0 (i:Int)).f0, .string (rd_T54 l0 (i:Int)).f1, .int .i64 (rd_T54 l0 (i:Int)).f2.f0, .int .i64 (rd_T54 l0 (i:Int)).f2.f1, .int .i64 (rd_T54 l0 (i:Int)).f2.f2, .int .i64 (rd_T54 l0 (i:Int)).f3] rfl rfl rfl (by kernel_rfl) rfl (by intro q hq;simp only [List.mem_cons,List.not_mem_nil,or_false] at hq;rcases hq with rfl|rfl|rfl|rfl|rfl|rfl<;>rfl) ?_;intro w11 hbk hg;clear cgb12_0 cgb12_1 cgb12_2 cgb12_3 cgb12_4 cgb12_5;have HOn:=am_ (eff_put_old HO.out hg);clear HO;have HO:=HOn;clear HOn;replace BK5:=am_ (blk_put_other BK5.out hg (NE5_12.out));replace BK7:=am_ (blk_put_other BK7.out hg (NE7_12.out));replace BK8:=am_ (blk_put_other BK8.out hg (NE8_12.out));replace BK9:=am_ (blk_put_other BK9.out hg (NE9_12.out));replace HB:=am_ (below_put HB.out (below_size HB.out) hg GE12.out);replace BK12:=am_ (hbk);clear hbk hg;have cgb12_0:=(blk_cell BK12.out 0).trans rfl;have cgb12_1:=(blk_cell BK12.out 1).trans rfl;have cgb12_2:=(blk_cell BK12.out 2).trans rfl;have cgb12_3:=(blk_cell BK12.out 3).trans rfl;have cgb12_4:=(blk_cell BK12.out 4).trans rfl;have cgb12_5:=(blk_cell BK12.out 5).trans rfl;have cgb5_1:=(blk_cell BK5.out 1).trans rfl;have cgb8_0:=(blk_cell BK8.out 0).trans rfl;have cgb9_0:=(blk_cell BK9.out 0).trans rfl)|((with_reducible refine gate_builtin (b:= .append) (xs:=#[.tmp 48, .tmp 50]) rfl ?_);at_builtin;refine Kd.R_append k54 (w0:=w11) (gb9+1) rfl (.tmp 48) (.tmp 50) 35 54 (.agg #[(.string ⟨#[]⟩),(.string ⟨#[]⟩),(.int .i64 0),(.int .i64 0),(.int .i64 0),(.int .i64 0)]) 64 rfl Try.underlying35 info54 rfl (by decide) (by omega) _ acc (rd_T54 l0 (i:Int)) [.string (rd_T54 l0 (i:Int)).f0, .string (rd_T54 l0 (i:Int)).f1, .int .i64 (rd_T54 l0 (i:Int)).f2.f0, .int .i64 (rd_T54 l0 (i:Int)).f2.f1, .int .i64 (rd_T54 l0 (i:Int)).f2.f2, .int .i64 (rd_T54 l0 (i:Int)).f3] (fun _=>True) (fun _=>False) rfl (by first|(go_simp;done)|(go_simp;rfl)) ?aP (fun _ hk=>hk.elim) ?aF ?aO ?aB ?aS ?aL ?_;(case aP=>exact k54_mkM _ _ _ (rd_T54 l0 (i:Int)));(case aF=>exact fun _ _=>trivial);(case aO=>exact Kd.R_mono HO.out (fun _ _=>trivial));(case aB=>exact Below.refl _ _);(case aS=>exact Nat.succ_le_of_lt (blk_lt BK9.out));(case aL=>have:=HAC.out;have:=HI.out;have:=HL.out;(try simp only [List.length_append,List.length_singleton]);omega);intro v5 w13 ho hb hg hat;have HG8:=Aside0.mk hg;have ne5:some gb5≠_:=Kd.R_ne HO.out BK5.out (by decide);have ne7:some gb7≠_:=Kd.R_ne HO.out BK7.out (by decide);have ne8:some gb8≠_:=Kd.R_ne HO.out BK8.out (by decide);have ne9:some gb9≠_:=Kd.R_ne HO.out BK9.out (by decide);have n0_:=am_ (blk_grown BK5.out hg ne5);have n1_:=am_ (blk_grown BK7.out hg ne7);have n2_:=am_ (blk_grown BK8.out hg ne8);have n3_:=am_ (blk_grown BK9.out hg ne9);have n4_:=Aside0.mk ho;have n5_:=am_ (pw_below_grown HB.out _ (below_size HB.out) hg (fun k e=>by have:=(eff_own HO.out k e).1;have:=GE8.out;have:=LT8_9.out;omega));clear BK5 BK7 BK8 BK9 BK12 HO HB;have BK5:=n0_;have BK7:=n1_;have BK8:=n2_;have BK9:=n3_;have HO:=n4_;have HB:=n5_;clear n0_ n1_ n2_ n3_ n4_ n5_ ho hb hg hat ne5 ne7 ne8 ne9;obtain ⟨Ao,co_,eo⟩:=Kd.R_slice HO.out;subst eo)|((with_reducible refine gate_store (t:=35) (p:=8) (v:= .tmp 51) rfl ?_);refine store_all BK8.out 35 (.tmp 8) (.tmp 51) rfl rfl rfl _ [_] rfl rfl rfl (by kernel_rfl) rfl (by intro q hq;simp only [List.mem_cons,List.not_mem_nil,or_false] at hq;rcases hq with rfl;rfl) ?_;intro w14 hbk hg;have n0_:=am_ (blk_put_other BK5.out hg (by have:=LT5_8.out;omega));have n1_:=am_ (blk_put_other BK7.out hg (by have:=LT7_8.out;omega));have n2_:=am_ (blk_put_other BK9.out hg (by have:=LT8_9.out;omega));have n3_:=am_ (R_put HO.out BK8.out (by decide) hg);have n4_:=am_ (below_put HB.out (below_size HB.out) hg GE8.out);have n5_:=Aside0.mk hbk;clear BK5 BK7 BK8 BK9 HO HB hbk hg;have BK5:=n0_;have BK7:=n1_;have BK9:=n2_;have HO:=n3_;have HB:=n4_;have BK8:=n5_;clear n0_ n1_ n2_ n3_ n4_ n5_))
              go_roundg (l0.length - (i+1))
              case measure=>have:=HM.out;have:=HC.out;omega
              case rel=>exact ⟨i+1,_,_,_,(by have:=HC.out;omega),Nat.le_refl _,(by first|rfl|(rw [ei];done)|(simp [ei];done)|(simp [*];done)),HR2,⟨by have:=HAC.out;(try simp only [List.length_append,List.length_singleton]);omega⟩,⟨Kd.R_mono HO.out (fun _ _=>trivial)⟩,BK5,BK7,BK8,BK9,HB⟩
            · have c2b : ((rd_T54 l0 (i : Int)).f0.toList != s1.toList) = true := bne_iff_ne.mpr c2
              have c2a:((rd_T54 l0 (i:Int)).f0.toList==s1.toList)=false:=beq_eq_false_iff_ne.mpr c2
              have HR2:=am_ (show r=(acc++ [(rd_T54 l0 (i:Int))])++effL mk s1 false (l0.drop (i+1)) from by rw [HE.out,if_neg (show¬(false=false∧Op.bytesLess (rd_T54 l0 (i:Int)).f0.toList s1.toList=false) from fun q=>by rw [cl] at q;exact nomatch q.2),if_neg (show¬(false=false∧Op.bytesLess (rd_T54 l0 (i:Int)).f0.toList s1.toList=false) from fun q=>by rw [cl] at q;exact nomatch q.2),if_neg c2];simp only [List.nil_append,List.append_assoc])
              clear HE c2
              go_wp2_with (first|((with_reducible refine gate_dst (N:=12) rfl ?_);refine bx_ (N:=12) (cs:=#[.string ⟨#[]⟩, .string ⟨#[]⟩, .int .i64 0, .int .i64 0, .int .i64 0, .int .i64 0]) (t:=54) ?_;intro gb12 hg w10 hbox hb;have NE5_12:=am_ (show gb5≠gb12 from by have:=blk_lt BK5.out;rw [hg];exact Nat.ne_of_lt this);have LT5_12:=am_ (show gb5<gb12 from by have:=blk_lt BK5.out;rw [hg];exact this);have NE7_12:=am_ (show gb7≠gb12 from by have:=blk_lt BK7.out;rw [hg];exact Nat.ne_of_lt this);have LT7_12:=am_ (show gb7<gb12 from by have:=blk_lt BK7.out;rw [hg];exact this);have NE8_12:=am_ (show gb8≠gb12 from by have:=blk_lt BK8.out;rw [hg];exact Nat.ne_of_lt this);have LT8_12:=am_ (show gb8<gb12 from by have:=blk_lt BK8.out;rw [hg];exact this);have NE9_12:=am_ (show gb9≠gb12 from by have:=blk_lt BK9.out;rw [hg];exact Nat.ne_of_lt this);have LT9_12:=am_ (show gb9<gb12 from by have:=blk_lt BK9.out;rw [hg];exact this);have HOn:=am_ (show Kd.R k54 54 w10 (gb9+1) (fun k=>k<gb12) _ acc from by rw [hg];exact Kd.R_below (eff_old HO.out) hb);clear HO;have HO:=HOn;clear HOn;replace BK5:=am_ (blk_below BK5.out hb);replace BK7:=am_ (blk_below BK7.out hb);replace BK8:=am_ (blk_below BK8.out hb);replace BK9:=am_ (blk_below BK9.out hb);have BK12:=am_ (hbox);have GE12:=am_ ((by rw [hg];exact below_size HB.out:w.heap.size≤gb12));replace HB:=am_ (below_step HB.out hb);have EQ12:=am_ (hg);clear hb hbox hg;have cgb12_0:=(blk_cell BK12.out 0).trans rfl;have cgb12_1:=(blk_cell BK12.out 1).trans rfl;have cgb12_2:=(blk_cell BK12.out 2).trans rfl;have cgb12_3:=(blk_cell BK12.out 3).trans rfl;have cgb12_4:=(blk_cell BK12.out 4).trans rfl;have cgb12_5:=(blk_cell BK12.out 5).trans rfl)|((with_reducible refine gate_store (t:=54) (p:=12) (v:= .tmp 31) rfl ?_);refine store_all BK12.out 54 (.tmp 12) (.tmp 31) rfl rfl rfl (.agg #[.string (rd_T54 l0 (i:Int)).f0, .string (rd_T54 l0 (i:Int)).f1, .int .i64 (rd_T54 l0 (i:Int)).f2.f0, .int .i64 (rd_T54 l0 (i:Int)).f2.f1, .int .i64 (rd_T54 l0 (i:Int)).f2.f2, .int .i64 (rd_T54 l0 (i:Int)).f3]) [.string (rd_T54 l0 (i:Int)).f0, .string (rd_T54 l0 (i:Int)).f1, .int .i64 (rd_T54 l0 (i:Int)).f2.f0, .int .i64 (rd_T54 l0 (i:Int)).f2.f1, .int .i64 (rd_T54 l0 (i:Int)).f2.f2, .int .i64 (rd_T54 l0 (i:Int)).f3] rfl rfl rfl (by kernel_rfl) rfl (by intro q hq;simp only [List.mem_cons,List.not_mem_nil,or_false] at hq;rcases hq with rfl|rfl|rfl|rfl|rfl|rfl<;>rfl) ?_;intro w11 hbk hg;clear cgb12_0 cgb12_1 cgb12_2 cgb12_3 cgb12_4 cgb12_5;have HOn:=am_ (eff_put_old HO.out hg);clear HO;have HO:=HOn;clear HOn;replace BK5:=am_ (blk_put_other BK5.out hg (NE5_12.out));replace BK7:=am_ (blk_put_other BK7.out hg (NE7_12.out));replace BK8:=am_ (blk_put_other BK8.out hg (NE8_12.out));replace BK9:=am_ (blk_put_other BK9.out hg (NE9_12.out));replace HB:=am_ (below_put HB.out (below_size HB.out) hg GE12.out);replace BK12:=am_ (hbk);clear hbk hg;have cgb12_0:=(blk_cell BK12.out 0).trans rfl;have cgb12_1:=(blk_cell BK12.out 1).trans rfl;have cgb12_2:=(blk_cell BK12.out 2).trans rfl;have cgb12_3:=(blk_cell BK12.out 3).trans rfl;have cgb12_4:=(blk_cell BK12.out 4).trans rfl;have cgb12_5:=(blk_cell BK12.out 5).trans rfl;have cgb5_1:=(blk_cell BK5.out 1).trans rfl;have cgb8_0:=(blk_cell BK8.out 0).trans rfl;have cgb9_0:=(blk_cell BK9.out 0).trans rfl)|((with_reducible refine gate_builtin (b:= .append) (xs:=#[.tmp 48, .tmp 50]) rfl ?_);at_builtin;refine Kd.R_append k54 (w0:=w11) (gb9+1) rfl (.tmp 48) (.tmp 50) 35 54 (.agg #[(.string ⟨#[]⟩),(.string ⟨#[]⟩),(.int .i64 0),(.int .i64 0),(.int .i64 0),(.int .i64 0)]) 64 rfl Try.underlying35 info54 rfl (by decide) (by omega) _ acc (rd_T54 l0 (i:Int)) [.string (rd_T54 l0 (i:Int)).f0, .string (rd_T54 l0 (i:Int)).f1, .int .i64 (rd_T54 l0 (i:Int)).f2.f0, .int .i64 (rd_T54 l0 (i:Int)).f2.f1, .int .i64 (rd_T54 l0 (i:Int)).f2.f2, .int .i64 (rd_T54 l0 (i:Int)).f3] (fun _=>True) (fun _=>False) rfl (by first|(go_simp;done)|(go_simp;rfl)) ?aP (fun _ hk=>hk.elim) ?aF ?aO ?aB ?aS ?aL ?_;(case aP=>exact k54_mkM _ _ _ (rd_T54 l0 (i:Int)));(case aF=>exact fun _ _=>trivial);(case aO=>exact Kd.R_mono HO.out (fun _ _=>trivial));(case aB=>exact Below.refl _ _);(case aS=>exact Nat.succ_le_of_lt (blk_lt BK9.out));(case aL=>have:=HAC.out;have:=HI.out;have:=HL.out;(try simp only [List.length_append,List.length_singleton]);omega);intro v5 w13 ho hb hg hat;have HG8:=Aside0.mk hg;have ne5:some gb5≠_:=Kd.R_ne HO.out BK5.out (by decide);have ne7:some gb7≠_:=Kd.R_ne HO.out BK7.out (by decide);have ne8:some gb8≠_:=Kd.R_ne HO.out BK8.out (by decide);have ne9:some gb9≠_:=Kd.R_ne HO.out BK9.out (by decide);have n0_:=am_ (blk_grown BK5.out hg ne5);have n1_:=am_ (blk_grown BK7.out hg ne7);have n2_:=am_ (blk_grown BK8.out hg ne8);have n3_:=am_ (blk_grown BK9.out hg ne9);have n4_:=Aside0.mk ho;have n5_:=am_ (pw_below_grown HB.out _ (below_size HB.out) hg (fun k e=>by have:=(eff_own HO.out k e).1;have:=GE8.out;have:=LT8_9.out;omega));clear BK5 BK7 BK8 BK9 BK12 HO HB;have BK5:=n0_;have BK7:=n1_;have BK8:=n2_;have BK9:=n3_;have HO:=n4_;have HB:=n5_;clear n0_ n1_ n2_ n3_ n4_ n5_ ho hb hg hat ne5 ne7 ne8 ne9;obtain ⟨Ao,co_,eo⟩:=Kd.R_slice HO.out;subst eo)|((with_reducible refine gate_store (t:=35) (p:=8) (v:= .tmp 51) rfl ?_);refine store_all BK8.out 35 (.tmp 8) (.tmp 51) rfl rfl rfl _ [_] rfl rfl rfl (by kernel_rfl) rfl (by intro q hq;simp only [List.mem_cons,List.not_mem_nil,or_false] at hq;rcases hq with rfl;rfl) ?_;intro w14 hbk hg;have n0_:=am_ (blk_put_other BK5.out hg (by have:=LT5_8.out;omega));have n1_:=am_ (blk_put_other BK7.out hg (by have:=LT7_8.out;omega));have n2_:=am_ (blk_put_other BK9.out hg (by have:=LT8_9.out;omega));have n3_:=am_ (R_put HO.out BK8.out (by decide) hg);have n4_:=am_ (below_put HB.out (below_size HB.out) hg GE8.out);have n5_:=Aside0.mk hbk;clear BK5 BK7 BK8 BK9 HO HB hbk hg;have BK5:=n0_;have BK7:=n1_;have BK9:=n2_;have HO:=n3_;have HB:=n4_;have BK8:=n5_;clear n0_ n1_ n2_ n3_ n4_ n5_))
              go_roundg (l0.length - (i+1))
              case measure=>have:=HM.out;have:=HC.out;omega
              case rel=>exact ⟨i+1,_,_,_,(by have:=HC.out;omega),Nat.le_refl _,(by first|rfl|(rw [ei];done)|(simp [ei];done)|(simp [*];done)),HR2,⟨by have:=HAC.out;(try simp only [List.length_append,List.length_singleton]);omega⟩,⟨Kd.R_mono HO.out (fun _ _=>trivial)⟩,BK5,BK7,BK8,BK9,HB⟩
      · have c1b : decide ((i : Int) < (l0.length : Int)) = false := decide_eq_false (by omega)
        have c1c:decide (i<l0.length)=false:=decide_eq_false c1
        have c1d:(i<l0.length)=False:=eq_false c1
        have hh:=HE.out
        rw [List.drop_of_length_le (by omega)] at hh
        unfold effL at hh
        have HE:=Aside0.mk hh
        clear hh c1
        have cgb8_0:=(blk_cell BK8.out 0).trans rfl
        cases inb with
        | true =>
          have HR2:=am_ (show r=acc from by rw [HE.out,if_pos rfl,List.append_nil])
          have cgb9_0:=(blk_cell BK9.out 0).trans rfl
          go_wp2_with fail
          have hlen:acc.length<2199023255552:=by have:=HAC.out;have:=HI.out;have:=HL.out;(try simp only [List.length_append,List.length_singleton]);omega
          have hcf:slices_Clone_Mark.f acc=some acc:=by unfold slices_Clone_Mark.f;exact if_pos hlen
          have hcl:=slices_Clone_Mark.calls Au cu acc acc _ (Kd.R_reads' HO.out).2.2 (Kd.R_reads' HO.out).2.1 hcf
          (try simp only [List.length_append,List.length_cons,List.length_nil,Nat.zero_add] at hcl)
          refine hcl.mono ?_
          rintro e w15 ⟨v0_,rfl,ho,hb⟩
          have HOz:=am_ (Kd.R_lower ho (below_size HB.out))
          have HBz:=am_ (below_step HB.out hb)
          clear ho hb hcl hcf hlen
          go_wp2
          go_ret
          exact ⟨_,rfl,by rw [HR2.out];exact HOz.out,HBz.out⟩
        | false =>
          have HR2:=am_ (show r=acc++ [mk] from by rw [HE.out,if_neg (by simp)])
          have cgb9_0:=(blk_cell BK9.out 0).trans rfl
          go_wp2_with fail
          refine (effPut_calls _ w.heap.size gb8 gb5 gb7 gb9 (gb9+1) l.length A c _ false acc s0 s3 s4 s5 s1 s2 r2 r3 r4 r5 r6 r7 r8 r9 r10 r11 r12 r13 b14 BK8.out BK5.out BK7.out BK9.out (by have:=GE8.out;omega) LT8_9.out (Nat.lt_succ_self _) (Nat.succ_le_of_lt (blk_lt BK9.out)) HO.out (by have:=HAC.out;have:=HI.out;have:=HL.out;omega)).mono ?_
          rintro e w12 ⟨rfl,v2,hbo,hbi,ho,hk,hb⟩
          rw [←HMK.out] at ho
          have n3_:=am_ (HB.out.trans hb)
          clear cgb8_0 cgb9_0 BK8 BK9 HB HO
          have HB:=n3_
          have BK8:=Aside0.mk hbo
          have HO:=Aside0.mk ho
          clear n3_ hbo hbi ho hk hb
          obtain ⟨Ap_,cp_,ep_⟩:=Kd.R_slice HO.out
          subst ep_
          simp only [List.length_append,List.length_cons,List.length_nil,Nat.zero_add] at BK8
          have cgb8_0:=(blk_cell BK8.out 0).trans rfl
          go_wp2_with fail
          have hlen:(acc++ [mk]).length<2199023255552:=by have:=HAC.out;have:=HI.out;have:=HL.out;(try simp only [List.length_append,List.length_singleton]);omega
          have hcf:slices_Clone_Mark.f (acc++ [mk])=some (acc++ [mk]):=by unfold slices_Clone_Mark.f;exact if_pos hlen
          have hcl:=slices_Clone_Mark.calls Ap_ cp_ (acc++ [mk]) (acc++ [mk]) _ (Kd.R_reads' HO.out).2.2 (Kd.R_reads' HO.out).2.1 hcf
          (try simp only [List.length_append,List.length_cons,List.length_nil,Nat.zero_add] at hcl)
          refine hcl.mono ?_
          rintro e w15 ⟨v0_,rfl,ho,hb⟩
          have HOz:=am_ (Kd.R_lower ho (below_size HB.out))
          have HBz:=am_ (below_step HB.out hb)
          clear ho hb hcl hcf hlen
          go_wp2
          go_ret
          exact ⟨_,rfl,by rw [HR2.out];exact HOz.out,HBz.out⟩)


def r16_mark.f (a0_0:ByteArray) (a0_1:ByteArray) (a0_2:Int) (a0_3:Int) (a0_4:Int) (a0_5:Int) (a0_6:Int) (a0_7:Int) (a0_8:Int) (a0_9:Int) (a0_10:Int) (a0_11:Int):Option (ByteArray×ByteArray×Int×Int×Int×Int):=some (a0_0,a0_1,a0_2,a0_3,a0_4,a0_11)
set_option maxHeartbeats 8000000 in
set_option maxRecDepth 100000 in
theorem r16_mark.calls (a0_0:ByteArray) (a0_1:ByteArray) (a0_2:Int) (a0_3:Int) (a0_4:Int) (a0_5:Int) (a0_6:Int) (a0_7:Int) (a0_8:Int) (a0_9:Int) (a0_10:Int) (a0_11:Int) (r1:ByteArray) (r2:ByteArray) (r3:Int) (r4:Int) (r5:Int) (r6:Int) (w:World) (h:r16_mark.f a0_0 a0_1 a0_2 a0_3 a0_4 a0_5 a0_6 a0_7 a0_8 a0_9 a0_10 a0_11=some (r1,r2,r3,r4,r5,r6)):
  Calls Try.prog 109 #[.agg #[.string a0_0, .string a0_1, .int .i64 a0_2, .int .i64 a0_3, .int .i64 a0_4, .int .i64 a0_5, .int .i64 a0_6, .int .i64 a0_7, .int .i64 a0_8, .int .i64 a0_9, .int .i64 a0_10, .int .i64 a0_11]] w fun e w'=>e= .returned (.agg #[.string r1, .string r2, .int .i64 r3, .int .i64 r4, .int .i64 r5, .int .i64 r6])∧Below w.heap.size w w':=by
 have hu31:=Try.underlying31
 have hu54:=Try.underlying54
 have hu27:=Try.underlying27
 have HB:=am_ (Below.refl w.heap.size w)
 have H:(some (a0_0,a0_1,a0_2,a0_3,a0_4,a0_11))=some (r1,r2,r3,r4,r5,r6):=h
 clear h
 simp only [Option.some.injEq,Prod.mk.injEq] at H
 obtain ⟨rfl,rfl,rfl,rfl,rfl,rfl⟩:=H
 go_enter Try.func109,Try.ntmps109
 go_wp2_with (first|((with_reducible refine gate_dst (N:=1) rfl ?_);refine bx_ (N:=1) (cs:=#[.string a0_0, .string a0_1, .int .i64 a0_2, .int .i64 a0_3, .int .i64 a0_4, .int .i64 a0_5, .int .i64 a0_6, .int .i64 a0_7, .int .i64 a0_8, .int .i64 a0_9, .int .i64 a0_10, .int .i64 a0_11]) (t:=31) ?_;intro gb1 hg w2 hbox hb;have BK1:=am_ (hbox);have GW1:=am_ ((zg0_ HB hg:w.heap.size≤gb1));have GE1:=am_ ((zg0_ HB hg:w.heap.size≤gb1));replace HB:=am_ (below_step (zl0_ HB) hb);clear hb hbox hg)|((with_reducible refine gate_dst (N:=2) rfl ?_);refine bx_ (N:=2) (cs:=#[.string (⟨#[]⟩:ByteArray), .string (⟨#[]⟩:ByteArray), .int .i64 0, .int .i64 0, .int .i64 0, .int .i64 0]) (t:=54) ?_;intro gb2 hg w3 hbox hb;have BK2:=am_ (hbox);have GW2:=am_ ((zg1_ HB GE1 hg:w.heap.size≤gb2));have GE2:=am_ ((zg1_ HB GE1 hg:w.heap.size≤gb2));replace HB:=am_ (below_step (zl1_ HB GE1) hb);have NB1_2:=am_ ((zn_ BK1 hg:gb1≠gb2));have NB2_1:=am_ ((zm_ BK1 hg:gb2≠gb1));replace BK1:=am_ (blk_below (zb_ BK1) hb);clear hb hbox hg;have hnb4:=NB1_2.out;have hnc4:=NB2_1.out;obtain ⟨hcz5_0,hcz5_1,hcz5_2,hcz5_3,hcz5_4,hcz5_5,hcz5_6,hcz5_7,hcz5_8,hcz5_9,hcz5_10,hcz5_11,hfz5_0,hfz5_1,hfz5_2,hfz5_3,hfz5_4,hfz5_5,hfz5_6,hfz5_7,hfz5_8,hfz5_9,hfz5_10,hfz5_11⟩:=y12_ BK1;obtain ⟨hcz6_0,hcz6_1,hcz6_2,hcz6_3,hcz6_4,hcz6_5⟩:=x6_ BK2;have hfz6_0:=blk_frozen BK2.out 0;have hfz6_1:=blk_frozen BK2.out 1;have hfz6_2:=blk_frozen BK2.out 2;have hfz6_3:=blk_frozen BK2.out 3;have hfz6_4:=blk_frozen BK2.out 4;have hfz6_5:=blk_frozen BK2.out 5))
 refine bodyPost_ret (results_cell_row rfl _ _ gb2 54 #[.string a0_0, .string a0_1, .int .i64 a0_2, .int .i64 a0_3, .int .i64 a0_4, .int .i64 a0_11] (0,0) _ rfl (zw_ BK2) Try.underlying54 rfl (by kernel_rfl)) rfl ?_
 exact ⟨by first|rfl|(simp [errW_none,errW_some]<;>rfl)|(simp [*,errW_none,errW_some]<;>rfl),zl2_ HB GE1 GE2⟩

mutual
def r16_Marks.j0:Nat→List (S54)→List (S31)→List (S54)→Int→Bool→Int→ByteArray→ByteArray→Int→Int→Int→Option ((List (S54)))
 |0,_,_,_,_,_,_,_,_,_,_,_=>none
 |k+1,x0,x1,x7,x8,x9,x2000,x2001,x2002,x2003,x2004,x2005=>r16_Marks.l0 k x0 x1 x7 x8 x9 0 x2000 x2001 x2002 x2003 x2004 x2005
def r16_Marks.l0:Nat→List (S54)→List (S31)→List (S54)→Int→Bool→Int→Int→ByteArray→ByteArray→Int→Int→Int→Option ((List (S54)))
 |0,_,_,_,_,_,_,_,_,_,_,_,_=>none
 |k+1,x0,x1,x7,x8,x9,x10,x2000,x2001,x2002,x2003,x2004,x2005=>if x10<(x0.length:Int) then (if x9=true then (r16_Marks.j2 k x0 x1 x7 x8 x9 x10 false x2000 x2001 x2002 x2003 x2004 x2005) else (if 0≤x10 then (r16_Marks.j2 k x0 x1 x7 x8 x9 x10 (!(Op.bytesLess (((rd_T54 x0 x10).f0).toList) x2001.toList)) x2000 x2001 x2002 x2003 x2004 x2005) else (none))) else (if x9=true then (some x7) else (if 0≤x8 then (if x8<(x1.length:Int) then ((r16_mark.f ((rd_T31 x1 x8).f0) ((rd_T31 x1 x8).f1) ((rd_T31 x1 x8).f2.f0) ((rd_T31 x1 x8).f2.f1) ((rd_T31 x1 x8).f2.f2) ((rd_T31 x1 x8).f3.f0) ((rd_T31 x1 x8).f3.f1) ((rd_T31 x1 x8).f3.f2) ((rd_T31 x1 x8).f4.f0) ((rd_T31 x1 x8).f4.f1) ((rd_T31 x1 x8).f4.f2) ((rd_T31 x1 x8).f5)).bind fun bt4=>(if x7.length<2199023255552 then (some (x7++ [(⟨bt4.1,bt4.2.1,(⟨bt4.2.2.1,bt4.2.2.2.1,bt4.2.2.2.2.1⟩:S27),bt4.2.2.2.2.2⟩:S54)])) else (none))) else (none)) else (none)))
def r16_Marks.j2:Nat→List (S54)→List (S31)→List (S54)→Int→Bool→Int→Bool→Int→ByteArray→ByteArray→Int→Int→Int→Option ((List (S54)))
 |0,_,_,_,_,_,_,_,_,_,_,_,_,_=>none
 |k+1,x0,x1,x7,x8,x9,x10,x39,x2000,x2001,x2002,x2003,x2004,x2005=>if x39=true then (if 0≤x8 then (if x8<(x1.length:Int) then ((r16_mark.f ((rd_T31 x1 x8).f0) ((rd_T31 x1 x8).f1) ((rd_T31 x1 x8).f2.f0) ((rd_T31 x1 x8).f2.f1) ((rd_T31 x1 x8).f2.f2) ((rd_T31 x1 x8).f3.f0) ((rd_T31 x1 x8).f3.f1) ((rd_T31 x1 x8).f3.f2) ((rd_T31 x1 x8).f4.f0) ((rd_T31 x1 x8).f4.f1) ((rd_T31 x1 x8).f4.f2) ((rd_T31 x1 x8).f5)).bind fun bt15=>(if x7.length<2199023255552 then ((some (x7++ [(⟨bt15.1,bt15.2.1,(⟨bt15.2.2.1,bt15.2.2.2.1,bt15.2.2.2.2.1⟩:S27),bt15.2.2.2.2.2⟩:S54)]:List (S54))).bind fun y21=>(if 0≤x10 then (if x10<(x0.length:Int) then (if ((rd_T54 x0 x10).f0).toList=x2001.toList then (r16_Marks.l0 k x0 x1 y21 x8 true (wrap64 (x10+1)) x2000 x2001 x2002 x2003 x2004 x2005) else (if y21.length<2199023255552 then (r16_Marks.l0 k x0 x1 (y21++ [(⟨(rd_T54 x0 x10).f0,(rd_T54 x0 x10).f1,(⟨(rd_T54 x0 x10).f2.f0,(rd_T54 x0 x10).f2.f1,(rd_T54 x0 x10).f2.f2⟩:S27),(rd_T54 x0 x10).f3⟩:S54)]) x8 true (wrap64 (x10+1)) x2000 x2001 x2002 x2003 x2004 x2005) else (none))) else (none)) else (none))) else (none))) else (none)) else (none)) else (if 0≤x10 then (if x10<(x0.length:Int) then (if ((rd_T54 x0 x10).f0).toList=x2001.toList then (r16_Marks.l0 k x0 x1 x7 x8 x9 (wrap64 (x10+1)) x2000 x2001 x2002 x2003 x2004 x2005) else (if x7.length<2199023255552 then (r16_Marks.l0 k x0 x1 (x7++ [(⟨(rd_T54 x0 x10).f0,(rd_T54 x0 x10).f1,(⟨(rd_T54 x0 x10).f2.f0,(rd_T54 x0 x10).f2.f1,(rd_T54 x0 x10).f2.f2⟩:S27),(rd_T54 x0 x10).f3⟩:S54)]) x8 x9 (wrap64 (x10+1)) x2000 x2001 x2002 x2003 x2004 x2005) else (none))) else (none)) else (none))
end
def r16_Marks.f (k:Nat) (l0:List (S54)) (l1:List (S31)) (a2_0:Int) (a2_1:ByteArray) (a2_2:ByteArray) (a2_3:Int) (a2_4:Int) (a2_5:Int):Option ((List (S54))):=(r10_Find.f k l1 a2_1).bind fun t2=>(if t2<0 then (r16_Marks.j0 k l0 l1 ([]:List (S54)) t2 true a2_0 a2_1 a2_2 a2_3 a2_4 a2_5) else (r16_Marks.j0 k l0 l1 ([]:List (S54)) t2 (a2_0==4) a2_0 a2_1 a2_2 a2_3 a2_4 a2_5))
theorem r16_Marks.mono_l: ∀k,(∀y0 y1 y2 y3 y4 y5 y6 y7 y8 y9 y10,LeO (r16_Marks.j0 k y0 y1 y2 y3 y4 y5 y6 y7 y8 y9 y10) (r16_Marks.j0 (k+1) y0 y1 y2 y3 y4 y5 y6 y7 y8 y9 y10))∧(∀y0 y1 y2 y3 y4 y5 y6 y7 y8 y9 y10 y11,LeO (r16_Marks.l0 k y0 y1 y2 y3 y4 y5 y6 y7 y8 y9 y10 y11) (r16_Marks.l0 (k+1) y0 y1 y2 y3 y4 y5 y6 y7 y8 y9 y10 y11))∧(∀y0 y1 y2 y3 y4 y5 y6 y7 y8 y9 y10 y11 y12,LeO (r16_Marks.j2 k y0 y1 y2 y3 y4 y5 y6 y7 y8 y9 y10 y11 y12) (r16_Marks.j2 (k+1) y0 y1 y2 y3 y4 y5 y6 y7 y8 y9 y10 y11 y12))
 |0=>⟨fun _ _ _ _ _ _ _ _ _ _ _ r h=>by simp [r16_Marks.j0] at h,fun _ _ _ _ _ _ _ _ _ _ _ _ r h=>by simp [r16_Marks.l0] at h,fun _ _ _ _ _ _ _ _ _ _ _ _ _ r h=>by simp [r16_Marks.j2] at h⟩
 |k+1=>by
  obtain ⟨ih0,ih1,ih2⟩:=r16_Marks.mono_l k
  refine ⟨?_, ?_, ?_⟩
  ·intro y0 y1 y2 y3 y4 y5 y6 y7 y8 y9 y10
   unfold r16_Marks.j0
   repeat' first
   |(with_reducible exact ih0 _ _ _ _ _ _ _ _ _ _ _)
   |(with_reducible exact ih1 _ _ _ _ _ _ _ _ _ _ _ _)
   |(with_reducible exact ih2 _ _ _ _ _ _ _ _ _ _ _ _ _)
   |(with_reducible exact r10_Find.mono _ _ _)
   |(with_reducible exact LeO.refl _)
   |(with_reducible exact LeO.none _)
   |(with_reducible refine LeO.ite ?_ ?_)
   |(with_reducible refine LeO.bind ?_ (fun _=> ?_))
   |exact ih0 _ _ _ _ _ _ _ _ _ _ _
   |exact ih1 _ _ _ _ _ _ _ _ _ _ _ _
   |exact ih2 _ _ _ _ _ _ _ _ _ _ _ _ _
   |exact r10_Find.mono _ _ _
   |exact LeO.none _
   |refine LeO.ite ?_ ?_
   |refine LeO.bind ?_ (fun _=> ?_)
  ·intro y0 y1 y2 y3 y4 y5 y6 y7 y8 y9 y10 y11
   unfold r16_Marks.l0
   repeat' first
   |(with_reducible exact ih0 _ _ _ _ _ _ _ _ _ _ _)
   |(with_reducible exact ih1 _ _ _ _ _ _ _ _ _ _ _ _)
   |(with_reducible exact ih2 _ _ _ _ _ _ _ _ _ _ _ _ _)
   |(with_reducible exact r10_Find.mono _ _ _)
   |(with_reducible exact LeO.refl _)
   |(with_reducible exact LeO.none _)
   |(with_reducible refine LeO.ite ?_ ?_)
   |(with_reducible refine LeO.bind ?_ (fun _=> ?_))
   |exact ih0 _ _ _ _ _ _ _ _ _ _ _
   |exact ih1 _ _ _ _ _ _ _ _ _ _ _ _
   |exact ih2 _ _ _ _ _ _ _ _ _ _ _ _ _
   |exact r10_Find.mono _ _ _
   |exact LeO.none _
   |refine LeO.ite ?_ ?_
   |refine LeO.bind ?_ (fun _=> ?_)
  intro y0 y1 y2 y3 y4 y5 y6 y7 y8 y9 y10 y11 y12
  unfold r16_Marks.j2
  repeat' first
  |(with_reducible exact ih0 _ _ _ _ _ _ _ _ _ _ _)
  |(with_reducible exact ih1 _ _ _ _ _ _ _ _ _ _ _ _)
  |(with_reducible exact ih2 _ _ _ _ _ _ _ _ _ _ _ _ _)
  |(with_reducible exact r10_Find.mono _ _ _)
  |(with_reducible exact LeO.refl _)
  |(with_reducible exact LeO.none _)
  |(with_reducible refine LeO.ite ?_ ?_)
  |(with_reducible refine LeO.bind ?_ (fun _=> ?_))
  |exact ih0 _ _ _ _ _ _ _ _ _ _ _
  |exact ih1 _ _ _ _ _ _ _ _ _ _ _ _
  |exact ih2 _ _ _ _ _ _ _ _ _ _ _ _ _
  |exact r10_Find.mono _ _ _
  |exact LeO.none _
  |refine LeO.ite ?_ ?_
  |refine LeO.bind ?_ (fun _=> ?_)
theorem r16_Marks.mono: ∀a0 a1 a2 a3 a4 a5 a6 a7 k,LeO (r16_Marks.f k a0 a1 a2 a3 a4 a5 a6 a7) (r16_Marks.f (k+1) a0 a1 a2 a3 a4 a5 a6 a7):=by
 intro a0 a1 a2 a3 a4 a5 a6 a7 k
 obtain ⟨ih0,ih1,ih2⟩:=r16_Marks.mono_l k
 unfold r16_Marks.f
 repeat' first
  |(with_reducible exact ih0 _ _ _ _ _ _ _ _ _ _ _)
  |(with_reducible exact ih1 _ _ _ _ _ _ _ _ _ _ _ _)
  |(with_reducible exact ih2 _ _ _ _ _ _ _ _ _ _ _ _ _)
  |(with_reducible exact r10_Find.mono _ _ _)
  |(with_reducible exact LeO.refl _)
  |(with_reducible exact LeO.none _)
  |(with_reducible refine LeO.ite ?_ ?_)
  |(with_reducible refine LeO.bind ?_ (fun _=> ?_))
  |exact ih0 _ _ _ _ _ _ _ _ _ _ _
  |exact ih1 _ _ _ _ _ _ _ _ _ _ _ _
  |exact ih2 _ _ _ _ _ _ _ _ _ _ _ _ _
  |exact r10_Find.mono _ _ _
  |exact LeO.none _
  |refine LeO.ite ?_ ?_
  |refine LeO.bind ?_ (fun _=> ?_)
set_option maxHeartbeats 8000000 in
set_option maxRecDepth 100000 in
theorem r16_Marks.calls (k:Nat) (A0:Option Addr) (c0:Nat) (l0:List (S54)) (A1:Option Addr) (c1:Nat) (l1:List (S31)) (a2_0:Int) (a2_1:ByteArray) (a2_2:ByteArray) (a2_3:Int) (a2_4:Int) (a2_5:Int) (r:List (S54)) (w:World) (hr0:Kd.C k54 w A0 l0.length l0) (hc0:l0.length≤c0) (hr1:Kd.C k31 w A1 l1.length l1) (hc1:l1.length≤c1) (h:r16_Marks.f k l0 l1 a2_0 a2_1 a2_2 a2_3 a2_4 a2_5=some r):
  Calls Try.prog 55 #[.slice A0 l0.length c0, .slice A1 l1.length c1, .agg #[.int .i64 a2_0, .string a2_1, .string a2_2, .int .i64 a2_3, .int .i64 a2_4, .int .i64 a2_5]] w fun e w'=> ∃v0_:Value,e= .returned (v0_)∧Kd.R k54 54 w' w.heap.size (fun _=>True) v0_ r∧Below w.heap.size w w':=by
 have hu58:=Try.underlying58
 have hu31:=Try.underlying31
 have hu54:=Try.underlying54
 have HR0:=Aside0.mk hr0
 have HC0:=Aside0.mk hc0
 clear hr0 hc0
 have HR1:=Aside0.mk hr1
 have HC1:=Aside0.mk hc1
 clear hr1 hc1
 have HB:=am_ (Below.refl w.heap.size w)
 have H:((r10_Find.f k l1 a2_1).bind fun t2=>(if t2<0 then (r16_Marks.j0 k l0 l1 ([]:List (S54)) t2 true a2_0 a2_1 a2_2 a2_3 a2_4 a2_5) else (r16_Marks.j0 k l0 l1 ([]:List (S54)) t2 (a2_0==4) a2_0 a2_1 a2_2 a2_3 a2_4 a2_5)))=some r:=h
 clear h
 replace H:=Option.bind_eq_some_iff.mp H
 obtain ⟨t2,A40,H⟩:=H
 try dsimp only at H
 have A4:=Aside0.mk A40
 clear A40
 have HC5:=Aside0.mk H
 clear H
 go_enter Try.func55,Try.ntmps55
 go_upto_region 3 with (first|((with_reducible refine gate_dst (N:=5) rfl ?_);refine bx_ (N:=5) (cs:=#[.int .i64 a2_0, .string a2_1, .string a2_2, .int .i64 a2_3, .int .i64 a2_4, .int .i64 a2_5]) (t:=58) ?_;intro gb1 hg w6 hbox hb;have BK1:=am_ (hbox);have GW1:=am_ ((zg0_ HB hg:w.heap.size≤gb1));have GE1:=am_ ((zg0_ HB hg:w.heap.size≤gb1));replace HB:=am_ (below_step (zl0_ HB) hb);clear hb hbox hg;obtain ⟨hcz7_0,hcz7_1,hcz7_2,hcz7_3,hcz7_4,hcz7_5⟩:=x6_ BK1;have hfz7_0:=blk_frozen BK1.out 0;have hfz7_1:=blk_frozen BK1.out 1;have hfz7_2:=blk_frozen BK1.out 2;have hfz7_3:=blk_frozen BK1.out 3;have hfz7_4:=blk_frozen BK1.out 4;have hfz7_5:=blk_frozen BK1.out 5)|(go_at_call 50;(with_reducible refine (r10_Find.calls k _ _ l1 a2_1 t2 _ ?side1 ?side2 A4.out).mono ?_);(case side1=>exact zc_ (Kd.C_below HR1.out HB.out));(case side2=>exact HC1.out);rintro e w' ⟨rfl,⟨nd,rfl⟩⟩;(try first|exact ⟨rfl,_,World.drewN_drewN _ _ _⟩|exact ⟨rfl,_,Eq.trans (World.drewN_drewN _ _ _) (congrArg (World.drewN _) (Nat.add_assoc _ _ _))⟩)))
 repeat (go_quiet (first|((with_reducible refine gate_dst (N:=5) rfl ?_);refine bx_ (N:=5) (cs:=#[.int .i64 a2_0, .string a2_1, .string a2_2, .int .i64 a2_3, .int .i64 a2_4, .int .i64 a2_5]) (t:=58) ?_;intro gb1 hg w6 hbox hb;have BK1:=am_ (hbox);have GW1:=am_ ((zg0_ HB hg:w.heap.size≤gb1));have GE1:=am_ ((zg0_ HB hg:w.heap.size≤gb1));replace HB:=am_ (below_step (zl0_ HB) hb);clear hb hbox hg;obtain ⟨hcz7_0,hcz7_1,hcz7_2,hcz7_3,hcz7_4,hcz7_5⟩:=x6_ BK1;have hfz7_0:=blk_frozen BK1.out 0;have hfz7_1:=blk_frozen BK1.out 1;have hfz7_2:=blk_frozen BK1.out 2;have hfz7_3:=blk_frozen BK1.out 3;have hfz7_4:=blk_frozen BK1.out 4;have hfz7_5:=blk_frozen BK1.out 5)|(go_at_call 50;(with_reducible refine (r10_Find.calls k _ _ l1 a2_1 t2 _ ?side1 ?side2 A4.out).mono ?_);(case side1=>exact zc_ (Kd.C_below HR1.out HB.out));(case side2=>exact HC1.out);rintro e w' ⟨rfl,⟨nd,rfl⟩⟩;(try first|exact ⟨rfl,_,World.drewN_drewN _ _ _⟩|exact ⟨rfl,_,Eq.trans (World.drewN_drewN _ _ _) (congrArg (World.drewN _) (Nat.add_assoc _ _ _))⟩)));go_upto_region 3 with (first|((with_reducible refine gate_dst (N:=5) rfl ?_);refine bx_ (N:=5) (cs:=#[.int .i64 a2_0, .string a2_1, .string a2_2, .int .i64 a2_3, .int .i64 a2_4, .int .i64 a2_5]) (t:=58) ?_;intro gb1 hg w6 hbox hb;have BK1:=am_ (hbox);have GW1:=am_ ((zg0_ HB hg:w.heap.size≤gb1));have GE1:=am_ ((zg0_ HB hg:w.heap.size≤gb1));replace HB:=am_ (below_step (zl0_ HB) hb);clear hb hbox hg;obtain ⟨hcz7_0,hcz7_1,hcz7_2,hcz7_3,hcz7_4,hcz7_5⟩:=x6_ BK1;have hfz7_0:=blk_frozen BK1.out 0;have hfz7_1:=blk_frozen BK1.out 1;have hfz7_2:=blk_frozen BK1.out 2;have hfz7_3:=blk_frozen BK1.out 3;have hfz7_4:=blk_frozen BK1.out 4;have hfz7_5:=blk_frozen BK1.out 5)|(go_at_call 50;(with_reducible refine (r10_Find.calls k _ _ l1 a2_1 t2 _ ?side1 ?side2 A4.out).mono ?_);(case side1=>exact zc_ (Kd.C_below HR1.out HB.out));(case side2=>exact HC1.out);rintro e w' ⟨rfl,⟨nd,rfl⟩⟩;(try first|exact ⟨rfl,_,World.drewN_drewN _ _ _⟩|exact ⟨rfl,_,Eq.trans (World.drewN_drewN _ _ _) (congrArg (World.drewN _) (Nat.add_assoc _ _ _))⟩))))
 (try simp only [Act.put,List.setIfInBounds_toArray,List.set_cons_zero,List.set_cons_succ])
 go_cut [9] (fun v9 wc=> ∃(kq:Nat) (x9_4:Bool),v9= .bool x9_4∧Aside0 (r16_Marks.j0 kq l0 l1 ([]:List (S54)) t2 x9_4 a2_0 a2_1 a2_2 a2_3 a2_4 a2_5=some r)∧Aside0 (kq≤k)∧Aside0 (Kd.R k54 54 wc w.heap.size (fun _=>True) (.slice none 0 0) ([]:List (S54)))∧Aside0 (wc.heap[gb1]?=some (.cells #[.int .i64 a2_0, .string a2_1, .string a2_2, .int .i64 a2_3, .int .i64 a2_4, .int .i64 a2_5] 58 (0,0)))∧Aside0 (Below w.heap.size w wc))
 case first=>
  have H:=HC5.out
  clear HC5
  by_cases c8:t2<0
  ·rw [if_pos c8] at H
   have c8b0:decide (t2<0)=true:=decide_eq_true c8
   clear c8
   (first|rw [c8b0]|(simp only [i64_w,i32_w];rw [c8b0])|skip)
   have H':=Aside0.mk H
   clear H
   go_wp2
   repeat (go_quiet (fail);try go_wp2)
   go_meet
   case rel=>exact ⟨_,(true),(by first|rfl|(simp;done)|(simp [*];done)),H',⟨by first|omega|exact Nat.le_refl _⟩,⟨by first|exact Kd.R_nil _ _ _ _ _|exact Kd.N_nil _ _ _ _ _|exact Kd.V_nil _ _ _ _ _|exact Kd.Q_nil _ _ _ _ _|exact Kd.S_nil _ _ _ _ _⟩,⟨by refine zk_ ?_;exact BK1.out⟩,⟨zl1_ HB GE1⟩⟩
  rw [if_neg c8] at H
  have c8b0:decide (t2<0)=false:=decide_eq_false c8
  clear c8
  (first|rw [c8b0]|(simp only [i64_w,i32_w];rw [c8b0])|skip)
  have H':=Aside0.mk H
  clear H
  obtain ⟨hcz9_0,hcz9_1,hcz9_2,hcz9_3,hcz9_4,hcz9_5,hfz9_0,hfz9_1,hfz9_2,hfz9_3,hfz9_4,hfz9_5⟩:=y6_ BK1
  go_wp2
  repeat (go_quiet (fail);try go_wp2)
  go_meet
  case rel=>exact ⟨_,((a2_0==4)),(by first|rfl|(simp;done)|(simp [*];done)),H',⟨by first|omega|exact Nat.le_refl _⟩,⟨by first|exact Kd.R_nil _ _ _ _ _|exact Kd.N_nil _ _ _ _ _|exact Kd.V_nil _ _ _ _ _|exact Kd.Q_nil _ _ _ _ _|exact Kd.S_nil _ _ _ _ _⟩,⟨by refine zk_ ?_;exact BK1.out⟩,⟨zl1_ HB GE1⟩⟩
 case rest=>
  clear HC5
  try clear c1
  try clear p2
  try clear c5
  try clear c8
  try clear c8b0
  try clear hcz7_0
  try clear hcz7_1
  try clear hcz7_2
  try clear hcz7_3
  try clear hcz7_4
  try clear hcz7_5
  try clear hcz9_0
  try clear hcz9_1
  try clear hcz9_2
  try clear hcz9_3
  try clear hcz9_4
  try clear hcz9_5
  try clear hfz7_0
  try clear hfz7_1
  try clear hfz7_2
  try clear hfz7_3
  try clear hfz7_4
  try clear hfz7_5
  try clear hfz9_0
  try clear hfz9_1
  try clear hfz9_2
  try clear hfz9_3
  try clear hfz9_4
  try clear hfz9_5
  obtain ⟨kq,x9_4,rfl,HA,HJ4,HO_7,BK1,HB⟩:=hcut
  cases kq with
  |zero=>exact absurd HA.out (by simp [r16_Marks.j0])
  |succ kj4=>
   have H:=HA.out
   clear HA
   simp only [r16_Marks.j0] at H
   have H':=Aside0.mk H
   clear H
   go_wp2
   repeat (go_quiet (fail);try go_wp2)
   go_loopg [7,9,10] kj4 (fun kq v7 v9 v10 w'=> ∃(x7_2:List (S54)) (x9_2:Bool) (x10_2:Int),v9= .bool x9_2∧v10= .int .i64 x10_2∧Aside0 (r16_Marks.l0 kq l0 l1 x7_2 t2 x9_2 x10_2 a2_0 a2_1 a2_2 a2_3 a2_4 a2_5=some r)∧Aside0 (kq≤kj4)∧Aside0 (Kd.R k54 54 w' w.heap.size (fun _=>True) v7 x7_2)∧Aside0 (w'.heap[gb1]?=some (.cells #[.int .i64 a2_0, .string a2_1, .string a2_2, .int .i64 a2_3, .int .i64 a2_4, .int .i64 a2_5] 58 (0,0)))∧Aside0 (Below w.heap.size w w'))
   case atStart=>exact ⟨(([]:List (S54))),(x9_4),(0),(by first|rfl|(simp;done)|(simp [*];done)),(by first|rfl|(simp;done)|(simp [*];done)),H',⟨Nat.le_refl _⟩,⟨by (with_reducible repeat (first|apply Kd.R_alloc|apply Kd.R_drewN|apply Kd.R_drew));exact HO_7.out⟩,⟨by refine zk_ ?_;exact BK1.out⟩,⟨zl1_ HB GE1⟩⟩
   case round=>
    clear H'
    try clear c1
    try clear p2
    try clear c5
    try clear c8
    try clear c8b0
    try clear hcz7_0
    try clear hcz7_1
    try clear hcz7_2
    try clear hcz7_3
    try clear hcz7_4
    try clear hcz7_5
    try clear hcz9_0
    try clear hcz9_1
    try clear hcz9_2
    try clear hcz9_3
    try clear hcz9_4
    try clear hcz9_5
    try clear hfz7_0
    try clear hfz7_1
    try clear hfz7_2
    try clear hfz7_3
    try clear hfz7_4
    try clear hfz7_5
    try clear hfz9_0
    try clear hfz9_1
    try clear hfz9_2
    try clear hfz9_3
    try clear hfz9_4
    try clear hfz9_5
    try clear p2
    obtain ⟨x7_2,x9_2,x10_2,rfl,rfl,HA,HK2,HO_7,BK1,HB⟩:=hrel
    cases gk with
    |zero=>exact absurd HA.out (by simp [r16_Marks.l0])
    |succ k2=>
     have H:=HA.out
     clear HA
     simp only [r16_Marks.l0] at H
     by_cases c10:x10_2<(l0.length:Int)
     rotate_left
     ·rw [if_neg c10] at H
      have c10b0:decide (x10_2<(l0.length:Int))=false:=decide_eq_false c10
      clear c10
      by_cases c38:x9_2=true
      ·subst c38
       have H1:(some x7_2)=some r:=by rw [if_pos rfl] at H;exact H
       clear H
       have H:=H1
       clear H1
       obtain rfl:=Option.some.inj H
       go_wp2
       repeat (go_quiet (fail);try go_wp2)
       go_ret
       exact ⟨_,by first|rfl|(simp [errW_none,errW_some]<;>rfl)|(simp [*,errW_none,errW_some]<;>rfl),by (with_reducible repeat (first|apply Kd.R_alloc|apply Kd.R_drewN|apply Kd.R_drew));exact HO_7.out,zl1_ HB GE1⟩
      replace c38:=Bool.eq_false_iff.mpr c38
      subst c38
      have H1:(if 0≤t2 then (if t2<(l1.length:Int) then ((r16_mark.f ((rd_T31 l1 t2).f0) ((rd_T31 l1 t2).f1) ((rd_T31 l1 t2).f2.f0) ((rd_T31 l1 t2).f2.f1) ((rd_T31 l1 t2).f2.f2) ((rd_T31 l1 t2).f3.f0) ((rd_T31 l1 t2).f3.f1) ((rd_T31 l1 t2).f3.f2) ((rd_T31 l1 t2).f4.f0) ((rd_T31 l1 t2).f4.f1) ((rd_T31 l1 t2).f4.f2) ((rd_T31 l1 t2).f5)).bind fun bt4=>(if x7_2.length<2199023255552 then (some (x7_2++ [(⟨bt4.1,bt4.2.1,(⟨bt4.2.2.1,bt4.2.2.2.1,bt4.2.2.2.2.1⟩:S27),bt4.2.2.2.2.2⟩:S54)])) else (none))) else (none)) else (none))=some r:=by rw [if_neg (show¬(false=true) by decide)] at H;exact H
      clear H
      have H:=H1
      clear H1
      by_cases c39:0≤t2
      rotate_left
      ·rw [if_neg c39] at H
       exact absurd H (by simp)

      rw [if_pos c39] at H
      have c39b0:decide (0≤t2)=true:=decide_eq_true c39
      clear c39
      by_cases c40:t2<(l1.length:Int)
      rotate_left
      ·rw [if_neg c40] at H
       exact absurd H (by simp)
      rw [if_pos c40] at H
      have c40b0:decide (t2<(l1.length:Int))=true:=decide_eq_true c40
      clear c40
      replace H:=Option.bind_eq_some_iff.mp H
      obtain ⟨⟨t4,t5,t6,t7,t8,t9⟩,A410,H⟩:=H
      try dsimp only at H
      have A41:=Aside0.mk A410
      clear A410
      by_cases c42:x7_2.length<2199023255552
      rotate_left
      ·rw [if_neg c42] at H
       exact absurd H (by simp)
      rw [if_pos c42] at H
      have LMc42:=Aside0.mk c42
      clear c42
      obtain ⟨y10,hy10⟩: ∃y_:List (S54),y_=(x7_2++ [(⟨t4,t5,(⟨t6,t7,t8⟩:S27),t9⟩:S54)]):=⟨_,rfl⟩
      replace H:(some y10)=some r:=by first|(rw [hy10];with_reducible exact H)|(have H2_:=(Option.bind_some _ _).symm.trans H;rw [hy10];with_reducible exact H2_)|(have H2_:=(Option.bind_some _ _).symm.trans H;with_reducible exact H2_)|with_reducible exact H|(rw [hy10];exact H)|exact H
      have Ny10:=Aside0.mk hy10
      clear hy10
      obtain rfl:=Option.some.inj H
      have p3:0≤(t2:Int):=of_decide_eq_true zq_
      have q3:t2<(l1.length:Int):=of_decide_eq_true zq_
      obtain ⟨ad3,e3,hx3_0,hx3_1,hx3_2,hx3_3,hx3_4,hx3_5,hx3_6,hx3_7,hx3_8,hx3_9,hx3_10,hx3_11⟩:=at_T31 HR1.out t2 p3 q3
      cases e3
      replace hx3_0:=zx_ HB hx3_0
      replace hx3_1:=zx_ HB hx3_1
      replace hx3_2:=zx_ HB hx3_2
      replace hx3_3:=zx_ HB hx3_3
      replace hx3_4:=zx_ HB hx3_4
      replace hx3_5:=zx_ HB hx3_5
      replace hx3_6:=zx_ HB hx3_6
      replace hx3_7:=zx_ HB hx3_7
      replace hx3_8:=zx_ HB hx3_8
      replace hx3_9:=zx_ HB hx3_9
      replace hx3_10:=zx_ HB hx3_10
      replace hx3_11:=zx_ HB hx3_11
      replace p3:=eq_true p3
      replace q3:=eq_true q3
      go_wp2_with (first|(go_at_call 109;(with_reducible refine (r16_mark.calls ((rd_T31 l1 t2).f0) ((rd_T31 l1 t2).f1) ((rd_T31 l1 t2).f2.f0) ((rd_T31 l1 t2).f2.f1) ((rd_T31 l1 t2).f2.f2) ((rd_T31 l1 t2).f3.f0) ((rd_T31 l1 t2).f3.f1) ((rd_T31 l1 t2).f3.f2) ((rd_T31 l1 t2).f4.f0) ((rd_T31 l1 t2).f4.f1) ((rd_T31 l1 t2).f4.f2) ((rd_T31 l1 t2).f5) t4 t5 t6 t7 t8 t9 _ A41.out).mono ?_);rintro e w43 ⟨rfl,hb⟩;replace HO_7:=am_ (Kd.R_below (zr_ HO_7) hb);replace BK1:=am_ (blk_below (zb_ BK1) hb);replace HB:=am_ (below_step (zl1_ HB GE1) hb);(try clear hb);(try clear hb2);(try clear hk);(try clear hi))|((with_reducible refine gate_builtin (b:= .append) (xs:=#[.tmp 65, .tmp 71]) rfl ?_);at_builtin;refine Kd.R_append k54 (w0:=w) w.heap.size rfl (.tmp 65) (.tmp 71) 35 54 (.agg #[(.string ⟨#[]⟩),(.string ⟨#[]⟩),(.int .i64 0),(.int .i64 0),(.int .i64 0),(.int .i64 0)]) 64 rfl Try.underlying35 info54 rfl (by decide) (by omega) u7 x7_2 (⟨t4,t5,(⟨t6,t7,t8⟩:S27),t9⟩:S54) [.string t4, .string t5, .int .i64 t6, .int .i64 t7, .int .i64 t8, .int .i64 t9] (fun _=>True) (fun _=>False) rfl rfl ?aP (fun _ hk=>hk.elim) ?aF ?aO ?aB ?aS ?aL ?_;(case aP=>exact k54_mkM _ _ _ (⟨t4,t5,(⟨t6,t7,t8⟩:S27),t9⟩:S54));(case aB=>exact (zl1_ HB GE1));(case aF=>exact (fun _ _=>trivial));(case aO=>exact (zr_ HO_7));(case aS=>exact (below_size (zl1_ HB GE1)));(case aL=>have:=LMc42.out;omega);intro v11 w44 ho hb hg hat;rw [←Ny10.out] at ho;have n0_:=am_ (blk_grown (zb_ BK1) hg (Kd.R_ne HO_7.out BK1.out (by decide)));have n1_:=am_ (hb);have n2_:=am_ (ho);clear BK1;clear HB;clear HO_7;have BK1:=n0_;have HB:=n1_;have HO12:=n2_;clear n0_ n1_ n2_;clear ho hb hg hat))
      repeat (go_quiet (first|(go_at_call 109;(with_reducible refine (r16_mark.calls ((rd_T31 l1 t2).f0) ((rd_T31 l1 t2).f1) ((rd_T31 l1 t2).f2.f0) ((rd_T31 l1 t2).f2.f1) ((rd_T31 l1 t2).f2.f2) ((rd_T31 l1 t2).f3.f0) ((rd_T31 l1 t2).f3.f1) ((rd_T31 l1 t2).f3.f2) ((rd_T31 l1 t2).f4.f0) ((rd_T31 l1 t2).f4.f1) ((rd_T31 l1 t2).f4.f2) ((rd_T31 l1 t2).f5) t4 t5 t6 t7 t8 t9 _ A41.out).mono ?_);rintro e w43 ⟨rfl,hb⟩;replace HO_7:=am_ (Kd.R_below (zr_ HO_7) hb);replace BK1:=am_ (blk_below (zb_ BK1) hb);replace HB:=am_ (below_step (zl1_ HB GE1) hb);(try clear hb);(try clear hb2);(try clear hk);(try clear hi))|((with_reducible refine gate_builtin (b:= .append) (xs:=#[.tmp 65, .tmp 71]) rfl ?_);at_builtin;refine Kd.R_append k54 (w0:=w) w.heap.size rfl (.tmp 65) (.tmp 71) 35 54 (.agg #[(.string ⟨#[]⟩),(.string ⟨#[]⟩),(.int .i64 0),(.int .i64 0),(.int .i64 0),(.int .i64 0)]) 64 rfl Try.underlying35 info54 rfl (by decide) (by omega) u7 x7_2 (⟨t4,t5,(⟨t6,t7,t8⟩:S27),t9⟩:S54) [.string t4, .string t5, .int .i64 t6, .int .i64 t7, .int .i64 t8, .int .i64 t9] (fun _=>True) (fun _=>False) rfl rfl ?aP (fun _ hk=>hk.elim) ?aF ?aO ?aB ?aS ?aL ?_;(case aP=>exact k54_mkM _ _ _ (⟨t4,t5,(⟨t6,t7,t8⟩:S27),t9⟩:S54));(case aB=>exact (zl1_ HB GE1));(case aF=>exact (fun _ _=>trivial));(case aO=>exact (zr_ HO_7));(case aS=>exact (below_size (zl1_ HB GE1)));(case aL=>have:=LMc42.out;omega);intro v11 w44 ho hb hg hat;rw [←Ny10.out] at ho;have n0_:=am_ (blk_grown (zb_ BK1) hg (Kd.R_ne HO_7.out BK1.out (by decide)));have n1_:=am_ (hb);have n2_:=am_ (ho);clear BK1;clear HB;clear HO_7;have BK1:=n0_;have HB:=n1_;have HO12:=n2_;clear n0_ n1_ n2_;clear ho hb hg hat));try go_wp2_with (first|(go_at_call 109;(with_reducible refine (r16_mark.calls ((rd_T31 l1 t2).f0) ((rd_T31 l1 t2).f1) ((rd_T31 l1 t2).f2.f0) ((rd_T31 l1 t2).f2.f1) ((rd_T31 l1 t2).f2.f2) ((rd_T31 l1 t2).f3.f0) ((rd_T31 l1 t2).f3.f1) ((rd_T31 l1 t2).f3.f2) ((rd_T31 l1 t2).f4.f0) ((rd_T31 l1 t2).f4.f1) ((rd_T31 l1 t2).f4.f2) ((rd_T31 l1 t2).f5) t4 t5 t6 t7 t8 t9 _ A41.out).mono ?_);rintro e w43 ⟨rfl,hb⟩;replace HO_7:=am_ (Kd.R_below (zr_ HO_7) hb);replace BK1:=am_ (blk_below (zb_ BK1) hb);replace HB:=am_ (below_step (zl1_ HB GE1) hb);(try clear hb);(try clear hb2);(try clear hk);(try clear hi))|((with_reducible refine gate_builtin (b:= .append) (xs:=#[.tmp 65, .tmp 71]) rfl ?_);at_builtin;refine Kd.R_append k54 (w0:=w) w.heap.size rfl (.tmp 65) (.tmp 71) 35 54 (.agg #[(.string ⟨#[]⟩),(.string ⟨#[]⟩),(.int .i64 0),(.int .i64 0),(.int .i64 0),(.int .i64 0)]) 64 rfl Try.underlying35 info54 rfl (by decide) (by omega) u7 x7_2 (⟨t4,t5,(⟨t6,t7,t8⟩:S27),t9⟩:S54) [.string t4, .string t5, .int .i64 t6, .int .i64 t7, .int .i64 t8, .int .i64 t9] (fun _=>True) (fun _=>False) rfl rfl ?aP (fun _ hk=>hk.elim) ?aF ?aO ?aB ?aS ?aL ?_;(case aP=>exact k54_mkM _ _ _ (⟨t4,t5,(⟨t6,t7,t8⟩:S27),t9⟩:S54));(case aB=>exact (zl1_ HB GE1));(case aF=>exact (fun _ _=>trivial));(case aO=>exact (zr_ HO_7));(case aS=>exact (below_size (zl1_ HB GE1)));(case aL=>have:=LMc42.out;omega);intro v11 w44 ho hb hg hat;rw [←Ny10.out] at ho;have n0_:=am_ (blk_grown (zb_ BK1) hg (Kd.R_ne HO_7.out BK1.out (by decide)));have n1_:=am_ (hb);have n2_:=am_ (ho);clear BK1;clear HB;clear HO_7;have BK1:=n0_;have HB:=n1_;have HO12:=n2_;clear n0_ n1_ n2_;clear ho hb hg hat)))
      go_ret
      exact ⟨_,by first|rfl|(simp [errW_none,errW_some]<;>rfl)|(simp [*,errW_none,errW_some]<;>rfl),by (with_reducible repeat (first|apply Kd.R_alloc|apply Kd.R_drewN|apply Kd.R_drew));exact HO12.out,zl1_ HB GE1⟩
     rw [if_pos c10] at H
     have c10b0:decide (x10_2<(l0.length:Int))=true:=decide_eq_true c10
     clear c10
     have HC11:=Aside0.mk H
     clear H
     go_upto_region 7 with (fail)
     repeat (go_quiet (fail);go_upto_region 7 with (fail))
     go_cut [39] (fun v39 wc=> ∃(kq:Nat) (x39_10:Bool),v39= .bool x39_10∧Aside0 (r16_Marks.j2 kq l0 l1 x7_2 t2 x9_2 x10_2 x39_10 a2_0 a2_1 a2_2 a2_3 a2_4 a2_5=some r)∧Aside0 (kq≤k2)∧Aside0 (Kd.R k54 54 wc w.heap.size (fun _=>True) u7 x7_2)∧Aside0 (wc.heap[gb1]?=some (.cells #[.int .i64 a2_0, .string a2_1, .string a2_2, .int .i64 a2_3, .int .i64 a2_4, .int .i64 a2_5] 58 (0,0)))∧Aside0 (Below w.heap.size w wc))
     case first=>
      have H:=HC11.out
      clear HC11
      by_cases c12:x9_2=true
      ·subst c12
       have H1:(r16_Marks.j2 k2 l0 l1 x7_2 t2 true x10_2 false a2_0 a2_1 a2_2 a2_3 a2_4 a2_5)=some r:=by rw [if_pos rfl] at H;exact H
       clear H
       have H:=H1
       clear H1
       have H':=Aside0.mk H
       clear H
       go_wp2
       repeat (go_quiet (fail);try go_wp2)
       go_meet
       case rel=>exact ⟨_,(false),(by first|rfl|(simp;done)|(simp [*];done)),H',⟨by have:=HJ4.out;have:=HK2.out;first|omega|exact Nat.le_refl _⟩,⟨by (with_reducible repeat (first|apply Kd.R_alloc|apply Kd.R_drewN|apply Kd.R_drew));exact HO_7.out⟩,⟨by refine zk_ ?_;exact BK1.out⟩,⟨zl1_ HB GE1⟩⟩
      replace c12:=Bool.eq_false_iff.mpr c12
      subst c12
      have H1:(if 0≤x10_2 then (r16_Marks.j2 k2 l0 l1 x7_2 t2 false x10_2 (!(Op.bytesLess (((rd_T54 l0 x10_2).f0).toList) a2_1.toList)) a2_0 a2_1 a2_2 a2_3 a2_4 a2_5) else (none))=some r:=by rw [if_neg (show¬(false=true) by decide)] at H;exact H
      clear H
      have H:=H1
      clear H1
      by_cases c13:0≤x10_2
      rotate_left
      ·rw [if_neg c13] at H
       exact absurd H (by simp)
      rw [if_pos c13] at H
      have c13b0:decide (0≤x10_2)=true:=decide_eq_true c13
      clear c13
      (first|rw [c13b0]|(simp only [i64_w,i32_w];rw [c13b0])|skip)
      have H':=Aside0.mk H
      clear H
      have p13:0≤(x10_2:Int):=of_decide_eq_true zq_
      have q13:x10_2<(l0.length:Int):=of_decide_eq_true zq_
      obtain ⟨ad13,e13,hx13_0,hx13_1,hx13_2,hx13_3,hx13_4,hx13_5⟩:=at_T54 HR0.out x10_2 p13 q13
      cases e13
      replace hx13_0:=zx_ HB hx13_0
      replace hx13_1:=zx_ HB hx13_1
      replace hx13_2:=zx_ HB hx13_2
      replace hx13_3:=zx_ HB hx13_3
      replace hx13_4:=zx_ HB hx13_4
      replace hx13_5:=zx_ HB hx13_5
      replace p13:=eq_true p13
      replace q13:=eq_true q13
      obtain ⟨hcz14_0,hcz14_1,hcz14_2,hcz14_3,hcz14_4,hcz14_5,hfz14_0,hfz14_1,hfz14_2,hfz14_3,hfz14_4,hfz14_5⟩:=y6_ BK1
      go_wp2
      repeat (go_quiet (fail);try go_wp2)
      go_meet
      case rel=>exact ⟨_,(!(Op.bytesLess (((rd_T54 l0 x10_2).f0).toList) a2_1.toList)),(by first|rfl|(simp;done)|(simp [*];done)),H',⟨by have:=HJ4.out;have:=HK2.out;first|omega|exact Nat.le_refl _⟩,⟨by (with_reducible repeat (first|apply Kd.R_alloc|apply Kd.R_drewN|apply Kd.R_drew));exact HO_7.out⟩,⟨by refine zk_ ?_;exact BK1.out⟩,⟨zl1_ HB GE1⟩⟩
     case rest=>
      clear HC11
      try clear c1
      try clear p1
      try clear q1
      try clear hx1
      try clear p2
      try clear c5
      try clear c8
      try clear c8b0
      try clear c10
      try clear c10b0
      try clear c12
      try clear c13
      try clear c13b0
      try clear p13
      try clear q13
      try clear hx13
      try clear hcz14_0
      try clear hcz14_1
      try clear hcz14_2
      try clear hcz14_3
      try clear hcz14_4
      try clear hcz14_5
      try clear hcz7_0
      try clear hcz7_1
      try clear hcz7_2
      try clear hcz7_3
      try clear hcz7_4
      try clear hcz7_5
      try clear hcz9_0
      try clear hcz9_1
      try clear hcz9_2
      try clear hcz9_3
      try clear hcz9_4
      try clear hcz9_5
      try clear hfz14_0
      try clear hfz14_1
      try clear hfz14_2
      try clear hfz14_3
      try clear hfz14_4
      try clear hfz14_5
      try clear hfz7_0
      try clear hfz7_1
      try clear hfz7_2
      try clear hfz7_3
      try clear hfz7_4
      try clear hfz7_5
      try clear hfz9_0
      try clear hfz9_1
      try clear hfz9_2
      try clear hfz9_3
      try clear hfz9_4
      try clear hfz9_5
      try clear hx13_0
      try clear hx13_1
      try clear hx13_2
      try clear hx13_3
      try clear hx13_4
      try clear hx13_5
      try clear p13
      try clear p2
      try clear q13
      obtain ⟨kq,x39_10,rfl,HA,HJ10,HO_7,BK1,HB⟩:=hcut
      cases kq with
      |zero=>exact absurd HA.out (by simp [r16_Marks.j2])
      |succ kj10=>
       have H:=HA.out
       clear HA
       simp only [r16_Marks.j2] at H
       by_cases c15:x39_10=true
       rotate_left
       ·replace c15:=Bool.eq_false_iff.mpr c15
        subst c15
        have H1:(if 0≤x10_2 then (if x10_2<(l0.length:Int) then (if ((rd_T54 l0 x10_2).f0).toList=a2_1.toList then (r16_Marks.l0 kj10 l0 l1 x7_2 t2 x9_2 (wrap64 (x10_2+1)) a2_0 a2_1 a2_2 a2_3 a2_4 a2_5) else (if x7_2.length<2199023255552 then (r16_Marks.l0 kj10 l0 l1 (x7_2++ [(⟨(rd_T54 l0 x10_2).f0,(rd_T54 l0 x10_2).f1,(⟨(rd_T54 l0 x10_2).f2.f0,(rd_T54 l0 x10_2).f2.f1,(rd_T54 l0 x10_2).f2.f2⟩:S27),(rd_T54 l0 x10_2).f3⟩:S54)]) t2 x9_2 (wrap64 (x10_2+1)) a2_0 a2_1 a2_2 a2_3 a2_4 a2_5) else (none))) else (none)) else (none))=some r:=by rw [if_neg (show¬(false=true) by decide)] at H;exact H
        clear H
        have H:=H1
        clear H1
        by_cases c31:0≤x10_2
        rotate_left
        ·rw [if_neg c31] at H
         exact absurd H (by simp)
        rw [if_pos c31] at H
        have c31b0:decide (0≤x10_2)=true:=decide_eq_true c31
        clear c31
        by_cases c32:x10_2<(l0.length:Int)
        rotate_left
        ·rw [if_neg c32] at H
         exact absurd H (by simp)
        rw [if_pos c32] at H
        have c32b0:decide (x10_2<(l0.length:Int))=true:=decide_eq_true c32
        clear c32
        by_cases c33:((rd_T54 l0 x10_2).f0).toList=a2_1.toList
        ·rw [if_pos c33] at H
         have c33b0:(((rd_T54 l0 x10_2).f0).toList==a2_1.toList)=true:=beq_iff_eq.mpr c33
         have c33b1:(((rd_T54 l0 x10_2).f0).toList !=a2_1.toList)=false:=bne_eq_false_iff_eq.mpr c33
         clear c33
         have H':=Aside0.mk H
         clear H
         have p29:0≤(x10_2:Int):=of_decide_eq_true zq_
         have q29:x10_2<(l0.length:Int):=of_decide_eq_true zq_
         obtain ⟨ad29,e29,hx29_0,hx29_1,hx29_2,hx29_3,hx29_4,hx29_5⟩:=at_T54 HR0.out x10_2 p29 q29
         cases e29
         replace hx29_0:=zx_ HB hx29_0
         replace hx29_1:=zx_ HB hx29_1
         replace hx29_2:=zx_ HB hx29_2
         replace hx29_3:=zx_ HB hx29_3
         replace hx29_4:=zx_ HB hx29_4
         replace hx29_5:=zx_ HB hx29_5
         replace p29:=eq_true p29
         replace q29:=eq_true q29
         obtain ⟨hcz34_0,hcz34_1,hcz34_2,hcz34_3,hcz34_4,hcz34_5,hfz34_0,hfz34_1,hfz34_2,hfz34_3,hfz34_4,hfz34_5⟩:=y6_ BK1
         go_wp2
         repeat (go_quiet (fail);try go_wp2)
         go_roundg kj10
         case measure=>have:=HJ4.out;have:=HK2.out;have:=HJ10.out;omega
         case rel=>exact ⟨(x7_2),(x9_2),(wrap64 (x10_2+1)),(by first|rfl|(simp;done)|(simp [*];done)),(by first|rfl|(simp;done)|(simp [*];done)),H',⟨by have:=HJ4.out;have:=HK2.out;have:=HJ10.out;omega⟩,⟨by (with_reducible repeat (first|apply Kd.R_alloc|apply Kd.R_drewN|apply Kd.R_drew));exact HO_7.out⟩,⟨by refine zk_ ?_;exact BK1.out⟩,⟨zl1_ HB GE1⟩⟩
        rw [if_neg c33] at H
        have c33b0:(((rd_T54 l0 x10_2).f0).toList==a2_1.toList)=false:=beq_eq_false_iff_ne.mpr c33
        have c33b1:(((rd_T54 l0 x10_2).f0).toList !=a2_1.toList)=true:=bne_iff_ne.mpr c33
        by_cases c35:x7_2.length<2199023255552
        rotate_left
        ·rw [if_neg c35] at H
         exact absurd H (by simp)
        rw [if_pos c35] at H
        have LMc35:=Aside0.mk c35
        clear c35
        obtain ⟨y31,hy31⟩: ∃y_:List (S54),y_=(x7_2++ [(⟨(rd_T54 l0 x10_2).f0,(rd_T54 l0 x10_2).f1,(⟨(rd_T54 l0 x10_2).f2.f0,(rd_T54 l0 x10_2).f2.f1,(rd_T54 l0 x10_2).f2.f2⟩:S27),(rd_T54 l0 x10_2).f3⟩:S54)]):=⟨_,rfl⟩
        replace H:(r16_Marks.l0 kj10 l0 l1 y31 t2 x9_2 (wrap64 (x10_2+1)) a2_0 a2_1 a2_2 a2_3 a2_4 a2_5)=some r:=by first|(rw [hy31];with_reducible exact H)|(have H2_:=(Option.bind_some _ _).symm.trans H;rw [hy31];with_reducible exact H2_)|(have H2_:=(Option.bind_some _ _).symm.trans H;with_reducible exact H2_)|with_reducible exact H|(rw [hy31];exact H)|exact H
        have Ny31:=Aside0.mk hy31
        clear hy31
        have H':=Aside0.mk H
        clear H
        have p29:0≤(x10_2:Int):=of_decide_eq_true zq_
        have q29:x10_2<(l0.length:Int):=of_decide_eq_true zq_
        obtain ⟨ad29,e29,hx29_0,hx29_1,hx29_2,hx29_3,hx29_4,hx29_5⟩:=at_T54 HR0.out x10_2 p29 q29
        cases e29
        replace hx29_0:=zx_ HB hx29_0
        replace hx29_1:=zx_ HB hx29_1
        replace hx29_2:=zx_ HB hx29_2
        replace hx29_3:=zx_ HB hx29_3
        replace hx29_4:=zx_ HB hx29_4
        replace hx29_5:=zx_ HB hx29_5
        replace p29:=eq_true p29
        replace q29:=eq_true q29
        obtain ⟨hcz36_0,hcz36_1,hcz36_2,hcz36_3,hcz36_4,hcz36_5,hfz36_0,hfz36_1,hfz36_2,hfz36_3,hfz36_4,hfz36_5⟩:=y6_ BK1
        have p30:0≤(x10_2:Int):=of_decide_eq_true zq_
        have q30:x10_2<(l0.length:Int):=of_decide_eq_true zq_
        obtain ⟨ad30,e30,hx30_0,hx30_1,hx30_2,hx30_3,hx30_4,hx30_5⟩:=at_T54 HR0.out x10_2 p30 q30
        obtain rfl:ad29=ad30:=(by injection e30)
        replace hx30_0:=zx_ HB hx30_0
        replace hx30_1:=zx_ HB hx30_1
        replace hx30_2:=zx_ HB hx30_2
        replace hx30_3:=zx_ HB hx30_3
        replace hx30_4:=zx_ HB hx30_4
        replace hx30_5:=zx_ HB hx30_5
        replace p30:=eq_true p30
        replace q30:=eq_true q30
        go_wp2_with (first|((with_reducible refine gate_builtin (b:= .append) (xs:=#[.tmp 56, .tmp 61]) rfl ?_);at_builtin;refine Kd.R_append k54 (w0:=w) w.heap.size rfl (.tmp 56) (.tmp 61) 35 54 (.agg #[(.string ⟨#[]⟩),(.string ⟨#[]⟩),(.int .i64 0),(.int .i64 0),(.int .i64 0),(.int .i64 0)]) 64 rfl Try.underlying35 info54 rfl (by decide) (by omega) u7 x7_2 (⟨(rd_T54 l0 x10_2).f0,(rd_T54 l0 x10_2).f1,(⟨(rd_T54 l0 x10_2).f2.f0,(rd_T54 l0 x10_2).f2.f1,(rd_T54 l0 x10_2).f2.f2⟩:S27),(rd_T54 l0 x10_2).f3⟩:S54) [.string ((rd_T54 l0 x10_2).f0), .string ((rd_T54 l0 x10_2).f1), .int .i64 ((rd_T54 l0 x10_2).f2.f0), .int .i64 ((rd_T54 l0 x10_2).f2.f1), .int .i64 ((rd_T54 l0 x10_2).f2.f2), .int .i64 ((rd_T54 l0 x10_2).f3)] (fun _=>True) (fun _=>False) rfl rfl ?aP (fun _ hk=>hk.elim) ?aF ?aO ?aB ?aS ?aL ?_;(case aP=>exact k54_mkM _ _ _ (⟨(rd_T54 l0 x10_2).f0,(rd_T54 l0 x10_2).f1,(⟨(rd_T54 l0 x10_2).f2.f0,(rd_T54 l0 x10_2).f2.f1,(rd_T54 l0 x10_2).f2.f2⟩:S27),(rd_T54 l0 x10_2).f3⟩:S54));(case aB=>exact (zl1_ HB GE1));(case aF=>exact (fun _ _=>trivial));(case aO=>exact (zr_ HO_7));(case aS=>exact (below_size (zl1_ HB GE1)));(case aL=>have:=LMc35.out;omega);intro v32 w37 ho hb hg hat;rw [←Ny31.out] at ho;have n0_:=am_ (blk_grown (zb_ BK1) hg (Kd.R_ne HO_7.out BK1.out (by decide)));have n1_:=am_ (hb);have n2_:=am_ (ho);clear BK1;clear HB;clear HO_7;have BK1:=n0_;have HB:=n1_;have HO33:=n2_;clear n0_ n1_ n2_;clear ho hb hg hat))
        repeat (go_quiet (first|((with_reducible refine gate_builtin (b:= .append) (xs:=#[.tmp 56, .tmp 61]) rfl ?_);at_builtin;refine Kd.R_append k54 (w0:=w) w.heap.size rfl (.tmp 56) (.tmp 61) 35 54 (.agg #[(.string ⟨#[]⟩),(.string ⟨#[]⟩),(.int .i64 0),(.int .i64 0),(.int .i64 0),(.int .i64 0)]) 64 rfl Try.underlying35 info54 rfl (by decide) (by omega) u7 x7_2 (⟨(rd_T54 l0 x10_2).f0,(rd_T54 l0 x10_2).f1,(⟨(rd_T54 l0 x10_2).f2.f0,(rd_T54 l0 x10_2).f2.f1,(rd_T54 l0 x10_2).f2.f2⟩:S27),(rd_T54 l0 x10_2).f3⟩:S54) [.string ((rd_T54 l0 x10_2).f0), .string ((rd_T54 l0 x10_2).f1), .int .i64 ((rd_T54 l0 x10_2).f2.f0), .int .i64 ((rd_T54 l0 x10_2).f2.f1), .int .i64 ((rd_T54 l0 x10_2).f2.f2), .int .i64 ((rd_T54 l0 x10_2).f3)] (fun _=>True) (fun _=>False) rfl rfl ?aP (fun _ hk=>hk.elim) ?aF ?aO ?aB ?aS ?aL ?_;(case aP=>exact k54_mkM _ _ _ (⟨(rd_T54 l0 x10_2).f0,(rd_T54 l0 x10_2).f1,(⟨(rd_T54 l0 x10_2).f2.f0,(rd_T54 l0 x10_2).f2.f1,(rd_T54 l0 x10_2).f2.f2⟩:S27),(rd_T54 l0 x10_2).f3⟩:S54));(case aB=>exact (zl1_ HB GE1));(case aF=>exact (fun _ _=>trivial));(case aO=>exact (zr_ HO_7));(case aS=>exact (below_size (zl1_ HB GE1)));(case aL=>have:=LMc35.out;omega);intro v32 w37 ho hb hg hat;rw [←Ny31.out] at ho;have n0_:=am_ (blk_grown (zb_ BK1) hg (Kd.R_ne HO_7.out BK1.out (by decide)));have n1_:=am_ (hb);have n2_:=am_ (ho);clear BK1;clear HB;clear HO_7;have BK1:=n0_;have HB:=n1_;have HO33:=n2_;clear n0_ n1_ n2_;clear ho hb hg hat));try go_wp2_with (first|((with_reducible refine gate_builtin (b:= .append) (xs:=#[.tmp 56, .tmp 61]) rfl ?_);at_builtin;refine Kd.R_append k54 (w0:=w) w.heap.size rfl (.tmp 56) (.tmp 61) 35 54 (.agg #[(.string ⟨#[]⟩),(.string ⟨#[]⟩),(.int .i64 0),(.int .i64 0),(.int .i64 0),(.int .i64 0)]) 64 rfl Try.underlying35 info54 rfl (by decide) (by omega) u7 x7_2 (⟨(rd_T54 l0 x10_2).f0,(rd_T54 l0 x10_2).f1,(⟨(rd_T54 l0 x10_2).f2.f0,(rd_T54 l0 x10_2).f2.f1,(rd_T54 l0 x10_2).f2.f2⟩:S27),(rd_T54 l0 x10_2).f3⟩:S54) [.string ((rd_T54 l0 x10_2).f0), .string ((rd_T54 l0 x10_2).f1), .int .i64 ((rd_T54 l0 x10_2).f2.f0), .int .i64 ((rd_T54 l0 x10_2).f2.f1), .int .i64 ((rd_T54 l0 x10_2).f2.f2), .int .i64 ((rd_T54 l0 x10_2).f3)] (fun _=>True) (fun _=>False) rfl rfl ?aP (fun _ hk=>hk.elim) ?aF ?aO ?aB ?aS ?aL ?_;(case aP=>exact k54_mkM _ _ _ (⟨(rd_T54 l0 x10_2).f0,(rd_T54 l0 x10_2).f1,(⟨(rd_T54 l0 x10_2).f2.f0,(rd_T54 l0 x10_2).f2.f1,(rd_T54 l0 x10_2).f2.f2⟩:S27),(rd_T54 l0 x10_2).f3⟩:S54));(case aB=>exact (zl1_ HB GE1));(case aF=>exact (fun _ _=>trivial));(case aO=>exact (zr_ HO_7));(case aS=>exact (below_size (zl1_ HB GE1)));(case aL=>have:=LMc35.out;omega);intro v32 w37 ho hb hg hat;rw [←Ny31.out] at ho;have n0_:=am_ (blk_grown (zb_ BK1) hg (Kd.R_ne HO_7.out BK1.out (by decide)));have n1_:=am_ (hb);have n2_:=am_ (ho);clear BK1;clear HB;clear HO_7;have BK1:=n0_;have HB:=n1_;have HO33:=n2_;clear n0_ n1_ n2_;clear ho hb hg hat)))
        go_roundg kj10
        case measure=>have:=HJ4.out;have:=HK2.out;have:=HJ10.out;omega
        case rel=>exact ⟨(y31),(x9_2),(wrap64 (x10_2+1)),(by first|rfl|(simp;done)|(simp [*];done)),(by first|rfl|(simp;done)|(simp [*];done)),H',⟨by have:=HJ4.out;have:=HK2.out;have:=HJ10.out;omega⟩,⟨by (with_reducible repeat (first|apply Kd.R_alloc|apply Kd.R_drewN|apply Kd.R_drew));exact HO33.out⟩,⟨by refine zk_ ?_;exact BK1.out⟩,⟨zl1_ HB GE1⟩⟩
       subst c15
       have H1:(if 0≤t2 then (if t2<(l1.length:Int) then ((r16_mark.f ((rd_T31 l1 t2).f0) ((rd_T31 l1 t2).f1) ((rd_T31 l1 t2).f2.f0) ((rd_T31 l1 t2).f2.f1) ((rd_T31 l1 t2).f2.f2) ((rd_T31 l1 t2).f3.f0) ((rd_T31 l1 t2).f3.f1) ((rd_T31 l1 t2).f3.f2) ((rd_T31 l1 t2).f4.f0) ((rd_T31 l1 t2).f4.f1) ((rd_T31 l1 t2).f4.f2) ((rd_T31 l1 t2).f5)).bind fun bt15=>(if x7_2.length<2199023255552 then ((some (x7_2++ [(⟨bt15.1,bt15.2.1,(⟨bt15.2.2.1,bt15.2.2.2.1,bt15.2.2.2.2.1⟩:S27),bt15.2.2.2.2.2⟩:S54)]:List (S54))).bind fun y21=>(if 0≤x10_2 then (if x10_2<(l0.length:Int) then (if ((rd_T54 l0 x10_2).f0).toList=a2_1.toList then (r16_Marks.l0 kj10 l0 l1 y21 t2 true (wrap64 (x10_2+1)) a2_0 a2_1 a2_2 a2_3 a2_4 a2_5) else (if y21.length<2199023255552 then (r16_Marks.l0 kj10 l0 l1 (y21++ [(⟨(rd_T54 l0 x10_2).f0,(rd_T54 l0 x10_2).f1,(⟨(rd_T54 l0 x10_2).f2.f0,(rd_T54 l0 x10_2).f2.f1,(rd_T54 l0 x10_2).f2.f2⟩:S27),(rd_T54 l0 x10_2).f3⟩:S54)]) t2 true (wrap64 (x10_2+1)) a2_0 a2_1 a2_2 a2_3 a2_4 a2_5) else (none))) else (none)) else (none))) else (none))) else (none)) else (none))=some r:=by rw [if_pos rfl] at H;exact H
       clear H
       have H:=H1
       clear H1
       by_cases c16:0≤t2
       rotate_left
       ·rw [if_neg c16] at H
        exact absurd H (by simp)
       rw [if_pos c16] at H
       have c16b0:decide (0≤t2)=true:=decide_eq_true c16
       clear c16
       by_cases c17:t2<(l1.length:Int)
       rotate_left
       ·rw [if_neg c17] at H
        exact absurd H (by simp)
       rw [if_pos c17] at H
       have c17b0:decide (t2<(l1.length:Int))=true:=decide_eq_true c17
       clear c17
       replace H:=Option.bind_eq_some_iff.mp H
       obtain ⟨⟨t15,t16,t17,t18,t19,t20⟩,A180,H⟩:=H
       try dsimp only at H
       have A18:=Aside0.mk A180
       clear A180
       by_cases c19:x7_2.length<2199023255552
       rotate_left
       ·rw [if_neg c19] at H
        exact absurd H (by simp)
       rw [if_pos c19] at H
       have LMc19:=Aside0.mk c19
       clear c19
       obtain ⟨y21,hy21⟩: ∃y_:List (S54),y_=(x7_2++ [(⟨t15,t16,(⟨t17,t18,t19⟩:S27),t20⟩:S54)]):=⟨_,rfl⟩
       replace H:(if 0≤x10_2 then (if x10_2<(l0.length:Int) then (if ((rd_T54 l0 x10_2).f0).toList=a2_1.toList then (r16_Marks.l0 kj10 l0 l1 y21 t2 true (wrap64 (x10_2+1)) a2_0 a2_1 a2_2 a2_3 a2_4 a2_5) else (if y21.length<2199023255552 then (r16_Marks.l0 kj10 l0 l1 (y21++ [(⟨(rd_T54 l0 x10_2).f0,(rd_T54 l0 x10_2).f1,(⟨(rd_T54 l0 x10_2).f2.f0,(rd_T54 l0 x10_2).f2.f1,(rd_T54 l0 x10_2).f2.f2⟩:S27),(rd_T54 l0 x10_2).f3⟩:S54)]) t2 true (wrap64 (x10_2+1)) a2_0 a2_1 a2_2 a2_3 a2_4 a2_5) else (none))) else (none)) else (none))=some r:=by first|(rw [hy21];with_reducible exact H)|(have H2_:=(Option.bind_some _ _).symm.trans H;rw [hy21];with_reducible exact H2_)|(have H2_:=(Option.bind_some _ _).symm.trans H;with_reducible exact H2_)|with_reducible exact H|(rw [hy21];exact H)|exact H
       have Ny21:=Aside0.mk hy21
       clear hy21
       by_cases c20:0≤x10_2
       rotate_left
       ·rw [if_neg c20] at H
        exact absurd H (by simp)
       rw [if_pos c20] at H
       have c20b0:decide (0≤x10_2)=true:=decide_eq_true c20
       clear c20
       by_cases c21:x10_2<(l0.length:Int)
       rotate_left
       ·rw [if_neg c21] at H
        exact absurd H (by simp)
       rw [if_pos c21] at H
       have c21b0:decide (x10_2<(l0.length:Int))=true:=decide_eq_true c21
       clear c21
       by_cases c22:((rd_T54 l0 x10_2).f0).toList=a2_1.toList
       ·rw [if_pos c22] at H
        have c22b0:(((rd_T54 l0 x10_2).f0).toList==a2_1.toList)=true:=beq_iff_eq.mpr c22
        have c22b1:(((rd_T54 l0 x10_2).f0).toList !=a2_1.toList)=false:=bne_eq_false_iff_eq.mpr c22
        clear c22
        have H':=Aside0.mk H
        clear H
        have p14:0≤(t2:Int):=of_decide_eq_true zq_
        have q14:t2<(l1.length:Int):=of_decide_eq_true zq_
        obtain ⟨ad14,e14,hx14_0,hx14_1,hx14_2,hx14_3,hx14_4,hx14_5,hx14_6,hx14_7,hx14_8,hx14_9,hx14_10,hx14_11⟩:=at_T31 HR1.out t2 p14 q14
        cases e14
        replace hx14_0:=zx_ HB hx14_0
        replace hx14_1:=zx_ HB hx14_1
        replace hx14_2:=zx_ HB hx14_2
        replace hx14_3:=zx_ HB hx14_3
        replace hx14_4:=zx_ HB hx14_4
        replace hx14_5:=zx_ HB hx14_5
        replace hx14_6:=zx_ HB hx14_6
        replace hx14_7:=zx_ HB hx14_7
        replace hx14_8:=zx_ HB hx14_8
        replace hx14_9:=zx_ HB hx14_9
        replace hx14_10:=zx_ HB hx14_10
        replace hx14_11:=zx_ HB hx14_11
        replace p14:=eq_true p14
        replace q14:=eq_true q14
        go_wp2_with (first|(go_at_call 109;(with_reducible refine (r16_mark.calls ((rd_T31 l1 t2).f0) ((rd_T31 l1 t2).f1) ((rd_T31 l1 t2).f2.f0) ((rd_T31 l1 t2).f2.f1) ((rd_T31 l1 t2).f2.f2) ((rd_T31 l1 t2).f3.f0) ((rd_T31 l1 t2).f3.f1) ((rd_T31 l1 t2).f3.f2) ((rd_T31 l1 t2).f4.f0) ((rd_T31 l1 t2).f4.f1) ((rd_T31 l1 t2).f4.f2) ((rd_T31 l1 t2).f5) t15 t16 t17 t18 t19 t20 _ A18.out).mono ?_);rintro e w23 ⟨rfl,hb⟩;replace HO_7:=am_ (Kd.R_below (zr_ HO_7) hb);replace BK1:=am_ (blk_below (zb_ BK1) hb);replace HB:=am_ (below_step (zl1_ HB GE1) hb);(try clear hb);(try clear hb2);(try clear hk);(try clear hi))|((with_reducible refine gate_builtin (b:= .append) (xs:=#[.tmp 40, .tmp 46]) rfl ?_);at_builtin;refine Kd.R_append k54 (w0:=w) w.heap.size rfl (.tmp 40) (.tmp 46) 35 54 (.agg #[(.string ⟨#[]⟩),(.string ⟨#[]⟩),(.int .i64 0),(.int .i64 0),(.int .i64 0),(.int .i64 0)]) 64 rfl Try.underlying35 info54 rfl (by decide) (by omega) u7 x7_2 (⟨t15,t16,(⟨t17,t18,t19⟩:S27),t20⟩:S54) [.string t15, .string t16, .int .i64 t17, .int .i64 t18, .int .i64 t19, .int .i64 t20] (fun _=>True) (fun _=>False) rfl rfl ?aP (fun _ hk=>hk.elim) ?aF ?aO ?aB ?aS ?aL ?_;(case aP=>exact k54_mkM _ _ _ (⟨t15,t16,(⟨t17,t18,t19⟩:S27),t20⟩:S54));(case aB=>exact (zl1_ HB GE1));(case aF=>exact (fun _ _=>trivial));(case aO=>exact (zr_ HO_7));(case aS=>exact (below_size (zl1_ HB GE1)));(case aL=>have:=LMc19.out;omega);intro v22 w24 ho hb hg hat;rw [←Ny21.out] at ho;have n0_:=am_ (blk_grown (zb_ BK1) hg (Kd.R_ne HO_7.out BK1.out (by decide)));have n1_:=am_ (hb);have n2_:=am_ (ho);clear BK1;clear HB;clear HO_7;have BK1:=n0_;have HB:=n1_;have HO23:=n2_;clear n0_ n1_ n2_;clear ho hb hg hat;have p24:0≤(x10_2:Int):=of_decide_eq_true zq_;have q24:x10_2<(l0.length:Int):=of_decide_eq_true zq_;obtain ⟨ad24,e24,hx24_0,hx24_1,hx24_2,hx24_3,hx24_4,hx24_5⟩:=at_T54 HR0.out x10_2 p24 q24;cases e24;replace hx24_0:=zx_ HB hx24_0;replace hx24_1:=zx_ HB hx24_1;replace hx24_2:=zx_ HB hx24_2;replace hx24_3:=zx_ HB hx24_3;replace hx24_4:=zx_ HB hx24_4;replace hx24_5:=zx_ HB hx24_5;replace p24:=eq_true p24;replace q24:=eq_true q24;obtain ⟨hcz25_0,hcz25_1,hcz25_2,hcz25_3,hcz25_4,hcz25_5⟩:=x6_ BK1;have hfz25_0:=blk_frozen BK1.out 0;have hfz25_1:=blk_frozen BK1.out 1;have hfz25_2:=blk_frozen BK1.out 2;have hfz25_3:=blk_frozen BK1.out 3;have hfz25_4:=blk_frozen BK1.out 4;have hfz25_5:=blk_frozen BK1.out 5))
        repeat (go_quiet (first|(go_at_call 109;(with_reducible refine (r16_mark.calls ((rd_T31 l1 t2).f0) ((rd_T31 l1 t2).f1) ((rd_T31 l1 t2).f2.f0) ((rd_T31 l1 t2).f2.f1) ((rd_T31 l1 t2).f2.f2) ((rd_T31 l1 t2).f3.f0) ((rd_T31 l1 t2).f3.f1) ((rd_T31 l1 t2).f3.f2) ((rd_T31 l1 t2).f4.f0) ((rd_T31 l1 t2).f4.f1) ((rd_T31 l1 t2).f4.f2) ((rd_T31 l1 t2).f5) t15 t16 t17 t18 t19 t20 _ A18.out).mono ?_);rintro e w23 ⟨rfl,hb⟩;replace HO_7:=am_ (Kd.R_below (zr_ HO_7) hb);replace BK1:=am_ (blk_below (zb_ BK1) hb);replace HB:=am_ (below_step (zl1_ HB GE1) hb);(try clear hb);(try clear hb2);(try clear hk);(try clear hi))|((with_reducible refine gate_builtin (b:= .append) (xs:=#[.tmp 40, .tmp 46]) rfl ?_);at_builtin;refine Kd.R_append k54 (w0:=w) w.heap.size rfl (.tmp 40) (.tmp 46) 35 54 (.agg #[(.string ⟨#[]⟩),(.string ⟨#[]⟩),(.int .i64 0),(.int .i64 0),(.int .i64 0),(.int .i64 0)]) 64 rfl Try.underlying35 info54 rfl (by decide) (by omega) u7 x7_2 (⟨t15,t16,(⟨t17,t18,t19⟩:S27),t20⟩:S54) [.string t15, .string t16, .int .i64 t17, .int .i64 t18, .int .i64 t19, .int .i64 t20] (fun _=>True) (fun _=>False) rfl rfl ?aP (fun _ hk=>hk.elim) ?aF ?aO ?aB ?aS ?aL ?_;(case aP=>exact k54_mkM _ _ _ (⟨t15,t16,(⟨t17,t18,t19⟩:S27),t20⟩:S54));(case aB=>exact (zl1_ HB GE1));(case aF=>exact (fun _ _=>trivial));(case aO=>exact (zr_ HO_7));(case aS=>exact (below_size (zl1_ HB GE1)));(case aL=>have:=LMc19.out;omega);intro v22 w24 ho hb hg hat;rw [←Ny21.out] at ho;have n0_:=am_ (blk_grown (zb_ BK1) hg (Kd.R_ne HO_7.out BK1.out (by decide)));have n1_:=am_ (hb);have n2_:=am_ (ho);clear BK1;clear HB;clear HO_7;have BK1:=n0_;have HB:=n1_;have HO23:=n2_;clear n0_ n1_ n2_;clear ho hb hg hat;have p24:0≤(x10_2:Int):=of_decide_eq_true zq_;have q24:x10_2<(l0.length:Int):=of_decide_eq_true zq_;obtain ⟨ad24,e24,hx24_0,hx24_1,hx24_2,hx24_3,hx24_4,hx24_5⟩:=at_T54 HR0.out x10_2 p24 q24;cases e24;replace hx24_0:=zx_ HB hx24_0;replace hx24_1:=zx_ HB hx24_1;replace hx24_2:=zx_ HB hx24_2;replace hx24_3:=zx_ HB hx24_3;replace hx24_4:=zx_ HB hx24_4;replace hx24_5:=zx_ HB hx24_5;replace p24:=eq_true p24;replace q24:=eq_true q24;obtain ⟨hcz25_0,hcz25_1,hcz25_2,hcz25_3,hcz25_4,hcz25_5⟩:=x6_ BK1;have hfz25_0:=blk_frozen BK1.out 0;have hfz25_1:=blk_frozen BK1.out 1;have hfz25_2:=blk_frozen BK1.out 2;have hfz25_3:=blk_frozen BK1.out 3;have hfz25_4:=blk_frozen BK1.out 4;have hfz25_5:=blk_frozen BK1.out 5));try go_wp2_with (first|(go_at_call 109;(with_reducible refine (r16_mark.calls ((rd_T31 l1 t2).f0) ((rd_T31 l1 t2).f1) ((rd_T31 l1 t2).f2.f0) ((rd_T31 l1 t2).f2.f1) ((rd_T31 l1 t2).f2.f2) ((rd_T31 l1 t2).f3.f0) ((rd_T31 l1 t2).f3.f1) ((rd_T31 l1 t2).f3.f2) ((rd_T31 l1 t2).f4.f0) ((rd_T31 l1 t2).f4.f1) ((rd_T31 l1 t2).f4.f2) ((rd_T31 l1 t2).f5) t15 t16 t17 t18 t19 t20 _ A18.out).mono ?_);rintro e w23 ⟨rfl,hb⟩;replace HO_7:=am_ (Kd.R_below (zr_ HO_7) hb);replace BK1:=am_ (blk_below (zb_ BK1) hb);replace HB:=am_ (below_step (zl1_ HB GE1) hb);(try clear hb);(try clear hb2);(try clear hk);(try clear hi))|((with_reducible refine gate_builtin (b:= .append) (xs:=#[.tmp 40, .tmp 46]) rfl ?_);at_builtin;refine Kd.R_append k54 (w0:=w) w.heap.size rfl (.tmp 40) (.tmp 46) 35 54 (.agg #[(.string ⟨#[]⟩),(.string ⟨#[]⟩),(.int .i64 0),(.int .i64 0),(.int .i64 0),(.int .i64 0)]) 64 rfl Try.underlying35 info54 rfl (by decide) (by omega) u7 x7_2 (⟨t15,t16,(⟨t17,t18,t19⟩:S27),t20⟩:S54) [.string t15, .string t16, .int .i64 t17, .int .i64 t18, .int .i64 t19, .int .i64 t20] (fun _=>True) (fun _=>False) rfl rfl ?aP (fun _ hk=>hk.elim) ?aF ?aO ?aB ?aS ?aL ?_;(case aP=>exact k54_mkM _ _ _ (⟨t15,t16,(⟨t17,t18,t19⟩:S27),t20⟩:S54));(case aB=>exact (zl1_ HB GE1));(case aF=>exact (fun _ _=>trivial));(case aO=>exact (zr_ HO_7));(case aS=>exact (below_size (zl1_ HB GE1)));(case aL=>have:=LMc19.out;omega);intro v22 w24 ho hb hg hat;rw [←Ny21.out] at ho;have n0_:=am_ (blk_grown (zb_ BK1) hg (Kd.R_ne HO_7.out BK1.out (by decide)));have n1_:=am_ (hb);have n2_:=am_ (ho);clear BK1;clear HB;clear HO_7;have BK1:=n0_;have HB:=n1_;have HO23:=n2_;clear n0_ n1_ n2_;clear ho hb hg hat;have p24:0≤(x10_2:Int):=of_decide_eq_true zq_;have q24:x10_2<(l0.length:Int):=of_decide_eq_true zq_;obtain ⟨ad24,e24,hx24_0,hx24_1,hx24_2,hx24_3,hx24_4,hx24_5⟩:=at_T54 HR0.out x10_2 p24 q24;cases e24;replace hx24_0:=zx_ HB hx24_0;replace hx24_1:=zx_ HB hx24_1;replace hx24_2:=zx_ HB hx24_2;replace hx24_3:=zx_ HB hx24_3;replace hx24_4:=zx_ HB hx24_4;replace hx24_5:=zx_ HB hx24_5;replace p24:=eq_true p24;replace q24:=eq_true q24;obtain ⟨hcz25_0,hcz25_1,hcz25_2,hcz25_3,hcz25_4,hcz25_5⟩:=x6_ BK1;have hfz25_0:=blk_frozen BK1.out 0;have hfz25_1:=blk_frozen BK1.out 1;have hfz25_2:=blk_frozen BK1.out 2;have hfz25_3:=blk_frozen BK1.out 3;have hfz25_4:=blk_frozen BK1.out 4;have hfz25_5:=blk_frozen BK1.out 5)))
        go_roundg kj10
        case measure=>have:=HJ4.out;have:=HK2.out;have:=HJ10.out;omega
        case rel=>exact ⟨(y21),(true),(wrap64 (x10_2+1)),(by first|rfl|(simp;done)|(simp [*];done)),(by first|rfl|(simp;done)|(simp [*];done)),H',⟨by have:=HJ4.out;have:=HK2.out;have:=HJ10.out;omega⟩,⟨by (with_reducible repeat (first|apply Kd.R_alloc|apply Kd.R_drewN|apply Kd.R_drew));exact HO23.out⟩,⟨by refine zk_ ?_;exact BK1.out⟩,⟨zl1_ HB GE1⟩⟩
       rw [if_neg c22] at H
       have c22b0:(((rd_T54 l0 x10_2).f0).toList==a2_1.toList)=false:=beq_eq_false_iff_ne.mpr c22
       have c22b1:(((rd_T54 l0 x10_2).f0).toList !=a2_1.toList)=true:=bne_iff_ne.mpr c22
       by_cases c26:y21.length<2199023255552
       rotate_left
       ·rw [if_neg c26] at H
        exact absurd H (by simp)
       rw [if_pos c26] at H
       have LMc26:=Aside0.mk c26
       clear c26
       obtain ⟨y26,hy26⟩: ∃y_:List (S54),y_=(y21++ [(⟨(rd_T54 l0 x10_2).f0,(rd_T54 l0 x10_2).f1,(⟨(rd_T54 l0 x10_2).f2.f0,(rd_T54 l0 x10_2).f2.f1,(rd_T54 l0 x10_2).f2.f2⟩:S27),(rd_T54 l0 x10_2).f3⟩:S54)]):=⟨_,rfl⟩
       replace H:(r16_Marks.l0 kj10 l0 l1 y26 t2 true (wrap64 (x10_2+1)) a2_0 a2_1 a2_2 a2_3 a2_4 a2_5)=some r:=by first|(rw [hy26];with_reducible exact H)|(have H2_:=(Option.bind_some _ _).symm.trans H;rw [hy26];with_reducible exact H2_)|(have H2_:=(Option.bind_some _ _).symm.trans H;with_reducible exact H2_)|with_reducible exact H|(rw [hy26];exact H)|exact H
       have Ny26:=Aside0.mk hy26
       clear hy26
       have H':=Aside0.mk H
       clear H
       have p14:0≤(t2:Int):=of_decide_eq_true zq_
       have q14:t2<(l1.length:Int):=of_decide_eq_true zq_
       obtain ⟨ad14,e14,hx14_0,hx14_1,hx14_2,hx14_3,hx14_4,hx14_5,hx14_6,hx14_7,hx14_8,hx14_9,hx14_10,hx14_11⟩:=at_T31 HR1.out t2 p14 q14
       cases e14
       replace hx14_0:=zx_ HB hx14_0
       replace hx14_1:=zx_ HB hx14_1
       replace hx14_2:=zx_ HB hx14_2
       replace hx14_3:=zx_ HB hx14_3
       replace hx14_4:=zx_ HB hx14_4
       replace hx14_5:=zx_ HB hx14_5
       replace hx14_6:=zx_ HB hx14_6
       replace hx14_7:=zx_ HB hx14_7
       replace hx14_8:=zx_ HB hx14_8
       replace hx14_9:=zx_ HB hx14_9
       replace hx14_10:=zx_ HB hx14_10
       replace hx14_11:=zx_ HB hx14_11
       replace p14:=eq_true p14
       replace q14:=eq_true q14
       go_wp2_with (first|(go_at_call 109;(with_reducible refine (r16_mark.calls ((rd_T31 l1 t2).f0) ((rd_T31 l1 t2).f1) ((rd_T31 l1 t2).f2.f0) ((rd_T31 l1 t2).f2.f1) ((rd_T31 l1 t2).f2.f2) ((rd_T31 l1 t2).f3.f0) ((rd_T31 l1 t2).f3.f1) ((rd_T31 l1 t2).f3.f2) ((rd_T31 l1 t2).f4.f0) ((rd_T31 l1 t2).f4.f1) ((rd_T31 l1 t2).f4.f2) ((rd_T31 l1 t2).f5) t15 t16 t17 t18 t19 t20 _ A18.out).mono ?_);rintro e w27 ⟨rfl,hb⟩;replace HO_7:=am_ (Kd.R_below (zr_ HO_7) hb);replace BK1:=am_ (blk_below (zb_ BK1) hb);replace HB:=am_ (below_step (zl1_ HB GE1) hb);(try clear hb);(try clear hb2);(try clear hk);(try clear hi))|((with_reducible refine gate_builtin (b:= .append) (xs:=#[.tmp 40, .tmp 46]) rfl ?_);at_builtin;refine Kd.R_append k54 (w0:=w) w.heap.size rfl (.tmp 40) (.tmp 46) 35 54 (.agg #[(.string ⟨#[]⟩),(.string ⟨#[]⟩),(.int .i64 0),(.int .i64 0),(.int .i64 0),(.int .i64 0)]) 64 rfl Try.underlying35 info54 rfl (by decide) (by omega) u7 x7_2 (⟨t15,t16,(⟨t17,t18,t19⟩:S27),t20⟩:S54) [.string t15, .string t16, .int .i64 t17, .int .i64 t18, .int .i64 t19, .int .i64 t20] (fun _=>True) (fun _=>False) rfl rfl ?aP (fun _ hk=>hk.elim) ?aF ?aO ?aB ?aS ?aL ?_;(case aP=>exact k54_mkM _ _ _ (⟨t15,t16,(⟨t17,t18,t19⟩:S27),t20⟩:S54));(case aB=>exact (zl1_ HB GE1));(case aF=>exact (fun _ _=>trivial));(case aO=>exact (zr_ HO_7));(case aS=>exact (below_size (zl1_ HB GE1)));(case aL=>have:=LMc19.out;omega);intro v22 w28 ho hb hg hat;rw [←Ny21.out] at ho;have n0_:=am_ (blk_grown (zb_ BK1) hg (Kd.R_ne HO_7.out BK1.out (by decide)));have n1_:=am_ (hb);have n2_:=am_ (ho);clear BK1;clear HB;clear HO_7;have BK1:=n0_;have HB:=n1_;have HO23:=n2_;clear n0_ n1_ n2_;clear ho hb hg hat;have p24:0≤(x10_2:Int):=of_decide_eq_true zq_;have q24:x10_2<(l0.length:Int):=of_decide_eq_true zq_;obtain ⟨ad24,e24,hx24_0,hx24_1,hx24_2,hx24_3,hx24_4,hx24_5⟩:=at_T54 HR0.out x10_2 p24 q24;cases e24;replace hx24_0:=zx_ HB hx24_0;replace hx24_1:=zx_ HB hx24_1;replace hx24_2:=zx_ HB hx24_2;replace hx24_3:=zx_ HB hx24_3;replace hx24_4:=zx_ HB hx24_4;replace hx24_5:=zx_ HB hx24_5;replace p24:=eq_true p24;replace q24:=eq_true q24;obtain ⟨hcz29_0,hcz29_1,hcz29_2,hcz29_3,hcz29_4,hcz29_5,hfz29_0,hfz29_1,hfz29_2,hfz29_3,hfz29_4,hfz29_5⟩:=y6_ BK1;have p25:0≤(x10_2:Int):=of_decide_eq_true zq_;have q25:x10_2<(l0.length:Int):=of_decide_eq_true zq_;obtain ⟨ad25,e25,hx25_0,hx25_1,hx25_2,hx25_3,hx25_4,hx25_5⟩:=at_T54 HR0.out x10_2 p25 q25;obtain rfl:ad24=ad25:=(by injection e25);replace hx25_0:=zx_ HB hx25_0;replace hx25_1:=zx_ HB hx25_1;replace hx25_2:=zx_ HB hx25_2;replace hx25_3:=zx_ HB hx25_3;replace hx25_4:=zx_ HB hx25_4;replace hx25_5:=zx_ HB hx25_5;replace p25:=eq_true p25;replace q25:=eq_true q25)|((with_reducible refine gate_builtin (b:= .append) (xs:=#[.tmp 56, .tmp 61]) rfl ?_);at_builtin;refine Kd.R_append k54 (w0:=w) w.heap.size rfl (.tmp 56) (.tmp 61) 35 54 (.agg #[(.string ⟨#[]⟩),(.string ⟨#[]⟩),(.int .i64 0),(.int .i64 0),(.int .i64 0),(.int .i64 0)]) 64 rfl Try.underlying35 info54 rfl (by decide) (by omega) v22 y21 (⟨(rd_T54 l0 x10_2).f0,(rd_T54 l0 x10_2).f1,(⟨(rd_T54 l0 x10_2).f2.f0,(rd_T54 l0 x10_2).f2.f1,(rd_T54 l0 x10_2).f2.f2⟩:S27),(rd_T54 l0 x10_2).f3⟩:S54) [.string ((rd_T54 l0 x10_2).f0), .string ((rd_T54 l0 x10_2).f1), .int .i64 ((rd_T54 l0 x10_2).f2.f0), .int .i64 ((rd_T54 l0 x10_2).f2.f1), .int .i64 ((rd_T54 l0 x10_2).f2.f2), .int .i64 ((rd_T54 l0 x10_2).f3)] (fun _=>True) (fun _=>False) rfl rfl ?aP (fun _ hk=>hk.elim) ?aF ?aO ?aB ?aS ?aL ?_;(case aP=>exact k54_mkM _ _ _ (⟨(rd_T54 l0 x10_2).f0,(rd_T54 l0 x10_2).f1,(⟨(rd_T54 l0 x10_2).f2.f0,(rd_T54 l0 x10_2).f2.f1,(rd_T54 l0 x10_2).f2.f2⟩:S27),(rd_T54 l0 x10_2).f3⟩:S54));(case aB=>exact (zl1_ HB GE1));(case aF=>exact (fun _ _=>trivial));(case aO=>exact (zr_ HO23));(case aS=>exact (below_size (zl1_ HB GE1)));(case aL=>have:=LMc26.out;omega);intro v27 w30 ho hb hg hat;rw [←Ny26.out] at ho;have n0_:=am_ (blk_grown (zb_ BK1) hg (Kd.R_ne HO23.out BK1.out (by decide)));have n1_:=am_ (hb);have n2_:=am_ (ho);clear BK1;clear HB;clear HO23;have BK1:=n0_;have HB:=n1_;have HO28:=n2_;clear n0_ n1_ n2_;clear ho hb hg hat))
       repeat (go_quiet (first|(go_at_call 109;(with_reducible refine (r16_mark.calls ((rd_T31 l1 t2).f0) ((rd_T31 l1 t2).f1) ((rd_T31 l1 t2).f2.f0) ((rd_T31 l1 t2).f2.f1) ((rd_T31 l1 t2).f2.f2) ((rd_T31 l1 t2).f3.f0) ((rd_T31 l1 t2).f3.f1) ((rd_T31 l1 t2).f3.f2) ((rd_T31 l1 t2).f4.f0) ((rd_T31 l1 t2).f4.f1) ((rd_T31 l1 t2).f4.f2) ((rd_T31 l1 t2).f5) t15 t16 t17 t18 t19 t20 _ A18.out).mono ?_);rintro e w27 ⟨rfl,hb⟩;replace HO_7:=am_ (Kd.R_below (zr_ HO_7) hb);replace BK1:=am_ (blk_below (zb_ BK1) hb);replace HB:=am_ (below_step (zl1_ HB GE1) hb);(try clear hb);(try clear hb2);(try clear hk);(try clear hi))|((with_reducible refine gate_builtin (b:= .append) (xs:=#[.tmp 40, .tmp 46]) rfl ?_);at_builtin;refine Kd.R_append k54 (w0:=w) w.heap.size rfl (.tmp 40) (.tmp 46) 35 54 (.agg #[(.string ⟨#[]⟩),(.string ⟨#[]⟩),(.int .i64 0),(.int .i64 0),(.int .i64 0),(.int .i64 0)]) 64 rfl Try.underlying35 info54 rfl (by decide) (by omega) u7 x7_2 (⟨t15,t16,(⟨t17,t18,t19⟩:S27),t20⟩:S54) [.string t15, .string t16, .int .i64 t17, .int .i64 t18, .int .i64 t19, .int .i64 t20] (fun _=>True) (fun _=>False) rfl rfl ?aP (fun _ hk=>hk.elim) ?aF ?aO ?aB ?aS ?aL ?_;(case aP=>exact k54_mkM _ _ _ (⟨t15,t16,(⟨t17,t18,t19⟩:S27),t20⟩:S54));(case aB=>exact (zl1_ HB GE1));(case aF=>exact (fun _ _=>trivial));(case aO=>exact (zr_ HO_7));(case aS=>exact (below_size (zl1_ HB GE1)));(case aL=>have:=LMc19.out;omega);intro v22 w28 ho hb hg hat;rw [←Ny21.out] at ho;have n0_:=am_ (blk_grown (zb_ BK1) hg (Kd.R_ne HO_7.out BK1.out (by decide)));have n1_:=am_ (hb);have n2_:=am_ (ho);clear BK1;clear HB;clear HO_7;have BK1:=n0_;have HB:=n1_;have HO23:=n2_;clear n0_ n1_ n2_;clear ho hb hg hat;have p24:0≤(x10_2:Int):=of_decide_eq_true zq_;have q24:x10_2<(l0.length:Int):=of_decide_eq_true zq_;obtain ⟨ad24,e24,hx24_0,hx24_1,hx24_2,hx24_3,hx24_4,hx24_5⟩:=at_T54 HR0.out x10_2 p24 q24;cases e24;replace hx24_0:=zx_ HB hx24_0;replace hx24_1:=zx_ HB hx24_1;replace hx24_2:=zx_ HB hx24_2;replace hx24_3:=zx_ HB hx24_3;replace hx24_4:=zx_ HB hx24_4;replace hx24_5:=zx_ HB hx24_5;replace p24:=eq_true p24;replace q24:=eq_true q24;obtain ⟨hcz29_0,hcz29_1,hcz29_2,hcz29_3,hcz29_4,hcz29_5,hfz29_0,hfz29_1,hfz29_2,hfz29_3,hfz29_4,hfz29_5⟩:=y6_ BK1;have p25:0≤(x10_2:Int):=of_decide_eq_true zq_;have q25:x10_2<(l0.length:Int):=of_decide_eq_true zq_;obtain ⟨ad25,e25,hx25_0,hx25_1,hx25_2,hx25_3,hx25_4,hx25_5⟩:=at_T54 HR0.out x10_2 p25 q25;obtain rfl:ad24=ad25:=(by injection e25);replace hx25_0:=zx_ HB hx25_0;replace hx25_1:=zx_ HB hx25_1;replace hx25_2:=zx_ HB hx25_2;replace hx25_3:=zx_ HB hx25_3;replace hx25_4:=zx_ HB hx25_4;replace hx25_5:=zx_ HB hx25_5;replace p25:=eq_true p25;replace q25:=eq_true q25)|((with_reducible refine gate_builtin (b:= .append) (xs:=#[.tmp 56, .tmp 61]) rfl ?_);at_builtin;refine Kd.R_append k54 (w0:=w) w.heap.size rfl (.tmp 56) (.tmp 61) 35 54 (.agg #[(.string ⟨#[]⟩),(.string ⟨#[]⟩),(.int .i64 0),(.int .i64 0),(.int .i64 0),(.int .i64 0)]) 64 rfl Try.underlying35 info54 rfl (by decide) (by omega) v22 y21 (⟨(rd_T54 l0 x10_2).f0,(rd_T54 l0 x10_2).f1,(⟨(rd_T54 l0 x10_2).f2.f0,(rd_T54 l0 x10_2).f2.f1,(rd_T54 l0 x10_2).f2.f2⟩:S27),(rd_T54 l0 x10_2).f3⟩:S54) [.string ((rd_T54 l0 x10_2).f0), .string ((rd_T54 l0 x10_2).f1), .int .i64 ((rd_T54 l0 x10_2).f2.f0), .int .i64 ((rd_T54 l0 x10_2).f2.f1), .int .i64 ((rd_T54 l0 x10_2).f2.f2), .int .i64 ((rd_T54 l0 x10_2).f3)] (fun _=>True) (fun _=>False) rfl rfl ?aP (fun _ hk=>hk.elim) ?aF ?aO ?aB ?aS ?aL ?_;(case aP=>exact k54_mkM _ _ _ (⟨(rd_T54 l0 x10_2).f0,(rd_T54 l0 x10_2).f1,(⟨(rd_T54 l0 x10_2).f2.f0,(rd_T54 l0 x10_2).f2.f1,(rd_T54 l0 x10_2).f2.f2⟩:S27),(rd_T54 l0 x10_2).f3⟩:S54));(case aB=>exact (zl1_ HB GE1));(case aF=>exact (fun _ _=>trivial));(case aO=>exact (zr_ HO23));(case aS=>exact (below_size (zl1_ HB GE1)));(case aL=>have:=LMc26.out;omega);intro v27 w30 ho hb hg hat;rw [←Ny26.out] at ho;have n0_:=am_ (blk_grown (zb_ BK1) hg (Kd.R_ne HO23.out BK1.out (by decide)));have n1_:=am_ (hb);have n2_:=am_ (ho);clear BK1;clear HB;clear HO23;have BK1:=n0_;have HB:=n1_;have HO28:=n2_;clear n0_ n1_ n2_;clear ho hb hg hat));try go_wp2_with (first|(go_at_call 109;(with_reducible refine (r16_mark.calls ((rd_T31 l1 t2).f0) ((rd_T31 l1 t2).f1) ((rd_T31 l1 t2).f2.f0) ((rd_T31 l1 t2).f2.f1) ((rd_T31 l1 t2).f2.f2) ((rd_T31 l1 t2).f3.f0) ((rd_T31 l1 t2).f3.f1) ((rd_T31 l1 t2).f3.f2) ((rd_T31 l1 t2).f4.f0) ((rd_T31 l1 t2).f4.f1) ((rd_T31 l1 t2).f4.f2) ((rd_T31 l1 t2).f5) t15 t16 t17 t18 t19 t20 _ A18.out).mono ?_);rintro e w27 ⟨rfl,hb⟩;replace HO_7:=am_ (Kd.R_below (zr_ HO_7) hb);replace BK1:=am_ (blk_below (zb_ BK1) hb);replace HB:=am_ (below_step (zl1_ HB GE1) hb);(try clear hb);(try clear hb2);(try clear hk);(try clear hi))|((with_reducible refine gate_builtin (b:= .append) (xs:=#[.tmp 40, .tmp 46]) rfl ?_);at_builtin;refine Kd.R_append k54 (w0:=w) w.heap.size rfl (.tmp 40) (.tmp 46) 35 54 (.agg #[(.string ⟨#[]⟩),(.string ⟨#[]⟩),(.int .i64 0),(.int .i64 0),(.int .i64 0),(.int .i64 0)]) 64 rfl Try.underlying35 info54 rfl (by decide) (by omega) u7 x7_2 (⟨t15,t16,(⟨t17,t18,t19⟩:S27),t20⟩:S54) [.string t15, .string t16, .int .i64 t17, .int .i64 t18, .int .i64 t19, .int .i64 t20] (fun _=>True) (fun _=>False) rfl rfl ?aP (fun _ hk=>hk.elim) ?aF ?aO ?aB ?aS ?aL ?_;(case aP=>exact k54_mkM _ _ _ (⟨t15,t16,(⟨t17,t18,t19⟩:S27),t20⟩:S54));(case aB=>exact (zl1_ HB GE1));(case aF=>exact (fun _ _=>trivial));(case aO=>exact (zr_ HO_7));(case aS=>exact (below_size (zl1_ HB GE1)));(case aL=>have:=LMc19.out;omega);intro v22 w28 ho hb hg hat;rw [←Ny21.out] at ho;have n0_:=am_ (blk_grown (zb_ BK1) hg (Kd.R_ne HO_7.out BK1.out (by decide)));have n1_:=am_ (hb);have n2_:=am_ (ho);clear BK1;clear HB;clear HO_7;have BK1:=n0_;have HB:=n1_;have HO23:=n2_;clear n0_ n1_ n2_;clear ho hb hg hat;have p24:0≤(x10_2:Int):=of_decide_eq_true zq_;have q24:x10_2<(l0.length:Int):=of_decide_eq_true zq_;obtain ⟨ad24,e24,hx24_0,hx24_1,hx24_2,hx24_3,hx24_4,hx24_5⟩:=at_T54 HR0.out x10_2 p24 q24;cases e24;replace hx24_0:=zx_ HB hx24_0;replace hx24_1:=zx_ HB hx24_1;replace hx24_2:=zx_ HB hx24_2;replace hx24_3:=zx_ HB hx24_3;replace hx24_4:=zx_ HB hx24_4;replace hx24_5:=zx_ HB hx24_5;replace p24:=eq_true p24;replace q24:=eq_true q24;obtain ⟨hcz29_0,hcz29_1,hcz29_2,hcz29_3,hcz29_4,hcz29_5,hfz29_0,hfz29_1,hfz29_2,hfz29_3,hfz29_4,hfz29_5⟩:=y6_ BK1;have p25:0≤(x10_2:Int):=of_decide_eq_true zq_;have q25:x10_2<(l0.length:Int):=of_decide_eq_true zq_;obtain ⟨ad25,e25,hx25_0,hx25_1,hx25_2,hx25_3,hx25_4,hx25_5⟩:=at_T54 HR0.out x10_2 p25 q25;obtain rfl:ad24=ad25:=(by injection e25);replace hx25_0:=zx_ HB hx25_0;replace hx25_1:=zx_ HB hx25_1;replace hx25_2:=zx_ HB hx25_2;replace hx25_3:=zx_ HB hx25_3;replace hx25_4:=zx_ HB hx25_4;replace hx25_5:=zx_ HB hx25_5;replace p25:=eq_true p25;replace q25:=eq_true q25)|((with_reducible refine gate_builtin (b:= .append) (xs:=#[.tmp 56, .tmp 61]) rfl ?_);at_builtin;refine Kd.R_append k54 (w0:=w) w.heap.size rfl (.tmp 56) (.tmp 61) 35 54 (.agg #[(.string ⟨#[]⟩),(.string ⟨#[]⟩),(.int .i64 0),(.int .i64 0),(.int .i64 0),(.int .i64 0)]) 64 rfl Try.underlying35 info54 rfl (by decide) (by omega) v22 y21 (⟨(rd_T54 l0 x10_2).f0,(rd_T54 l0 x10_2).f1,(⟨(rd_T54 l0 x10_2).f2.f0,(rd_T54 l0 x10_2).f2.f1,(rd_T54 l0 x10_2).f2.f2⟩:S27),(rd_T54 l0 x10_2).f3⟩:S54) [.string ((rd_T54 l0 x10_2).f0), .string ((rd_T54 l0 x10_2).f1), .int .i64 ((rd_T54 l0 x10_2).f2.f0), .int .i64 ((rd_T54 l0 x10_2).f2.f1), .int .i64 ((rd_T54 l0 x10_2).f2.f2), .int .i64 ((rd_T54 l0 x10_2).f3)] (fun _=>True) (fun _=>False) rfl rfl ?aP (fun _ hk=>hk.elim) ?aF ?aO ?aB ?aS ?aL ?_;(case aP=>exact k54_mkM _ _ _ (⟨(rd_T54 l0 x10_2).f0,(rd_T54 l0 x10_2).f1,(⟨(rd_T54 l0 x10_2).f2.f0,(rd_T54 l0 x10_2).f2.f1,(rd_T54 l0 x10_2).f2.f2⟩:S27),(rd_T54 l0 x10_2).f3⟩:S54));(case aB=>exact (zl1_ HB GE1));(case aF=>exact (fun _ _=>trivial));(case aO=>exact (zr_ HO23));(case aS=>exact (below_size (zl1_ HB GE1)));(case aL=>have:=LMc26.out;omega);intro v27 w30 ho hb hg hat;rw [←Ny26.out] at ho;have n0_:=am_ (blk_grown (zb_ BK1) hg (Kd.R_ne HO23.out BK1.out (by decide)));have n1_:=am_ (hb);have n2_:=am_ (ho);clear BK1;clear HB;clear HO23;have BK1:=n0_;have HB:=n1_;have HO28:=n2_;clear n0_ n1_ n2_;clear ho hb hg hat)))
       go_roundg kj10
       case measure=>have:=HJ4.out;have:=HK2.out;have:=HJ10.out;omega
       case rel=>exact ⟨(y26),(true),(wrap64 (x10_2+1)),(by first|rfl|(simp;done)|(simp [*];done)),(by first|rfl|(simp;done)|(simp [*];done)),H',⟨by have:=HJ4.out;have:=HK2.out;have:=HJ10.out;omega⟩,⟨by (with_reducible repeat (first|apply Kd.R_alloc|apply Kd.R_drewN|apply Kd.R_drew));exact HO28.out⟩,⟨by refine zk_ ?_;exact BK1.out⟩,⟨zl1_ HB GE1⟩⟩
mutual
def law12_Great.l0:Nat→List (S31)→Int→Option (Bool)
 |0,_,_=>none
 |k+1,x0,x3=>if x3<(x0.length:Int) then (law12_Great.j1 k x0 x3 (decide (x3<150))) else (law12_Great.j1 k x0 x3 false)
def law12_Great.j1:Nat→List (S31)→Int→Bool→Option (Bool)
 |0,_,_,_=>none
 |k+1,x0,x3,x11=>if x11=true then (if 0≤x3 then (if x3<(x0.length:Int) then (if (((rd_T31 x0 x3).f0).size:Int)>100 then (some true) else (if (((rd_T31 x0 x3).f1).size:Int)>100 then (some true) else (law12_Great.l0 k x0 (wrap64 (x3+1))))) else (none)) else (none)) else (some (decide ((x0.length:Int)>130)))
end
def law12_Great.f (k:Nat) (l0:List (S31)):Option (Bool):=law12_Great.l0 k l0 0
theorem law12_Great.mono_l: ∀k,(∀y0 y1,LeO (law12_Great.l0 k y0 y1) (law12_Great.l0 (k+1) y0 y1))∧(∀y0 y1 y2,LeO (law12_Great.j1 k y0 y1 y2) (law12_Great.j1 (k+1) y0 y1 y2))
 |0=>⟨fun _ _ r h=>by simp [law12_Great.l0] at h,fun _ _ _ r h=>by simp [law12_Great.j1] at h⟩
 |k+1=>by
  obtain ⟨ih0,ih1⟩:=law12_Great.mono_l k
  refine ⟨?_, ?_⟩
  ·intro y0 y1
   unfold law12_Great.l0
   repeat' first
   |(with_reducible exact ih0 _ _)
   |(with_reducible exact ih1 _ _ _)
   |(with_reducible exact LeO.refl _)
   |(with_reducible exact LeO.none _)
   |(with_reducible refine LeO.ite ?_ ?_)
   |(with_reducible refine LeO.bind ?_ (fun _=> ?_))
   |exact ih0 _ _
   |exact ih1 _ _ _
   |exact LeO.none _
   |refine LeO.ite ?_ ?_
   |refine LeO.bind ?_ (fun _=> ?_)
  intro y0 y1 y2
  unfold law12_Great.j1
  repeat' first
  |(with_reducible exact ih0 _ _)
  |(with_reducible exact ih1 _ _ _)
  |(with_reducible exact LeO.refl _)
  |(with_reducible exact LeO.none _)
  |(with_reducible refine LeO.ite ?_ ?_)
  |(with_reducible refine LeO.bind ?_ (fun _=> ?_))
  |exact ih0 _ _
  |exact ih1 _ _ _
  |exact LeO.none _
  |refine LeO.ite ?_ ?_
  |refine LeO.bind ?_ (fun _=> ?_)
theorem law12_Great.mono: ∀a0 k,LeO (law12_Great.f k a0) (law12_Great.f (k+1) a0):=by
 intro a0 k
 obtain ⟨ih0,ih1⟩:=law12_Great.mono_l k
 unfold law12_Great.f
 repeat' first
  |(with_reducible exact ih0 _ _)
  |(with_reducible exact ih1 _ _ _)
  |(with_reducible exact LeO.refl _)
  |(with_reducible exact LeO.none _)
  |(with_reducible refine LeO.ite ?_ ?_)
  |(with_reducible refine LeO.bind ?_ (fun _=> ?_))
  |exact ih0 _ _
  |exact ih1 _ _ _
  |exact LeO.none _
  |refine LeO.ite ?_ ?_
  |refine LeO.bind ?_ (fun _=> ?_)
set_option maxHeartbeats 8000000 in
set_option maxRecDepth 100000 in
theorem law12_Great.calls (k:Nat) (A0:Option Addr) (c0:Nat) (l0:List (S31)) (r:Bool) (w:World) (hr0:Kd.C k31 w A0 l0.length l0) (hc0:l0.length≤c0) (h:law12_Great.f k l0=some r):
  Calls Try.prog 36 #[.slice A0 l0.length c0] w fun e w'=>e= .returned (.bool r)∧Drawn0 w w':=by
 have HR0:=Aside0.mk hr0
 have HC0:=Aside0.mk hc0
 clear hr0 hc0
 have H:(law12_Great.l0 k l0 0)=some r:=h
 clear h
 have H':=Aside0.mk H
 clear H
 go_enter Try.func36,Try.ntmps36
 go_wp2
 go_loopg [3] k (fun kq v3 w'=> ∃(x3_1:Int),v3= .int .i64 x3_1∧Aside0 (law12_Great.l0 kq l0 x3_1=some r)∧Aside0 (kq≤k)∧Drawn0 w w')
 case atStart=>exact ⟨(0),(by first|rfl|(simp;done)|(simp [*];done)),H',⟨Nat.le_refl _⟩,by repeat (first|exact Drawn0.refl _|apply Drawn0.step)⟩
 case round=>
  clear H'
  obtain ⟨x3_1,rfl,HA,HK1,⟨m1,rfl⟩⟩:=hrel
  cases gk with
  |zero=>exact absurd HA.out (by simp [law12_Great.l0])
  |succ k1=>
   have H:=HA.out
   clear HA
   simp only [law12_Great.l0] at H
   have HC2:=Aside0.mk H
   clear H
   go_upto_region 2 with (fail)
   go_cut [11] (fun v11 wc=> ∃(kq:Nat) (x11_1:Bool),v11= .bool x11_1∧Aside0 (law12_Great.j1 kq l0 x3_1 x11_1=some r)∧Aside0 (kq≤k1)∧Drawn0 w wc)
   case first=>
    have H:=HC2.out
    clear HC2
    by_cases c3:x3_1<(l0.length:Int)
    ·rw [if_pos c3] at H
     have c3b0:decide (x3_1<(l0.length:Int))=true:=decide_eq_true c3
     clear c3
     (first|rw [c3b0]|(simp only [i64_w,i32_w];rw [c3b0])|skip)
     have H':=Aside0.mk H
     clear H
     go_wp2
     go_meet
     case rel=>exact ⟨_,(decide (x3_1<150)),(by first|rfl|(simp;done)|(simp [*];done)),H',⟨by have:=HK1.out;first|omega|exact Nat.le_refl _⟩,by repeat (first|exact Drawn0.refl _|apply Drawn0.step)⟩
    rw [if_neg c3] at H
    have c3b0:decide (x3_1<(l0.length:Int))=false:=decide_eq_false c3
    clear c3
    (first|rw [c3b0]|(simp only [i64_w,i32_w];rw [c3b0])|skip)
    have H':=Aside0.mk H
    clear H
    go_wp2
    go_meet
    case rel=>exact ⟨_,(false),(by first|rfl|(simp;done)|(simp [*];done)),H',⟨by have:=HK1.out;first|omega|exact Nat.le_refl _⟩,by repeat (first|exact Drawn0.refl _|apply Drawn0.step)⟩
   case rest=>
    clear HC2
    try clear p2
    try clear c3
    try clear c3b0
    obtain ⟨kq,x11_1,rfl,HA,HJ1,⟨mc1,rfl⟩⟩:=hcut
    cases kq with
    |zero=>exact absurd HA.out (by simp [law12_Great.j1])
    |succ kj1=>
     have H:=HA.out
     clear HA
     simp only [law12_Great.j1] at H
     by_cases c4:x11_1=true
     rotate_left
     ·replace c4:=Bool.eq_false_iff.mpr c4
      subst c4
      have H1:(some (decide ((l0.length:Int)>130)))=some r:=by rw [if_neg (show¬(false=true) by decide)] at H;exact H
      clear H
      have H:=H1
      clear H1
      obtain rfl:=Option.some.inj H
      go_wp2
      go_ret
      exact ⟨by first|rfl|(simp;done)|(simp [*];done),by repeat (first|exact Drawn0.refl _|apply Drawn0.step)⟩

     subst c4
     have H1:(if 0≤x3_1 then (if x3_1<(l0.length:Int) then (if (((rd_T31 l0 x3_1).f0).size:Int)>100 then (some true) else (if (((rd_T31 l0 x3_1).f1).size:Int)>100 then (some true) else (law12_Great.l0 kj1 l0 (wrap64 (x3_1+1))))) else (none)) else (none))=some r:=by rw [if_pos rfl] at H;exact H
     clear H
     have H:=H1
     clear H1
     by_cases c5:0≤x3_1
     rotate_left
     ·rw [if_neg c5] at H
      exact absurd H (by simp)
     rw [if_pos c5] at H
     have c5b0:decide (0≤x3_1)=true:=decide_eq_true c5
     clear c5
     by_cases c6:x3_1<(l0.length:Int)
     rotate_left
     ·rw [if_neg c6] at H
      exact absurd H (by simp)
     rw [if_pos c6] at H
     have c6b0:decide (x3_1<(l0.length:Int))=true:=decide_eq_true c6
     clear c6
     by_cases c7:(((rd_T31 l0 x3_1).f0).size:Int)>100
     ·rw [if_pos c7] at H
      have c7b0:decide (100<(((rd_T31 l0 x3_1).f0).size:Int))=true:=decide_eq_true c7
      have c7b1:decide (100<((rd_T31 l0 x3_1).f0).size)=true:=decide_eq_true (by omega)
      clear c7
      obtain rfl:=Option.some.inj H
      have p1:0≤(x3_1:Int):=of_decide_eq_true zq_
      have q1:x3_1<(l0.length:Int):=of_decide_eq_true zq_
      obtain ⟨ad1,e1,hx1_0,hx1_1,hx1_2,hx1_3,hx1_4,hx1_5,hx1_6,hx1_7,hx1_8,hx1_9,hx1_10,hx1_11⟩:=at_T31 HR0.out x3_1 p1 q1
      cases e1
      replace p1:=eq_true p1
      replace q1:=eq_true q1
      go_wp2
      go_ret
      exact ⟨by first|rfl|(simp;done)|(simp [*];done),by repeat (first|exact Drawn0.refl _|apply Drawn0.step)⟩
     rw [if_neg c7] at H
     have c7b0:decide (100<(((rd_T31 l0 x3_1).f0).size:Int))=false:=decide_eq_false c7
     have c7b1:decide (100<((rd_T31 l0 x3_1).f0).size)=false:=decide_eq_false (by omega)
     clear c7
     by_cases c8:(((rd_T31 l0 x3_1).f1).size:Int)>100
     ·rw [if_pos c8] at H
      have c8b0:decide (100<(((rd_T31 l0 x3_1).f1).size:Int))=true:=decide_eq_true c8
      have c8b1:decide (100<((rd_T31 l0 x3_1).f1).size)=true:=decide_eq_true (by omega)
      clear c8
      obtain rfl:=Option.some.inj H
      have p1:0≤(x3_1:Int):=of_decide_eq_true zq_
      have q1:x3_1<(l0.length:Int):=of_decide_eq_true zq_
      obtain ⟨ad1,e1,hx1_0,hx1_1,hx1_2,hx1_3,hx1_4,hx1_5,hx1_6,hx1_7,hx1_8,hx1_9,hx1_10,hx1_11⟩:=at_T31 HR0.out x3_1 p1 q1
      cases e1
      replace p1:=eq_true p1
      replace q1:=eq_true q1
      have p2:0≤(x3_1:Int):=of_decide_eq_true zq_
      have q2:x3_1<(l0.length:Int):=of_decide_eq_true zq_
      obtain ⟨ad2,e2,hx2_0,hx2_1,hx2_2,hx2_3,hx2_4,hx2_5,hx2_6,hx2_7,hx2_8,hx2_9,hx2_10,hx2_11⟩:=at_T31 HR0.out x3_1 p2 q2
      obtain rfl:ad1=ad2:=(by injection e2)
      replace p2:=eq_true p2
      replace q2:=eq_true q2
      go_wp2
      go_ret
      exact ⟨by first|rfl|(simp;done)|(simp [*];done),by repeat (first|exact Drawn0.refl _|apply Drawn0.step)⟩
     rw [if_neg c8] at H
     have c8b0:decide (100<(((rd_T31 l0 x3_1).f1).size:Int))=false:=decide_eq_false c8
     have c8b1:decide (100<((rd_T31 l0 x3_1).f1).size)=false:=decide_eq_false (by omega)
     clear c8
     have H':=Aside0.mk H
     clear H
     have p1:0≤(x3_1:Int):=of_decide_eq_true zq_
     have q1:x3_1<(l0.length:Int):=of_decide_eq_true zq_
     obtain ⟨ad1,e1,hx1_0,hx1_1,hx1_2,hx1_3,hx1_4,hx1_5,hx1_6,hx1_7,hx1_8,hx1_9,hx1_10,hx1_11⟩:=at_T31 HR0.out x3_1 p1 q1
     cases e1
     replace p1:=eq_true p1
     replace q1:=eq_true q1
     have p2:0≤(x3_1:Int):=of_decide_eq_true zq_
     have q2:x3_1<(l0.length:Int):=of_decide_eq_true zq_
     obtain ⟨ad2,e2,hx2_0,hx2_1,hx2_2,hx2_3,hx2_4,hx2_5,hx2_6,hx2_7,hx2_8,hx2_9,hx2_10,hx2_11⟩:=at_T31 HR0.out x3_1 p2 q2
     obtain rfl:ad1=ad2:=(by injection e2)
     replace p2:=eq_true p2
     replace q2:=eq_true q2
     go_wp2
     go_roundg kj1
     case measure=>have:=HK1.out;have:=HJ1.out;omega
     case rel=>exact ⟨(wrap64 (x3_1+1)),(by first|rfl|(simp;done)|(simp [*];done)),H',⟨by have:=HK1.out;have:=HJ1.out;omega⟩,by repeat (first|exact Drawn0.refl _|apply Drawn0.step)⟩
mutual
def law16_Great.l0:Nat→Int→List (S54)→List (S58)→Int→Option (Bool)
 |0,_,_,_,_=>none
 |k+1,x3,x2000,x2001,x2002=>if x3<(x2000.length:Int) then (law16_Great.j1 k x3 (decide (x3<300)) x2000 x2001 x2002) else (law16_Great.j1 k x3 false x2000 x2001 x2002)
def law16_Great.j1:Nat→Int→Bool→List (S54)→List (S58)→Int→Option (Bool)
 |0,_,_,_,_,_=>none
 |k+1,x3,x13,x2000,x2001,x2002=>if x13=true then (if 0≤x3 then (if x3<(x2000.length:Int) then (if (((rd_T54 x2000 x3).f0).size:Int)>100 then (some true) else (if (((rd_T54 x2000 x3).f1).size:Int)>100 then (some true) else (law16_Great.l0 k (wrap64 (x3+1)) x2000 x2001 x2002))) else (none)) else (none)) else (law16_Great.l1 k 0 x2000 x2001 x2002)
def law16_Great.l1:Nat→Int→List (S54)→List (S58)→Int→Option (Bool)
 |0,_,_,_,_=>none
 |k+1,x4,x2000,x2001,x2002=>if x4<(x2001.length:Int) then (law16_Great.j3 k x4 (decide (x4<600)) x2000 x2001 x2002) else (law16_Great.j3 k x4 false x2000 x2001 x2002)
def law16_Great.j3:Nat→Int→Bool→List (S54)→List (S58)→Int→Option (Bool)
 |0,_,_,_,_,_=>none
 |k+1,x4,x42,x2000,x2001,x2002=>if x42=true then (if 0≤x4 then (if x4<(x2001.length:Int) then (if (((rd_T58 x2001 x4).f1).size:Int)>100 then (some true) else (if (((rd_T58 x2001 x4).f2).size:Int)>100 then (some true) else (law16_Great.l1 k (wrap64 (x4+1)) x2000 x2001 x2002))) else (none)) else (none)) else (if (x2000.length:Int)>260 then (some true) else (some (decide ((x2001.length:Int)>500))))
end
def law16_Great.f (k:Nat) (l0_0:List (S54)) (l0_1:List (S58)) (a0_2:Int):Option (Bool):=law16_Great.l0 k 0 l0_0 l0_1 a0_2
theorem law16_Great.mono_l: ∀k,(∀y0 y1 y2 y3,LeO (law16_Great.l0 k y0 y1 y2 y3) (law16_Great.l0 (k+1) y0 y1 y2 y3))∧(∀y0 y1 y2 y3 y4,LeO (law16_Great.j1 k y0 y1 y2 y3 y4) (law16_Great.j1 (k+1) y0 y1 y2 y3 y4))∧(∀y0 y1 y2 y3,LeO (law16_Great.l1 k y0 y1 y2 y3) (law16_Great.l1 (k+1) y0 y1 y2 y3))∧(∀y0 y1 y2 y3 y4,LeO (law16_Great.j3 k y0 y1 y2 y3 y4) (law16_Great.j3 (k+1) y0 y1 y2 y3 y4))
 |0=>⟨fun _ _ _ _ r h=>by simp [law16_Great.l0] at h,fun _ _ _ _ _ r h=>by simp [law16_Great.j1] at h,fun _ _ _ _ r h=>by simp [law16_Great.l1] at h,fun _ _ _ _ _ r h=>by simp [law16_Great.j3] at h⟩
 |k+1=>by
  obtain ⟨ih0,ih1,ih2,ih3⟩:=law16_Great.mono_l k
  refine ⟨?_, ?_, ?_, ?_⟩
  ·intro y0 y1 y2 y3
   unfold law16_Great.l0
   repeat' first
   |(with_reducible exact ih0 _ _ _ _)
   |(with_reducible exact ih1 _ _ _ _ _)
   |(with_reducible exact ih2 _ _ _ _)
   |(with_reducible exact ih3 _ _ _ _ _)
   |(with_reducible exact LeO.refl _)
   |(with_reducible exact LeO.none _)
   |(with_reducible refine LeO.ite ?_ ?_)
   |(with_reducible refine LeO.bind ?_ (fun _=> ?_))
   |exact ih0 _ _ _ _
   |exact ih1 _ _ _ _ _
   |exact ih2 _ _ _ _
   |exact ih3 _ _ _ _ _
   |exact LeO.none _
   |refine LeO.ite ?_ ?_
   |refine LeO.bind ?_ (fun _=> ?_)
  ·intro y0 y1 y2 y3 y4
   unfold law16_Great.j1
   repeat' first
   |(with_reducible exact ih0 _ _ _ _)
   |(with_reducible exact ih1 _ _ _ _ _)
   |(with_reducible exact ih2 _ _ _ _)
   |(with_reducible exact ih3 _ _ _ _ _)
   |(with_reducible exact LeO.refl _)
   |(with_reducible exact LeO.none _)
   |(with_reducible refine LeO.ite ?_ ?_)
   |(with_reducible refine LeO.bind ?_ (fun _=> ?_))
   |exact ih0 _ _ _ _
   |exact ih1 _ _ _ _ _
   |exact ih2 _ _ _ _
   |exact ih3 _ _ _ _ _
   |exact LeO.none _
   |refine LeO.ite ?_ ?_
   |refine LeO.bind ?_ (fun _=> ?_)
  ·intro y0 y1 y2 y3
   unfold law16_Great.l1
   repeat' first
   |(with_reducible exact ih0 _ _ _ _)
   |(with_reducible exact ih1 _ _ _ _ _)
   |(with_reducible exact ih2 _ _ _ _)
   |(with_reducible exact ih3 _ _ _ _ _)
   |(with_reducible exact LeO.refl _)
   |(with_reducible exact LeO.none _)
   |(with_reducible refine LeO.ite ?_ ?_)
   |(with_reducible refine LeO.bind ?_ (fun _=> ?_))
   |exact ih0 _ _ _ _
   |exact ih1 _ _ _ _ _
   |exact ih2 _ _ _ _
   |exact ih3 _ _ _ _ _
   |exact LeO.none _
   |refine LeO.ite ?_ ?_
   |refine LeO.bind ?_ (fun _=> ?_)
  intro y0 y1 y2 y3 y4
  unfold law16_Great.j3
  repeat' first
  |(with_reducible exact ih0 _ _ _ _)
  |(with_reducible exact ih1 _ _ _ _ _)
  |(with_reducible exact ih2 _ _ _ _)
  |(with_reducible exact ih3 _ _ _ _ _)
  |(with_reducible exact LeO.refl _)
  |(with_reducible exact LeO.none _)
  |(with_reducible refine LeO.ite ?_ ?_)
  |(with_reducible refine LeO.bind ?_ (fun _=> ?_))
  |exact ih0 _ _ _ _
  |exact ih1 _ _ _ _ _
  |exact ih2 _ _ _ _
  |exact ih3 _ _ _ _ _
  |exact LeO.none _
  |refine LeO.ite ?_ ?_
  |refine LeO.bind ?_ (fun _=> ?_)
theorem law16_Great.mono: ∀a0 a1 a2 k,LeO (law16_Great.f k a0 a1 a2) (law16_Great.f (k+1) a0 a1 a2):=by
 intro a0 a1 a2 k
 obtain ⟨ih0,ih1,ih2,ih3⟩:=law16_Great.mono_l k
 unfold law16_Great.f
 repeat' first
  |(with_reducible exact ih0 _ _ _ _)
  |(with_reducible exact ih1 _ _ _ _ _)
  |(with_reducible exact ih2 _ _ _ _)
  |(with_reducible exact ih3 _ _ _ _ _)
  |(with_reducible exact LeO.refl _)
  |(with_reducible exact LeO.none _)
  |(with_reducible refine LeO.ite ?_ ?_)
  |(with_reducible refine LeO.bind ?_ (fun _=> ?_))
  |exact ih0 _ _ _ _
  |exact ih1 _ _ _ _ _
  |exact ih2 _ _ _ _
  |exact ih3 _ _ _ _ _
  |exact LeO.none _
  |refine LeO.ite ?_ ?_
  |refine LeO.bind ?_ (fun _=> ?_)
set_option maxHeartbeats 8000000 in
set_option maxRecDepth 100000 in
theorem law16_Great.calls (k:Nat) (A0_0:Option Addr) (c0_0:Nat) (l0_0:List (S54)) (A0_1:Option Addr) (c0_1:Nat) (l0_1:List (S58)) (a0_2:Int) (r:Bool) (w:World) (hr0_0:Kd.C k54 w A0_0 l0_0.length l0_0) (hc0_0:l0_0.length≤c0_0) (hr0_1:Kd.C k58 w A0_1 l0_1.length l0_1) (hc0_1:l0_1.length≤c0_1) (h:law16_Great.f k l0_0 l0_1 a0_2=some r):
  Calls Try.prog 37 #[.agg #[.slice A0_0 l0_0.length c0_0, .slice A0_1 l0_1.length c0_1, .int .i64 a0_2]] w fun e w'=>e= .returned (.bool r)∧Below w.heap.size w w':=by
 have HR0_0:=Aside0.mk hr0_0
 clear hr0_0 hc0_0
 have HR0_1:=Aside0.mk hr0_1
 clear hr0_1 hc0_1
 have HB:=am_ (Below.refl w.heap.size w)
 have H:(law16_Great.l0 k 0 l0_0 l0_1 a0_2)=some r:=h
 clear h
 have H':=Aside0.mk H
 clear H
 go_enter Try.func37,Try.ntmps37
 go_wp2_with (first|((with_reducible refine gate_dst (N:=1) rfl ?_);(try (refine gate_guard (by rfl) ?_;dsimp only));refine bx_ (N:=1) (cs:=#[.slice A0_0 l0_0.length c0_0, .slice A0_1 l0_1.length c0_1, .int .i64 a0_2]) (t:=42) ?_;intro gb1 hg w2 hbox hb;have n0_:=am_ (below_step (zl0_ HB) hb);have n1_:=am_ (hbox);have n3_:=am_ ((zg0_ HB hg:w.heap.size≤gb1));clear HB;have HB:=n0_;have BK1:=n1_;have GE1:=n3_;clear n0_ n1_ n3_;clear hb hbox hg))
 go_loopg [3] k (fun kq v3 w'=> ∃(x3_1:Int),v3= .int .i64 x3_1∧Aside0 (law16_Great.l0 kq x3_1 l0_0 l0_1 a0_2=some r)∧Aside0 (kq≤k)∧Aside0 (w'.heap[gb1]?=some (.cells #[(.slice A0_0 l0_0.length c0_0),(.slice A0_1 l0_1.length c0_1), .int .i64 a0_2] 42 (0,0)))∧Aside0 (Below w.heap.size w w'))
 case atStart=>exact ⟨(0),(by first|rfl|(simp;done)|(simp [*];done)),H',⟨Nat.le_refl _⟩,⟨by refine zk_ ?_;exact BK1.out⟩,⟨zl1_ HB GE1⟩⟩
 case round=>
  clear H'
  try clear p2
  obtain ⟨x3_1,rfl,HA,HK1,BK1,HB⟩:=hrel
  cases gk with
  |zero=>exact absurd HA.out (by simp [law16_Great.l0])
  |succ k1=>
   have H:=HA.out
   clear HA
   simp only [law16_Great.l0] at H
   have HC3:=Aside0.mk H
   clear H
   go_upto_region 2 with (fail)
   go_cut [13] (fun v13 wc=> ∃(kq:Nat) (x13_2:Bool),v13= .bool x13_2∧Aside0 (law16_Great.j1 kq x3_1 x13_2 l0_0 l0_1 a0_2=some r)∧Aside0 (kq≤k1)∧Aside0 (wc.heap[gb1]?=some (.cells #[(.slice A0_0 l0_0.length c0_0),(.slice A0_1 l0_1.length c0_1), .int .i64 a0_2] 42 (0,0)))∧Aside0 (Below w.heap.size w wc))
   case first=>
    have H:=HC3.out
    clear HC3
    by_cases c4:x3_1<(l0_0.length:Int)
    ·rw [if_pos c4] at H
     have c4b0:decide (x3_1<(l0_0.length:Int))=true:=decide_eq_true c4
     clear c4
     (first|rw [c4b0]|(simp only [i64_w,i32_w];rw [c4b0])|skip)
     have H':=Aside0.mk H
     clear H
     have hcz5_0:=zz_ BK1 0
     go_wp2
     go_meet
     case rel=>exact ⟨_,(decide (x3_1<300)),(by first|rfl|(simp;done)|(simp [*];done)),H',⟨by have:=HK1.out;first|omega|exact Nat.le_refl _⟩,⟨by refine zk_ ?_;exact BK1.out⟩,⟨zl1_ HB GE1⟩⟩
    rw [if_neg c4] at H
    have c4b0:decide (x3_1<(l0_0.length:Int))=false:=decide_eq_false c4
    clear c4
    (first|rw [c4b0]|(simp only [i64_w,i32_w];rw [c4b0])|skip)
    have H':=Aside0.mk H
    clear H
    have hcz6_0:=zz_ BK1 0
    go_wp2
    go_meet
    case rel=>exact ⟨_,(false),(by first|rfl|(simp;done)|(simp [*];done)),H',⟨by have:=HK1.out;first|omega|exact Nat.le_refl _⟩,⟨by refine zk_ ?_;exact BK1.out⟩,⟨zl1_ HB GE1⟩⟩
   case rest=>
    clear HC3
    try clear p2
    try clear c3
    try clear c4
    try clear c4b0
    try clear hcz5_0
    try clear hcz6_0
    try clear p2
    obtain ⟨kq,x13_2,rfl,HA,HJ2,BK1,HB⟩:=hcut
    cases kq with
    |zero=>exact absurd HA.out (by simp [law16_Great.j1])
    |succ kj2=>
     have H:=HA.out
     clear HA
     simp only [law16_Great.j1] at H
     by_cases c7:x13_2=true
     ·subst c7
      have H1:(if 0≤x3_1 then (if x3_1<(l0_0.length:Int) then (if (((rd_T54 l0_0 x3_1).f0).size:Int)>100 then (some true) else (if (((rd_T54 l0_0 x3_1).f1).size:Int)>100 then (some true) else (law16_Great.l0 kj2 (wrap64 (x3_1+1)) l0_0 l0_1 a0_2))) else (none)) else (none))=some r:=by rw [if_pos rfl] at H;exact H
      clear H
      have H:=H1
      clear H1
      by_cases c8:0≤x3_1
      rotate_left
      ·rw [if_neg c8] at H
       exact absurd H (by simp)
      rw [if_pos c8] at H
      have c8b0:decide (0≤x3_1)=true:=decide_eq_true c8
      clear c8
      by_cases c9:x3_1<(l0_0.length:Int)
      rotate_left
      ·rw [if_neg c9] at H
       exact absurd H (by simp)
      rw [if_pos c9] at H
      have c9b0:decide (x3_1<(l0_0.length:Int))=true:=decide_eq_true c9
      clear c9
      by_cases c10:(((rd_T54 l0_0 x3_1).f0).size:Int)>100
      ·rw [if_pos c10] at H
       have c10b0:decide (100<(((rd_T54 l0_0 x3_1).f0).size:Int))=true:=decide_eq_true c10
       clear c10
       obtain rfl:=Option.some.inj H
       have hcz11_0:=zz_ BK1 0
       have p2:0≤(x3_1:Int):=of_decide_eq_true zq_
       have q2:x3_1<(l0_0.length:Int):=of_decide_eq_true zq_
       obtain ⟨ad2,e2,hx2_0,hx2_1,hx2_2,hx2_3,hx2_4,hx2_5⟩:=at_T54 HR0_0.out x3_1 p2 q2
       cases e2
       replace hx2_0:=zx_ HB hx2_0
       replace hx2_1:=zx_ HB hx2_1
       replace hx2_2:=zx_ HB hx2_2
       replace hx2_3:=zx_ HB hx2_3
       replace hx2_4:=zx_ HB hx2_4
       replace hx2_5:=zx_ HB hx2_5
       replace p2:=eq_true p2
       replace q2:=eq_true q2
       go_wp2
       go_ret
       exact ⟨by first|rfl|(simp [errW_none,errW_some]<;>rfl)|(simp [*,errW_none,errW_some]<;>rfl),zl1_ HB GE1⟩
      rw [if_neg c10] at H
      have c10b0:decide (100<(((rd_T54 l0_0 x3_1).f0).size:Int))=false:=decide_eq_false c10
      clear c10
      by_cases c12:(((rd_T54 l0_0 x3_1).f1).size:Int)>100
      ·rw [if_pos c12] at H
       have c12b0:decide (100<(((rd_T54 l0_0 x3_1).f1).size:Int))=true:=decide_eq_true c12
       clear c12
       obtain rfl:=Option.some.inj H
       have hcz13_0:=zz_ BK1 0
       have p2:0≤(x3_1:Int):=of_decide_eq_true zq_
       have q2:x3_1<(l0_0.length:Int):=of_decide_eq_true zq_
       obtain ⟨ad2,e2,hx2_0,hx2_1,hx2_2,hx2_3,hx2_4,hx2_5⟩:=at_T54 HR0_0.out x3_1 p2 q2
       cases e2
       replace hx2_0:=zx_ HB hx2_0
       replace hx2_1:=zx_ HB hx2_1
       replace hx2_2:=zx_ HB hx2_2
       replace hx2_3:=zx_ HB hx2_3
       replace hx2_4:=zx_ HB hx2_4
       replace hx2_5:=zx_ HB hx2_5
       replace p2:=eq_true p2
       replace q2:=eq_true q2
       have p3:0≤(x3_1:Int):=of_decide_eq_true zq_
       have q3:x3_1<(l0_0.length:Int):=of_decide_eq_true zq_
       obtain ⟨ad3,e3,hx3_0,hx3_1,hx3_2,hx3_3,hx3_4,hx3_5⟩:=at_T54 HR0_0.out x3_1 p3 q3
       obtain rfl:ad2=ad3:=(by injection e3)
       replace hx3_0:=zx_ HB hx3_0
       replace hx3_1:=zx_ HB hx3_1
       replace hx3_2:=zx_ HB hx3_2
       replace hx3_3:=zx_ HB hx3_3
       replace hx3_4:=zx_ HB hx3_4
       replace hx3_5:=zx_ HB hx3_5
       replace p3:=eq_true p3
       replace q3:=eq_true q3
       go_wp2
       go_ret
       exact ⟨by first|rfl|(simp [errW_none,errW_some]<;>rfl)|(simp [*,errW_none,errW_some]<;>rfl),zl1_ HB GE1⟩
      rw [if_neg c12] at H
      have c12b0:decide (100<(((rd_T54 l0_0 x3_1).f1).size:Int))=false:=decide_eq_false c12
      clear c12
      have H':=Aside0.mk H
      clear H
      have hcz14_0:=zz_ BK1 0
      have p2:0≤(x3_1:Int):=of_decide_eq_true zq_
      have q2:x3_1<(l0_0.length:Int):=of_decide_eq_true zq_
      obtain ⟨ad2,e2,hx2_0,hx2_1,hx2_2,hx2_3,hx2_4,hx2_5⟩:=at_T54 HR0_0.out x3_1 p2 q2
      cases e2
      replace hx2_0:=zx_ HB hx2_0
      replace hx2_1:=zx_ HB hx2_1
      replace hx2_2:=zx_ HB hx2_2
      replace hx2_3:=zx_ HB hx2_3
      replace hx2_4:=zx_ HB hx2_4
      replace hx2_5:=zx_ HB hx2_5
      replace p2:=eq_true p2
      replace q2:=eq_true q2
      have p3:0≤(x3_1:Int):=of_decide_eq_true zq_
      have q3:x3_1<(l0_0.length:Int):=of_decide_eq_true zq_
      obtain ⟨ad3,e3,hx3_0,hx3_1,hx3_2,hx3_3,hx3_4,hx3_5⟩:=at_T54 HR0_0.out x3_1 p3 q3
      obtain rfl:ad2=ad3:=(by injection e3)
      replace hx3_0:=zx_ HB hx3_0
      replace hx3_1:=zx_ HB hx3_1
      replace hx3_2:=zx_ HB hx3_2
      replace hx3_3:=zx_ HB hx3_3
      replace hx3_4:=zx_ HB hx3_4
      replace hx3_5:=zx_ HB hx3_5
      replace p3:=eq_true p3
      replace q3:=eq_true q3
      go_wp2
      go_roundg kj2
      case measure=>have:=HK1.out;have:=HJ2.out;omega
      case rel=>exact ⟨(wrap64 (x3_1+1)),(by first|rfl|(simp;done)|(simp [*];done)),H',⟨by have:=HK1.out;have:=HJ2.out;omega⟩,⟨by refine zk_ ?_;exact BK1.out⟩,⟨zl1_ HB GE1⟩⟩
     replace c7:=Bool.eq_false_iff.mpr c7
     subst c7
     have H1:(law16_Great.l1 kj2 0 l0_0 l0_1 a0_2)=some r:=by rw [if_neg (show¬(false=true) by decide)] at H;exact H
     clear H
     have H:=H1
     clear H1
     have H':=Aside0.mk H
     clear H
     go_wp2
     go_loopg [4] kj2 (fun kq v4 w'=> ∃(x4_3:Int),v4= .int .i64 x4_3∧Aside0 (law16_Great.l1 kq x4_3 l0_0 l0_1 a0_2=some r)∧Aside0 (kq≤kj2)∧Aside0 (w'.heap[gb1]?=some (.cells #[(.slice A0_0 l0_0.length c0_0),(.slice A0_1 l0_1.length c0_1), .int .i64 a0_2] 42 (0,0)))∧Aside0 (Below w.heap.size w w'))
     case atStart=>exact ⟨(0),(by first|rfl|(simp;done)|(simp [*];done)),H',⟨Nat.le_refl _⟩,⟨by refine zk_ ?_;exact BK1.out⟩,⟨zl1_ HB GE1⟩⟩
     case round=>
      clear H'
      try clear c1
      try clear p2
      try clear q2
      try clear hx2
      try clear c3
      try clear p3
      try clear q3
      try clear hx3
      try clear c4
      try clear c4b0
      try clear p6
      try clear c7
      try clear c8
      try clear c8b0
      try clear c9
      try clear c9b0
      try clear c10
      try clear c10b0
      try clear c12
      try clear c12b0
      try clear hcz11_0
      try clear hcz13_0
      try clear hcz14_0
      try clear hcz5_0
      try clear hcz6_0
      try clear hx2_0
      try clear hx2_1
      try clear hx2_2
      try clear hx2_3
      try clear hx2_4
      try clear hx2_5
      try clear hx3_0
      try clear hx3_1
      try clear hx3_2
      try clear hx3_3
      try clear hx3_4
      try clear hx3_5
      try clear p2
      try clear p3
      try clear q2
      try clear q3
      obtain ⟨x4_3,rfl,HA,HK3,BK1,HB⟩:=hrel
      cases gk with
      |zero=>exact absurd HA.out (by simp [law16_Great.l1])
      |succ k3=>
       have H:=HA.out
       clear HA
       simp only [law16_Great.l1] at H
       have HC15:=Aside0.mk H
       clear H
       go_upto_region 7 with (fail)
       go_cut [42] (fun v42 wc=> ∃(kq:Nat) (x42_14:Bool),v42= .bool x42_14∧Aside0 (law16_Great.j3 kq x4_3 x42_14 l0_0 l0_1 a0_2=some r)∧Aside0 (kq≤k3)∧Aside0 (wc.heap[gb1]?=some (.cells #[(.slice A0_0 l0_0.length c0_0),(.slice A0_1 l0_1.length c0_1), .int .i64 a0_2] 42 (0,0)))∧Aside0 (Below w.heap.size w wc))
       case first=>
        have H:=HC15.out
        clear HC15
        by_cases c16:x4_3<(l0_1.length:Int)
        ·rw [if_pos c16] at H
         have c16b0:decide (x4_3<(l0_1.length:Int))=true:=decide_eq_true c16
         clear c16
         (first|rw [c16b0]|(simp only [i64_w,i32_w];rw [c16b0])|skip)
         have H':=Aside0.mk H
         clear H
         have hcz17_1:=zz_ BK1 1
         go_wp2
         go_meet
         case rel=>exact ⟨_,(decide (x4_3<600)),(by first|rfl|(simp;done)|(simp [*];done)),H',⟨by have:=HK1.out;have:=HJ2.out;have:=HK3.out;first|omega|exact Nat.le_refl _⟩,⟨by refine zk_ ?_;exact BK1.out⟩,⟨zl1_ HB GE1⟩⟩
        rw [if_neg c16] at H
        have c16b0:decide (x4_3<(l0_1.length:Int))=false:=decide_eq_false c16
        clear c16
        (first|rw [c16b0]|(simp only [i64_w,i32_w];rw [c16b0])|skip)
        have H':=Aside0.mk H
        clear H
        have hcz18_1:=zz_ BK1 1
        go_wp2
        go_meet
        case rel=>exact ⟨_,(false),(by first|rfl|(simp;done)|(simp [*];done)),H',⟨by have:=HK1.out;have:=HJ2.out;have:=HK3.out;first|omega|exact Nat.le_refl _⟩,⟨by refine zk_ ?_;exact BK1.out⟩,⟨zl1_ HB GE1⟩⟩
       case rest=>
        clear HC15
        try clear c1
        try clear p2
        try clear q2
        try clear hx2
        try clear c3
        try clear p3
        try clear q3
        try clear hx3
        try clear c4
        try clear c4b0
        try clear p6
        try clear c7
        try clear c8
        try clear c8b0
        try clear c9
        try clear c9b0
        try clear c10
        try clear c10b0
        try clear c12
        try clear c12b0
        try clear c16
        try clear c16b0
        try clear hcz11_0
        try clear hcz13_0
        try clear hcz14_0
        try clear hcz17_1
        try clear hcz18_1
        try clear hcz5_0
        try clear hcz6_0
        try clear hx2_0
        try clear hx2_1
        try clear hx2_2
        try clear hx2_3
        try clear hx2_4
        try clear hx2_5
        try clear hx3_0
        try clear hx3_1
        try clear hx3_2
        try clear hx3_3
        try clear hx3_4
        try clear hx3_5
        try clear p2
        try clear p3
        try clear p6
        try clear q2
        try clear q3
        obtain ⟨kq,x42_14,rfl,HA,HJ14,BK1,HB⟩:=hcut
        cases kq with
        |zero=>exact absurd HA.out (by simp [law16_Great.j3])
        |succ kj14=>
         have H:=HA.out
         clear HA
         simp only [law16_Great.j3] at H
         by_cases c19:x42_14=true
         rotate_left
         ·replace c19:=Bool.eq_false_iff.mpr c19
          subst c19
          have H1:(if (l0_0.length:Int)>260 then (some true) else (some (decide ((l0_1.length:Int)>500))))=some r:=by rw [if_neg (show¬(false=true) by decide)] at H;exact H
          clear H
          have H:=H1
          clear H1
          by_cases c27:(l0_0.length:Int)>260
          ·rw [if_pos c27] at H
           have c27b0:decide (260<(l0_0.length:Int))=true:=decide_eq_true c27
           clear c27
           obtain rfl:=Option.some.inj H
           have hcz28_0:=zz_ BK1 0
           go_wp2
           go_ret
           exact ⟨by first|rfl|(simp [errW_none,errW_some]<;>rfl)|(simp [*,errW_none,errW_some]<;>rfl),zl1_ HB GE1⟩
          rw [if_neg c27] at H
          have c27b0:decide (260<(l0_0.length:Int))=false:=decide_eq_false c27
          clear c27
          obtain rfl:=Option.some.inj H
          obtain ⟨hcz29_0,hcz29_1⟩:=x2_ BK1
          go_wp2
          go_ret
          exact ⟨by first|rfl|(simp [errW_none,errW_some]<;>rfl)|(simp [*,errW_none,errW_some]<;>rfl),zl1_ HB GE1⟩

         subst c19
         have H1:(if 0≤x4_3 then (if x4_3<(l0_1.length:Int) then (if (((rd_T58 l0_1 x4_3).f1).size:Int)>100 then (some true) else (if (((rd_T58 l0_1 x4_3).f2).size:Int)>100 then (some true) else (law16_Great.l1 kj14 (wrap64 (x4_3+1)) l0_0 l0_1 a0_2))) else (none)) else (none))=some r:=by rw [if_pos rfl] at H;exact H
         clear H
         have H:=H1
         clear H1
         by_cases c20:0≤x4_3
         rotate_left
         ·rw [if_neg c20] at H
          exact absurd H (by simp)
         rw [if_pos c20] at H
         have c20b0:decide (0≤x4_3)=true:=decide_eq_true c20
         clear c20
         by_cases c21:x4_3<(l0_1.length:Int)
         rotate_left
         ·rw [if_neg c21] at H
          exact absurd H (by simp)
         rw [if_pos c21] at H
         have c21b0:decide (x4_3<(l0_1.length:Int))=true:=decide_eq_true c21
         clear c21
         by_cases c22:(((rd_T58 l0_1 x4_3).f1).size:Int)>100
         ·rw [if_pos c22] at H
          have c22b0:decide (100<(((rd_T58 l0_1 x4_3).f1).size:Int))=true:=decide_eq_true c22
          clear c22
          obtain rfl:=Option.some.inj H
          have hcz23_1:=zz_ BK1 1
          have p4:0≤(x4_3:Int):=of_decide_eq_true zq_
          have q4:x4_3<(l0_1.length:Int):=of_decide_eq_true zq_
          obtain ⟨ad4,e4,hx4_0,hx4_1,hx4_2,hx4_3,hx4_4,hx4_5⟩:=at_T58 HR0_1.out x4_3 p4 q4
          cases e4
          replace hx4_0:=zx_ HB hx4_0
          replace hx4_1:=zx_ HB hx4_1
          replace hx4_2:=zx_ HB hx4_2
          replace hx4_3:=zx_ HB hx4_3
          replace hx4_4:=zx_ HB hx4_4
          replace hx4_5:=zx_ HB hx4_5
          replace p4:=eq_true p4
          replace q4:=eq_true q4
          go_wp2
          go_ret
          exact ⟨by first|rfl|(simp [errW_none,errW_some]<;>rfl)|(simp [*,errW_none,errW_some]<;>rfl),zl1_ HB GE1⟩
         rw [if_neg c22] at H
         have c22b0:decide (100<(((rd_T58 l0_1 x4_3).f1).size:Int))=false:=decide_eq_false c22
         clear c22
         by_cases c24:(((rd_T58 l0_1 x4_3).f2).size:Int)>100
         ·rw [if_pos c24] at H
          have c24b0:decide (100<(((rd_T58 l0_1 x4_3).f2).size:Int))=true:=decide_eq_true c24
          clear c24
          obtain rfl:=Option.some.inj H
          have hcz25_1:=zz_ BK1 1
          have p4:0≤(x4_3:Int):=of_decide_eq_true zq_
          have q4:x4_3<(l0_1.length:Int):=of_decide_eq_true zq_
          obtain ⟨ad4,e4,hx4_0,hx4_1,hx4_2,hx4_3,hx4_4,hx4_5⟩:=at_T58 HR0_1.out x4_3 p4 q4
          cases e4
          replace hx4_0:=zx_ HB hx4_0
          replace hx4_1:=zx_ HB hx4_1
          replace hx4_2:=zx_ HB hx4_2
          replace hx4_3:=zx_ HB hx4_3
          replace hx4_4:=zx_ HB hx4_4
          replace hx4_5:=zx_ HB hx4_5
          replace p4:=eq_true p4
          replace q4:=eq_true q4
          have p5:0≤(x4_3:Int):=of_decide_eq_true zq_
          have q5:x4_3<(l0_1.length:Int):=of_decide_eq_true zq_
          obtain ⟨ad5,e5,hx5_0,hx5_1,hx5_2,hx5_3,hx5_4,hx5_5⟩:=at_T58 HR0_1.out x4_3 p5 q5
          obtain rfl:ad4=ad5:=(by injection e5)
          replace hx5_0:=zx_ HB hx5_0
          replace hx5_1:=zx_ HB hx5_1
          replace hx5_2:=zx_ HB hx5_2
          replace hx5_3:=zx_ HB hx5_3
          replace hx5_4:=zx_ HB hx5_4
          replace hx5_5:=zx_ HB hx5_5
          replace p5:=eq_true p5
          replace q5:=eq_true q5
          go_wp2
          go_ret
          exact ⟨by first|rfl|(simp [errW_none,errW_some]<;>rfl)|(simp [*,errW_none,errW_some]<;>rfl),zl1_ HB GE1⟩
         rw [if_neg c24] at H
         have c24b0:decide (100<(((rd_T58 l0_1 x4_3).f2).size:Int))=false:=decide_eq_false c24
         clear c24
         have H':=Aside0.mk H
         clear H
         have hcz26_1:=zz_ BK1 1
         have p4:0≤(x4_3:Int):=of_decide_eq_true zq_
         have q4:x4_3<(l0_1.length:Int):=of_decide_eq_true zq_
         obtain ⟨ad4,e4,hx4_0,hx4_1,hx4_2,hx4_3,hx4_4,hx4_5⟩:=at_T58 HR0_1.out x4_3 p4 q4
         cases e4
         replace hx4_0:=zx_ HB hx4_0
         replace hx4_1:=zx_ HB hx4_1
         replace hx4_2:=zx_ HB hx4_2
         replace hx4_3:=zx_ HB hx4_3
         replace hx4_4:=zx_ HB hx4_4
         replace hx4_5:=zx_ HB hx4_5
         replace p4:=eq_true p4
         replace q4:=eq_true q4
         have p5:0≤(x4_3:Int):=of_decide_eq_true zq_
         have q5:x4_3<(l0_1.length:Int):=of_decide_eq_true zq_
         obtain ⟨ad5,e5,hx5_0,hx5_1,hx5_2,hx5_3,hx5_4,hx5_5⟩:=at_T58 HR0_1.out x4_3 p5 q5
         obtain rfl:ad4=ad5:=(by injection e5)
         replace hx5_0:=zx_ HB hx5_0
         replace hx5_1:=zx_ HB hx5_1
         replace hx5_2:=zx_ HB hx5_2
         replace hx5_3:=zx_ HB hx5_3
         replace hx5_4:=zx_ HB hx5_4
         replace hx5_5:=zx_ HB hx5_5
         replace p5:=eq_true p5
         replace q5:=eq_true q5
         go_wp2
         go_roundg kj14
         case measure=>have:=HK1.out;have:=HJ2.out;have:=HK3.out;have:=HJ14.out;omega
         case rel=>exact ⟨(wrap64 (x4_3+1)),(by first|rfl|(simp;done)|(simp [*];done)),H',⟨by have:=HK1.out;have:=HJ2.out;have:=HK3.out;have:=HJ14.out;omega⟩,⟨by refine zk_ ?_;exact BK1.out⟩,⟨zl1_ HB GE1⟩⟩
def law20_awake.f:Option (Bool):=(effect_Holds.f ([]:List (S31)) 4 (⟨#[97]⟩:ByteArray) (⟨#[]⟩:ByteArray) 0 0 0).bind fun t4=>(if t4=true then ((effect_Marks.f ([]:List (S54)) (([(⟨(⟨#[97]⟩:ByteArray),(⟨#[]⟩:ByteArray),(⟨0,0,0⟩:S27),(⟨0,0,0⟩:S27),(⟨0,0,0⟩:S27),1⟩:S31)]:List (S31))) 3 (⟨#[97]⟩:ByteArray) (⟨#[]⟩:ByteArray) 0 0 0).bind fun t5=>(some ((t5.length:Int)==1))) else (some false))
set_option maxHeartbeats 8000000 in
set_option maxRecDepth 100000 in
theorem law20_awake.calls (r:Bool) (w:World) (h:law20_awake.f=some r):
  Calls Try.prog 51 #[] w fun e w'=>e= .returned (.bool r)∧Below w.heap.size w w':=by
 have hu31:=Try.underlying31
 have hu58:=Try.underlying58
 have HB:=am_ (Below.refl w.heap.size w)
 have H:((effect_Holds.f ([]:List (S31)) 4 (⟨#[97]⟩:ByteArray) (⟨#[]⟩:ByteArray) 0 0 0).bind fun t4=>(if t4=true then ((effect_Marks.f ([]:List (S54)) (([(⟨(⟨#[97]⟩:ByteArray),(⟨#[]⟩:ByteArray),(⟨0,0,0⟩:S27),(⟨0,0,0⟩:S27),(⟨0,0,0⟩:S27),1⟩:S31)]:List (S31))) 3 (⟨#[97]⟩:ByteArray) (⟨#[]⟩:ByteArray) 0 0 0).bind fun t5=>(some ((t5.length:Int)==1))) else (some false)))=some r:=h
 clear h
 obtain ⟨y1,hy1⟩: ∃y_:List (S31),y_=(([(⟨(⟨#[97]⟩:ByteArray),(⟨#[]⟩:ByteArray),(⟨0,0,0⟩:S27),(⟨0,0,0⟩:S27),(⟨0,0,0⟩:S27),1⟩:S31)]:List (S31))):=⟨_,rfl⟩
 replace H:((effect_Holds.f ([]:List (S31)) 4 (⟨#[97]⟩:ByteArray) (⟨#[]⟩:ByteArray) 0 0 0).bind fun t4=>(if t4=true then ((effect_Marks.f ([]:List (S54)) y1 3 (⟨#[97]⟩:ByteArray) (⟨#[]⟩:ByteArray) 0 0 0).bind fun t5=>(some ((t5.length:Int)==1))) else (some false)))=some r:=by first|(rw [hy1];with_reducible exact H)|(have H2_:=(Option.bind_some _ _).symm.trans H;rw [hy1];with_reducible exact H2_)|(have H2_:=(Option.bind_some _ _).symm.trans H;with_reducible exact H2_)|with_reducible exact H|(rw [hy1];exact H)|exact H
 have Ny1:=Aside0.mk hy1
 clear hy1
 replace H:=Option.bind_eq_some_iff.mp H
 obtain ⟨t4,A10,H⟩:=H
 try dsimp only at H
 have A1:=Aside0.mk A10
 clear A10
 by_cases c2:t4=true
 rotate_left
 ·replace c2:=Bool.eq_false_iff.mpr c2
  subst c2
  have H1:(some false)=some r:=by rw [if_neg (show¬(false=true) by decide)] at H;exact H
  clear H
  have H:=H1
  clear H1
  obtain rfl:=Option.some.inj H
  go_enter Try.func51,Try.ntmps51
  go_wp2_with (first|((with_reducible refine gate_dst (N:=3) rfl ?_);(try (refine gate_guard (by rfl) ?_;dsimp only));refine Kd.R_lit k31 _ 31 ?hg (N:=3) ?hd (xs:=([(⟨(⟨#[97]⟩:ByteArray),(⟨#[]⟩:ByteArray),(⟨0,0,0⟩:S27),(⟨0,0,0⟩:S27),(⟨0,0,0⟩:S27),1⟩:S31)]:List (S31))) (inner:=[.string (⟨#[97]⟩:ByteArray), .string (⟨#[]⟩:ByteArray), .int .i64 0, .int .i64 0, .int .i64 0, .int .i64 0, .int .i64 0, .int .i64 0, .int .i64 0, .int .i64 0, .int .i64 0, .int .i64 1]) (ok:=fun _=>True) (okp:=fun _=>True) ?hr ?hp (fun _ hk=>hk) trivial (Below.refl _ _) (Nat.le_refl _) (by simp) ?_;(case hd=>rfl);(case hg=>rfl);(case hr=>first|(go_simp;done)|(go_simp;rfl));(case hp=>exact (Reps.front (show Kd.M k31 _ _ _ (⟨(⟨#[97]⟩:ByteArray),(⟨#[]⟩:ByteArray),(⟨0,0,0⟩:S27),(⟨0,0,0⟩:S27),(⟨0,0,0⟩:S27),1⟩:S31) [.string (⟨#[97]⟩:ByteArray), .string (⟨#[]⟩:ByteArray), .int .i64 0, .int .i64 0, .int .i64 0, .int .i64 0, .int .i64 0, .int .i64 0, .int .i64 0, .int .i64 0, .int .i64 0, .int .i64 1] from (k31_mkM _ _ _ (⟨(⟨#[97]⟩:ByteArray),(⟨#[]⟩:ByteArray),(⟨0,0,0⟩:S27),(⟨0,0,0⟩:S27),(⟨0,0,0⟩:S27),1⟩:S31))) rfl (Reps.none _ _) rfl));intro v2 w10 ho11 hb hg_ hnew_;clear hg_ hnew_;(first|rw [←Ny1.out] at ho11|(simp only [Int.reduceToNat] at ho11;rw [←Ny1.out] at ho11));have HO3:=am_ (Kd.R_lower ho11 (below_size (zl0_ HB)));replace HB:=am_ (below_step (zl0_ HB) hb);clear hb ho11)|((with_reducible refine gate_callee (f:=52) rfl ?_);refine gl_ (some 5) Try.func52 #[.slice none 0 0, .agg #[.int .i64 4, .string (⟨#[97]⟩:ByteArray), .string (⟨#[]⟩:ByteArray), .int .i64 0, .int .i64 0, .int .i64 0]] ?_;(refine (effect_Holds.calls _ _ ([]:List (S31)) 4 (⟨#[97]⟩:ByteArray) (⟨#[]⟩:ByteArray) 0 0 0 false _ ?side1 ?side2 A1.out).mono ?_);(case side1=>exact Kd.C_nil _ _);(case side2=>exact Nat.le_refl _);rintro e w12 ⟨rfl,hb⟩;refine ⟨_,rfl, ?_⟩;replace HO3:=am_ (Kd.R_below (zr_ HO3) hb);replace HB:=am_ (below_step (zl0_ HB) hb);(try clear hb);(try clear hb2);(try clear hk);(try clear hi)))
  go_ret
  exact ⟨by first|rfl|(simp [errW_none,errW_some]<;>rfl)|(simp [*,errW_none,errW_some]<;>rfl),zl0_ HB⟩

 subst c2
 have H1:((effect_Marks.f ([]:List (S54)) y1 3 (⟨#[97]⟩:ByteArray) (⟨#[]⟩:ByteArray) 0 0 0).bind fun t5=>(some ((t5.length:Int)==1)))=some r:=by rw [if_pos rfl] at H;exact H
 clear H
 have H:=H1
 clear H1
 replace H:=Option.bind_eq_some_iff.mp H
 obtain ⟨t5,A30,H⟩:=H
 try dsimp only at H
 have A3:=Aside0.mk A30
 clear A30
 obtain rfl:=Option.some.inj H
 go_enter Try.func51,Try.ntmps51
 go_wp2_with (first|((with_reducible refine gate_dst (N:=3) rfl ?_);(try (refine gate_guard (by rfl) ?_;dsimp only));refine Kd.R_lit k31 _ 31 ?hg (N:=3) ?hd (xs:=([(⟨(⟨#[97]⟩:ByteArray),(⟨#[]⟩:ByteArray),(⟨0,0,0⟩:S27),(⟨0,0,0⟩:S27),(⟨0,0,0⟩:S27),1⟩:S31)]:List (S31))) (inner:=[.string (⟨#[97]⟩:ByteArray), .string (⟨#[]⟩:ByteArray), .int .i64 0, .int .i64 0, .int .i64 0, .int .i64 0, .int .i64 0, .int .i64 0, .int .i64 0, .int .i64 0, .int .i64 0, .int .i64 1]) (ok:=fun _=>True) (okp:=fun _=>True) ?hr ?hp (fun _ hk=>hk) trivial (Below.refl _ _) (Nat.le_refl _) (by simp) ?_;(case hd=>rfl);(case hg=>rfl);(case hr=>first|(go_simp;done)|(go_simp;rfl));(case hp=>exact (Reps.front (show Kd.M k31 _ _ _ (⟨(⟨#[97]⟩:ByteArray),(⟨#[]⟩:ByteArray),(⟨0,0,0⟩:S27),(⟨0,0,0⟩:S27),(⟨0,0,0⟩:S27),1⟩:S31) [.string (⟨#[97]⟩:ByteArray), .string (⟨#[]⟩:ByteArray), .int .i64 0, .int .i64 0, .int .i64 0, .int .i64 0, .int .i64 0, .int .i64 0, .int .i64 0, .int .i64 0, .int .i64 0, .int .i64 1] from (k31_mkM _ _ _ (⟨(⟨#[97]⟩:ByteArray),(⟨#[]⟩:ByteArray),(⟨0,0,0⟩:S27),(⟨0,0,0⟩:S27),(⟨0,0,0⟩:S27),1⟩:S31))) rfl (Reps.none _ _) rfl));intro v2 w4 ho5 hb hg_ hnew_;clear hg_ hnew_;(first|rw [←Ny1.out] at ho5|(simp only [Int.reduceToNat] at ho5;rw [←Ny1.out] at ho5));have HO3:=am_ (Kd.R_lower ho5 (below_size (zl0_ HB)));replace HB:=am_ (below_step (zl0_ HB) hb);clear hb ho5)|((with_reducible refine gate_callee (f:=52) rfl ?_);refine gl_ (some 5) Try.func52 #[.slice none 0 0, .agg #[.int .i64 4, .string (⟨#[97]⟩:ByteArray), .string (⟨#[]⟩:ByteArray), .int .i64 0, .int .i64 0, .int .i64 0]] ?_;(refine (effect_Holds.calls _ _ ([]:List (S31)) 4 (⟨#[97]⟩:ByteArray) (⟨#[]⟩:ByteArray) 0 0 0 true _ ?side1 ?side2 A1.out).mono ?_);(case side1=>exact Kd.C_nil _ _);(case side2=>exact Nat.le_refl _);rintro e w6 ⟨rfl,hb⟩;refine ⟨_,rfl, ?_⟩;replace HO3:=am_ (Kd.R_below (zr_ HO3) hb);replace HB:=am_ (below_step (zl0_ HB) hb);(try clear hb);(try clear hb2);(try clear hk);(try clear hi);obtain ⟨Ao7,co7,eo7⟩:=Kd.R_slice HO3.out;subst eo7)|(go_at_call 54;(refine (effect_Marks.calls _ _ ([]:List (S54)) _ _ y1 3 (⟨#[97]⟩:ByteArray) (⟨#[]⟩:ByteArray) 0 0 0 t5 _ ?side1 ?side2 ?side3 ?side4 A3.out).mono ?_);(case side1=>exact Kd.C_nil _ _);(case side2=>exact Nat.le_refl _);(case side3=>exact zc_ (Kd.R_reads' HO3.out).2.2);(case side4=>exact (Kd.R_reads' HO3.out).2.1);rintro e w8 ⟨v6,rfl,ho0,hb⟩;replace HO3:=am_ (Kd.R_below (zr_ HO3) hb);have HO7:=am_ (Kd.R_lower ho0 (below_size (zl0_ HB)));replace HB:=am_ (below_step (zl0_ HB) hb);(try clear hb);(try clear hb2);(try clear hk);(try clear hi);(try clear ho0);obtain ⟨Ao9,co9,eo9⟩:=Kd.R_slice HO7.out;subst eo9))
 go_ret
 exact ⟨by first|rfl|(simp [errW_none,errW_some]<;>rfl)|(simp [*,errW_none,errW_some]<;>rfl),zl0_ HB⟩
mutual
def law20_EffectAll.j0:Nat→List (S54)→List (S31)→Bool→Int→ByteArray→ByteArray→Int→Int→Int→Option (Bool)
 |0,_,_,_,_,_,_,_,_,_=>none
 |k+1,x0,x1,x31,x2000,x2001,x2002,x2003,x2004,x2005=>if x31=true then ((law20_awake.f).bind fun t5=>(some t5)) else ((effect_Holds.f x1 x2000 x2001 x2002 x2003 x2004 x2005).bind fun t6=>((r16_Holds.f k x1 x2000 x2001 x2002 x2003 x2004 x2005).bind fun t7=>(if (t6 !=t7)=true then (none) else (law20_EffectAll.l0 k x0 x1 1 x2000 x2001 x2002 x2003 x2004 x2005))))
def law20_EffectAll.l0:Nat→List (S54)→List (S31)→Int→Int→ByteArray→ByteArray→Int→Int→Int→Option (Bool)
 |0,_,_,_,_,_,_,_,_,_=>none
 |k+1,x0,x1,x7,x2000,x2001,x2002,x2003,x2004,x2005=>if x7<(x0.length:Int) then (if 0≤(wrap64 (x7 - 1)) then (if (wrap64 (x7 - 1))<(x0.length:Int) then (if 0≤x7 then (if ((Op.bytesLess (((rd_T54 x0 (wrap64 (x7 - 1))).f0).toList) (((rd_T54 x0 x7).f0).toList))=true) then (law20_EffectAll.l0 k x0 x1 (wrap64 (x7+1)) x2000 x2001 x2002 x2003 x2004 x2005) else ((law20_awake.f).bind fun t10=>(some t10))) else (none)) else (none)) else (none)) else ((effect_Marks.f x0 x1 x2000 x2001 x2002 x2003 x2004 x2005).bind fun t11=>((r16_Marks.f k x0 x1 x2000 x2001 x2002 x2003 x2004 x2005).bind fun t14=>((r16_SameMarks.f k t11 t14).bind fun t17=>(if t17=true then ((law20_awake.f).bind fun t18=>(some t18)) else (none)))))
end
def law20_EffectAll.f (k:Nat) (l0:List (S54)) (l1:List (S31)) (a2_0:Int) (a2_1:ByteArray) (a2_2:ByteArray) (a2_3:Int) (a2_4:Int) (a2_5:Int):Option (Bool):=(law12_Great.f k l1).bind fun t2=>(if t2=true then (law20_EffectAll.j0 k l0 l1 true a2_0 a2_1 a2_2 a2_3 a2_4 a2_5) else ((r10_Right.f k l1).bind fun t3=>(if t3=true then ((law16_Great.f k l0 ([]:List (S58)) 0).bind fun t4=>(if t4=true then (law20_EffectAll.j0 k l0 l1 true a2_0 a2_1 a2_2 a2_3 a2_4 a2_5) else (if (a2_1.size:Int)>100 then (law20_EffectAll.j0 k l0 l1 true a2_0 a2_1 a2_2 a2_3 a2_4 a2_5) else (law20_EffectAll.j0 k l0 l1 (decide ((a2_2.size:Int)>100)) a2_0 a2_1 a2_2 a2_3 a2_4 a2_5)))) else (law20_EffectAll.j0 k l0 l1 true a2_0 a2_1 a2_2 a2_3 a2_4 a2_5))))
theorem law20_EffectAll.mono_l: ∀k,(∀y0 y1 y2 y3 y4 y5 y6 y7 y8,LeO (law20_EffectAll.j0 k y0 y1 y2 y3 y4 y5 y6 y7 y8) (law20_EffectAll.j0 (k+1) y0 y1 y2 y3 y4 y5 y6 y7 y8))∧(∀y0 y1 y2 y3 y4 y5 y6 y7 y8,LeO (law20_EffectAll.l0 k y0 y1 y2 y3 y4 y5 y6 y7 y8) (law20_EffectAll.l0 (k+1) y0 y1 y2 y3 y4 y5 y6 y7 y8))
 |0=>⟨fun _ _ _ _ _ _ _ _ _ r h=>by simp [law20_EffectAll.j0] at h,fun _ _ _ _ _ _ _ _ _ r h=>by simp [law20_EffectAll.l0] at h⟩
 |k+1=>by
  obtain ⟨ih0,ih1⟩:=law20_EffectAll.mono_l k
  refine ⟨?_, ?_⟩
  ·intro y0 y1 y2 y3 y4 y5 y6 y7 y8
   unfold law20_EffectAll.j0
   repeat' first
   |(with_reducible exact ih0 _ _ _ _ _ _ _ _ _)
   |(with_reducible exact ih1 _ _ _ _ _ _ _ _ _)
   |(with_reducible exact law12_Great.mono _ _)
   |(with_reducible exact law16_Great.mono _ _ _ _)
   |(with_reducible exact r10_Right.mono _ _)
   |(with_reducible exact r16_Holds.mono _ _ _ _ _ _ _ _)
   |(with_reducible exact r16_Marks.mono _ _ _ _ _ _ _ _ _)
   |(with_reducible exact r16_SameMarks.mono _ _ _)
   |(with_reducible exact LeO.refl _)
   |(with_reducible exact LeO.none _)
   |(with_reducible refine LeO.ite ?_ ?_)
   |(with_reducible refine LeO.bind ?_ (fun _=> ?_))
   |exact ih0 _ _ _ _ _ _ _ _ _
   |exact ih1 _ _ _ _ _ _ _ _ _
   |exact law12_Great.mono _ _
   |exact law16_Great.mono _ _ _ _
   |exact r10_Right.mono _ _
   |exact r16_Holds.mono _ _ _ _ _ _ _ _
   |exact r16_Marks.mono _ _ _ _ _ _ _ _ _
   |exact r16_SameMarks.mono _ _ _
   |exact LeO.none _
   |refine LeO.ite ?_ ?_
   |refine LeO.bind ?_ (fun _=> ?_)
  intro y0 y1 y2 y3 y4 y5 y6 y7 y8
  unfold law20_EffectAll.l0
  repeat' first
  |(with_reducible exact ih0 _ _ _ _ _ _ _ _ _)
  |(with_reducible exact ih1 _ _ _ _ _ _ _ _ _)
  |(with_reducible exact law12_Great.mono _ _)
  |(with_reducible exact law16_Great.mono _ _ _ _)
  |(with_reducible exact r10_Right.mono _ _)
  |(with_reducible exact r16_Holds.mono _ _ _ _ _ _ _ _)
  |(with_reducible exact r16_Marks.mono _ _ _ _ _ _ _ _ _)
  |(with_reducible exact r16_SameMarks.mono _ _ _)
  |(with_reducible exact LeO.refl _)
  |(with_reducible exact LeO.none _)
  |(with_reducible refine LeO.ite ?_ ?_)
  |(with_reducible refine LeO.bind ?_ (fun _=> ?_))
  |exact ih0 _ _ _ _ _ _ _ _ _
  |exact ih1 _ _ _ _ _ _ _ _ _
  |exact law12_Great.mono _ _
  |exact law16_Great.mono _ _ _ _
  |exact r10_Right.mono _ _
  |exact r16_Holds.mono _ _ _ _ _ _ _ _
  |exact r16_Marks.mono _ _ _ _ _ _ _ _ _
  |exact r16_SameMarks.mono _ _ _
  |exact LeO.none _
  |refine LeO.ite ?_ ?_
  |refine LeO.bind ?_ (fun _=> ?_)
theorem law20_EffectAll.mono: ∀a0 a1 a2 a3 a4 a5 a6 a7 k,LeO (law20_EffectAll.f k a0 a1 a2 a3 a4 a5 a6 a7) (law20_EffectAll.f (k+1) a0 a1 a2 a3 a4 a5 a6 a7):=by
 intro a0 a1 a2 a3 a4 a5 a6 a7 k
 obtain ⟨ih0,ih1⟩:=law20_EffectAll.mono_l k
 unfold law20_EffectAll.f
 repeat' first
  |(with_reducible exact ih0 _ _ _ _ _ _ _ _ _)
  |(with_reducible exact ih1 _ _ _ _ _ _ _ _ _)
  |(with_reducible exact law12_Great.mono _ _)
  |(with_reducible exact law16_Great.mono _ _ _ _)
  |(with_reducible exact r10_Right.mono _ _)
  |(with_reducible exact r16_Holds.mono _ _ _ _ _ _ _ _)
  |(with_reducible exact r16_Marks.mono _ _ _ _ _ _ _ _ _)
  |(with_reducible exact r16_SameMarks.mono _ _ _)
  |(with_reducible exact LeO.refl _)
  |(with_reducible exact LeO.none _)
  |(with_reducible refine LeO.ite ?_ ?_)
  |(with_reducible refine LeO.bind ?_ (fun _=> ?_))
  |exact ih0 _ _ _ _ _ _ _ _ _
  |exact ih1 _ _ _ _ _ _ _ _ _
  |exact law12_Great.mono _ _
  |exact law16_Great.mono _ _ _ _
  |exact r10_Right.mono _ _
  |exact r16_Holds.mono _ _ _ _ _ _ _ _
  |exact r16_Marks.mono _ _ _ _ _ _ _ _ _
  |exact r16_SameMarks.mono _ _ _
  |exact LeO.none _
  |refine LeO.ite ?_ ?_
  |refine LeO.bind ?_ (fun _=> ?_)
def law20_EffectAll.T8:Bool×List (List Nat×List Nat):=(true,[([],[]),([],[]),([1],[1]),([0,2],[0,2]),([3],[3]),([4],[4]),([],[]),([],[]),([6,7],[6,7]),([8],[8]),([9],[9]),([5,10],[5,10])])
def law20_EffectAll.B8:List Nat:=[0,0,2,7,15,31,0,0,192,448,960,2047]
theorem law20_EffectAll.tab8:rtab .any (opsOf Try.f6 8)=law20_EffectAll.T8:=by kernel_rfl
theorem law20_EffectAll.bits8:waitsOk law20_EffectAll.T8.2 law20_EffectAll.B8=true:=by kernel_rfl
def law20_EffectAll.T10:Bool×List (List Nat×List Nat):=(true,[([],[]),([],[]),([],[]),([0,1,2],[0,1,2]),([],[]),([],[]),([],[]),([4,5,6,3],[4,5,6]),([3,7,7],[3,7]),([8,8],[8]),([9,9],[9]),([9,10],[9,10]),([11,10,0,1,2,3,4,5,6,7,8,9,10,11],[11])])
def law20_EffectAll.B10:List Nat:=[0,0,0,7,0,0,0,127,255,511,1023,2047,4095]
theorem law20_EffectAll.tab10:rtab .any (opsOf Try.f6 10)=law20_EffectAll.T10:=by kernel_rfl
theorem law20_EffectAll.bits10:waitsOk law20_EffectAll.T10.2 law20_EffectAll.B10=true:=by kernel_rfl
set_option maxHeartbeats 80000000 in
set_option maxRecDepth 100000 in
theorem law20_EffectAll.calls (k:Nat) (A0:Option Addr) (c0:Nat) (l0:List (S54)) (A1:Option Addr) (c1:Nat) (l1:List (S31)) (a2_0:Int) (a2_1:ByteArray) (a2_2:ByteArray) (a2_3:Int) (a2_4:Int) (a2_5:Int) (r:Bool) (w:World) (hr0:Kd.C k54 w A0 l0.length l0) (hc0:l0.length≤c0) (hr1:Kd.C k31 w A1 l1.length l1) (hc1:l1.length≤c1) (h:law20_EffectAll.f k l0 l1 a2_0 a2_1 a2_2 a2_3 a2_4 a2_5=some r):
  Calls Try.prog 6 #[.slice A0 l0.length c0, .slice A1 l1.length c1, .agg #[.int .i64 a2_0, .string a2_1, .string a2_2, .int .i64 a2_3, .int .i64 a2_4, .int .i64 a2_5]] w fun e w'=>e= .returned (.bool r)∧Below w.heap.size w w':=by
 have hu58:=Try.underlying58
 have hu42:=Try.underlying42
 have HR0:=Aside0.mk hr0
 have HC0:=Aside0.mk hc0
 clear hr0 hc0
 have HR1:=Aside0.mk hr1
 have HC1:=Aside0.mk hc1
 clear hr1 hc1
 have HB:=am_ (Below.refl w.heap.size w)
 have H:((law12_Great.f k l1).bind fun t2=>(if t2=true then (law20_EffectAll.j0 k l0 l1 true a2_0 a2_1 a2_2 a2_3 a2_4 a2_5) else ((r10_Right.f k l1).bind fun t3=>(if t3=true then ((law16_Great.f k l0 ([]:List (S58)) 0).bind fun t4=>(if t4=true then (law20_EffectAll.j0 k l0 l1 true a2_0 a2_1 a2_2 a2_3 a2_4 a2_5) else (if (a2_1.size:Int)>100 then (law20_EffectAll.j0 k l0 l1 true a2_0 a2_1 a2_2 a2_3 a2_4 a2_5) else (law20_EffectAll.j0 k l0 l1 (decide ((a2_2.size:Int)>100)) a2_0 a2_1 a2_2 a2_3 a2_4 a2_5)))) else (law20_EffectAll.j0 k l0 l1 true a2_0 a2_1 a2_2 a2_3 a2_4 a2_5)))))=some r:=h
 clear h
 have HC4:=Aside0.mk H
 clear H
 go_enter Try.func6,Try.ntmps6
 go_upto_region 1 with (first|((with_reducible refine gate_dst (N:=5) rfl ?_);(try (refine gate_guard (by rfl) ?_;dsimp only));refine bx_ (N:=5) (cs:=#[.int .i64 a2_0, .string a2_1, .string a2_2, .int .i64 a2_3, .int .i64 a2_4, .int .i64 a2_5]) (t:=58) ?_;intro gb1 hg w5 hbox hb;have BK1:=am_ (hbox);have GW1:=am_ ((zg0_ HB hg:w.heap.size≤gb1));have GE1:=am_ ((zg0_ HB hg:w.heap.size≤gb1));replace HB:=am_ (below_step (zl0_ HB) hb);clear hb hbox hg))
 (try simp only [Act.put,List.setIfInBounds_toArray,List.set_cons_zero,List.set_cons_succ])
 go_cut [31] (fun v31 wc=> ∃(kq:Nat) (x31_3:Bool),v31= .bool x31_3∧Aside0 (law20_EffectAll.j0 kq l0 l1 x31_3 a2_0 a2_1 a2_2 a2_3 a2_4 a2_5=some r)∧Aside0 (kq≤k)∧Aside0 (wc.heap[gb1]?=some (.cells #[.int .i64 a2_0, .string a2_1, .string a2_2, .int .i64 a2_3, .int .i64 a2_4, .int .i64 a2_5] 58 (0,0)))∧Aside0 (Below w.heap.size w wc))
 case first=>
  have H:=HC4.out
  clear HC4
  replace H:=Option.bind_eq_some_iff.mp H
  obtain ⟨t2,A60,H⟩:=H
  try dsimp only at H
  have A6:=Aside0.mk A60
  clear A60
  by_cases c7:t2=true
  ·subst c7
   have H1:(law20_EffectAll.j0 k l0 l1 true a2_0 a2_1 a2_2 a2_3 a2_4 a2_5)=some r:=by rw [if_pos rfl] at H;exact H
   clear H
   have H:=H1
   clear H1
   have H':=Aside0.mk H
   clear H
   go_wp2_with (first|((with_reducible refine gate_callee (f:=36) rfl ?_);refine gl_ (some 9) Try.func36 #[.slice A1 l1.length c1] ?_;(with_reducible refine (law12_Great.calls k _ _ l1 true _ ?side1 ?side2 A6.out).mono ?_);(case side1=>exact zc_ (Kd.C_below HR1.out HB.out));(case side2=>exact HC1.out);rintro e w' ⟨rfl,⟨nd,rfl⟩⟩;refine ⟨_,rfl, ?_⟩))
   go_meet
   case rel=>exact ⟨_,(true),(by first|rfl|(simp;done)|(simp [*];done)),H',⟨by first|omega|exact Nat.le_refl _⟩,⟨by refine zk_ ?_;exact BK1.out⟩,⟨zl1_ HB GE1⟩⟩
  replace c7:=Bool.eq_false_iff.mpr c7
  subst c7
  have H1:((r10_Right.f k l1).bind fun t3=>(if t3=true then ((law16_Great.f k l0 ([]:List (S58)) 0).bind fun t4=>(if t4=true then (law20_EffectAll.j0 k l0 l1 true a2_0 a2_1 a2_2 a2_3 a2_4 a2_5) else (if (a2_1.size:Int)>100 then (law20_EffectAll.j0 k l0 l1 true a2_0 a2_1 a2_2 a2_3 a2_4 a2_5) else (law20_EffectAll.j0 k l0 l1 (decide ((a2_2.size:Int)>100)) a2_0 a2_1 a2_2 a2_3 a2_4 a2_5)))) else (law20_EffectAll.j0 k l0 l1 true a2_0 a2_1 a2_2 a2_3 a2_4 a2_5)))=some r:=by rw [if_neg (show¬(false=true) by decide)] at H;exact H
  clear H
  have H:=H1
  clear H1
  replace H:=Option.bind_eq_some_iff.mp H
  obtain ⟨t3,A80,H⟩:=H
  try dsimp only at H
  have A8:=Aside0.mk A80
  clear A80
  by_cases c9:t3=true
  rotate_left
  ·replace c9:=Bool.eq_false_iff.mpr c9
   subst c9
   have H1:(law20_EffectAll.j0 k l0 l1 true a2_0 a2_1 a2_2 a2_3 a2_4 a2_5)=some r:=by rw [if_neg (show¬(false=true) by decide)] at H;exact H
   clear H
   have H:=H1
   clear H1
   have H':=Aside0.mk H
   clear H
   go_wp2_with (first|((with_reducible refine gate_callee (f:=36) rfl ?_);refine gl_ (some 9) Try.func36 #[.slice A1 l1.length c1] ?_;(with_reducible refine (law12_Great.calls k _ _ l1 false _ ?side1 ?side2 A6.out).mono ?_);(case side1=>exact zc_ (Kd.C_below HR1.out HB.out));(case side2=>exact HC1.out);rintro e w' ⟨rfl,⟨nd,rfl⟩⟩;refine ⟨_,rfl, ?_⟩)|(go_at_call 41;(with_reducible refine (r10_Right.calls k _ _ l1 false _ ?side1 ?side2 A8.out).mono ?_);(case side1=>repeat (first|exact (Kd.C_below HR1.out (zl1_ HB GE1))|(with_reducible refine Kd.C_alloc ?_ _)|(with_reducible refine Kd.C_drewN ?_ _)|(with_reducible refine Kd.C_drew ?_)));(case side2=>exact HC1.out);rintro e w21 ⟨rfl,hb⟩;replace BK1:=am_ (blk_below (zb_ BK1) hb);replace HB:=am_ (below_step (zl1_ HB GE1) hb);(try clear hb);(try clear hb2);(try clear hk);(try clear hi)))
   go_meet
   case rel=>exact ⟨_,(true),(by first|rfl|(simp;done)|(simp [*];done)),H',⟨by first|omega|exact Nat.le_refl _⟩,⟨by refine zk_ ?_;exact BK1.out⟩,⟨zl1_ HB GE1⟩⟩
  subst c9
  have H1:((law16_Great.f k l0 ([]:List (S58)) 0).bind fun t4=>(if t4=true then (law20_EffectAll.j0 k l0 l1 true a2_0 a2_1 a2_2 a2_3 a2_4 a2_5) else (if (a2_1.size:Int)>100 then (law20_EffectAll.j0 k l0 l1 true a2_0 a2_1 a2_2 a2_3 a2_4 a2_5) else (law20_EffectAll.j0 k l0 l1 (decide ((a2_2.size:Int)>100)) a2_0 a2_1 a2_2 a2_3 a2_4 a2_5))))=some r:=by rw [if_pos rfl] at H;exact H
  clear H
  have H:=H1
  clear H1
  replace H:=Option.bind_eq_some_iff.mp H
  obtain ⟨t4,A100,H⟩:=H
  try dsimp only at H
  have A10:=Aside0.mk A100
  clear A100
  by_cases c11:t4=true
  ·subst c11
   have H1:(law20_EffectAll.j0 k l0 l1 true a2_0 a2_1 a2_2 a2_3 a2_4 a2_5)=some r:=by rw [if_pos rfl] at H;exact H
   clear H
   have H:=H1
   clear H1
   have H':=Aside0.mk H
   clear H
   go_wp2_with (first|((with_reducible refine gate_callee (f:=36) rfl ?_);refine gl_ (some 9) Try.func36 #[.slice A1 l1.length c1] ?_;(with_reducible refine (law12_Great.calls k _ _ l1 false _ ?side1 ?side2 A6.out).mono ?_);(case side1=>exact zc_ (Kd.C_below HR1.out HB.out));(case side2=>exact HC1.out);rintro e w' ⟨rfl,⟨nd,rfl⟩⟩;refine ⟨_,rfl, ?_⟩)|(go_at_call 41;(with_reducible refine (r10_Right.calls k _ _ l1 true _ ?side1 ?side2 A8.out).mono ?_);(case side1=>repeat (first|exact (Kd.C_below HR1.out (zl1_ HB GE1))|(with_reducible refine Kd.C_alloc ?_ _)|(with_reducible refine Kd.C_drewN ?_ _)|(with_reducible refine Kd.C_drew ?_)));(case side2=>exact HC1.out);rintro e w12 ⟨rfl,hb⟩;replace BK1:=am_ (blk_below (zb_ BK1) hb);replace HB:=am_ (below_step (zl1_ HB GE1) hb);(try clear hb);(try clear hb2);(try clear hk);(try clear hi))|(go_at_call 37;(refine (law16_Great.calls k _ _ l0 _ _ ([]:List (S58)) 0 true _ ?side1 ?side2 ?side3 ?side4 A10.out).mono ?_);(case side1=>exact zc_ (Kd.C_below HR0.out HB.out));(case side2=>exact HC0.out);(case side3=>exact Kd.C_nil _ _);(case side4=>exact Nat.le_refl _);rintro e w13 ⟨rfl,hb⟩;replace BK1:=am_ (blk_below (zb_ BK1) hb);replace HB:=am_ (below_step (zl1_ HB GE1) hb);(try clear hb);(try clear hb2);(try clear hk);(try clear hi)))
   go_meet
   case rel=>exact ⟨_,(true),(by first|rfl|(simp;done)|(simp [*];done)),H',⟨by first|omega|exact Nat.le_refl _⟩,⟨by refine zk_ ?_;exact BK1.out⟩,⟨zl1_ HB GE1⟩⟩
  replace c11:=Bool.eq_false_iff.mpr c11
  subst c11
  have H1:(if (a2_1.size:Int)>100 then (law20_EffectAll.j0 k l0 l1 true a2_0 a2_1 a2_2 a2_3 a2_4 a2_5) else (law20_EffectAll.j0 k l0 l1 (decide ((a2_2.size:Int)>100)) a2_0 a2_1 a2_2 a2_3 a2_4 a2_5))=some r:=by rw [if_neg (show¬(false=true) by decide)] at H;exact H
  clear H
  have H:=H1
  clear H1
  by_cases c14:(a2_1.size:Int)>100
  ·rw [if_pos c14] at H
   have c14b0:decide (100<(a2_1.size:Int))=true:=decide_eq_true c14
   have c14b1:decide (100<a2_1.size)=true:=decide_eq_true (by omega)
   clear c14
   (first|rw [c14b0]|(simp only [i64_w,i32_w];rw [c14b0])|skip)
   have H':=Aside0.mk H
   clear H
   go_wp2_with (first|((with_reducible refine gate_callee (f:=36) rfl ?_);refine gl_ (some 9) Try.func36 #[.slice A1 l1.length c1] ?_;(with_reducible refine (law12_Great.calls k _ _ l1 false _ ?side1 ?side2 A6.out).mono ?_);(case side1=>exact zc_ (Kd.C_below HR1.out HB.out));(case side2=>exact HC1.out);rintro e w' ⟨rfl,⟨nd,rfl⟩⟩;refine ⟨_,rfl, ?_⟩)|(go_at_call 41;(with_reducible refine (r10_Right.calls k _ _ l1 true _ ?side1 ?side2 A8.out).mono ?_);(case side1=>repeat (first|exact (Kd.C_below HR1.out (zl1_ HB GE1))|(with_reducible refine Kd.C_alloc ?_ _)|(with_reducible refine Kd.C_drewN ?_ _)|(with_reducible refine Kd.C_drew ?_)));(case side2=>exact HC1.out);rintro e w15 ⟨rfl,hb⟩;replace BK1:=am_ (blk_below (zb_ BK1) hb);replace HB:=am_ (below_step (zl1_ HB GE1) hb);(try clear hb);(try clear hb2);(try clear hk);(try clear hi))|(go_at_call 37;(refine (law16_Great.calls k _ _ l0 _ _ ([]:List (S58)) 0 false _ ?side1 ?side2 ?side3 ?side4 A10.out).mono ?_);(case side1=>exact zc_ (Kd.C_below HR0.out HB.out));(case side2=>exact HC0.out);(case side3=>exact Kd.C_nil _ _);(case side4=>exact Nat.le_refl _);rintro e w16 ⟨rfl,hb⟩;replace BK1:=am_ (blk_below (zb_ BK1) hb);replace HB:=am_ (below_step (zl1_ HB GE1) hb);(try clear hb);(try clear hb2);(try clear hk);(try clear hi);obtain ⟨hcz17_0,hcz17_1,hcz17_2,hcz17_3,hcz17_4,hcz17_5⟩:=x6_ BK1;have hfz17_0:=blk_frozen BK1.out 0;have hfz17_1:=blk_frozen BK1.out 1;have hfz17_2:=blk_frozen BK1.out 2;have hfz17_3:=blk_frozen BK1.out 3;have hfz17_4:=blk_frozen BK1.out 4;have hfz17_5:=blk_frozen BK1.out 5))
   go_meet
   case rel=>exact ⟨_,(true),(by first|rfl|(simp;done)|(simp [*];done)),H',⟨by first|omega|exact Nat.le_refl _⟩,⟨by refine zk_ ?_;exact BK1.out⟩,⟨zl1_ HB GE1⟩⟩
  rw [if_neg c14] at H
  have c14b0:decide (100<(a2_1.size:Int))=false:=decide_eq_false c14
  have c14b1:decide (100<a2_1.size)=false:=decide_eq_false (by omega)
  clear c14
  (first|rw [c14b0]|(simp only [i64_w,i32_w];rw [c14b0])|skip)
  have H':=Aside0.mk H
  clear H
  go_wp2_with (first|((with_reducible refine gate_callee (f:=36) rfl ?_);refine gl_ (some 9) Try.func36 #[.slice A1 l1.length c1] ?_;(with_reducible refine (law12_Great.calls k _ _ l1 false _ ?side1 ?side2 A6.out).mono ?_);(case side1=>exact zc_ (Kd.C_below HR1.out HB.out));(case side2=>exact HC1.out);rintro e w' ⟨rfl,⟨nd,rfl⟩⟩;refine ⟨_,rfl, ?_⟩)|(go_at_call 41;(with_reducible refine (r10_Right.calls k _ _ l1 true _ ?side1 ?side2 A8.out).mono ?_);(case side1=>repeat (first|exact (Kd.C_below HR1.out (zl1_ HB GE1))|(with_reducible refine Kd.C_alloc ?_ _)|(with_reducible refine Kd.C_drewN ?_ _)|(with_reducible refine Kd.C_drew ?_)));(case side2=>exact HC1.out);rintro e w18 ⟨rfl,hb⟩;replace BK1:=am_ (blk_below (zb_ BK1) hb);replace HB:=am_ (below_step (zl1_ HB GE1) hb);(try clear hb);(try clear hb2);(try clear hk);(try clear hi))|(go_at_call 37;(refine (law16_Great.calls k _ _ l0 _ _ ([]:List (S58)) 0 false _ ?side1 ?side2 ?side3 ?side4 A10.out).mono ?_);(case side1=>exact zc_ (Kd.C_below HR0.out HB.out));(case side2=>exact HC0.out);(case side3=>exact Kd.C_nil _ _);(case side4=>exact Nat.le_refl _);rintro e w19 ⟨rfl,hb⟩;replace BK1:=am_ (blk_below (zb_ BK1) hb);replace HB:=am_ (below_step (zl1_ HB GE1) hb);(try clear hb);(try clear hb2);(try clear hk);(try clear hi);obtain ⟨hcz20_0,hcz20_1,hcz20_2,hcz20_3,hcz20_4,hcz20_5⟩:=x6_ BK1;have hfz20_0:=blk_frozen BK1.out 0;have hfz20_1:=blk_frozen BK1.out 1;have hfz20_2:=blk_frozen BK1.out 2;have hfz20_3:=blk_frozen BK1.out 3;have hfz20_4:=blk_frozen BK1.out 4;have hfz20_5:=blk_frozen BK1.out 5))
  go_meet
  case rel=>exact ⟨_,(decide ((a2_2.size:Int)>100)),(by first|rfl|(simp;done)|(simp [*];done)),H',⟨by first|omega|exact Nat.le_refl _⟩,⟨by refine zk_ ?_;exact BK1.out⟩,⟨zl1_ HB GE1⟩⟩
 case rest=>
  clear HC4
  try clear c1
  try clear p2
  try clear c3
  try clear c6
  try clear c7
  try clear c9
  try clear c11
  try clear c14
  try clear c14b0
  try clear c14b1
  try clear hcz17_0
  try clear hcz17_1
  try clear hcz17_2
  try clear hcz17_3
  try clear hcz17_4
  try clear hcz17_5
  try clear hcz20_0
  try clear hcz20_1
  try clear hcz20_2
  try clear hcz20_3
  try clear hcz20_4
  try clear hcz20_5
  try clear hfz17_0
  try clear hfz17_1
  try clear hfz17_2
  try clear hfz17_3
  try clear hfz17_4
  try clear hfz17_5
  try clear hfz20_0
  try clear hfz20_1
  try clear hfz20_2
  try clear hfz20_3
  try clear hfz20_4
  try clear hfz20_5
  obtain ⟨kq,x31_3,rfl,HA,HJ3,BK1,HB⟩:=hcut
  cases kq with
  |zero=>exact absurd HA.out (by simp [law20_EffectAll.j0])
  |succ kj3=>
   have H:=HA.out
   clear HA
   simp only [law20_EffectAll.j0] at H
   by_cases c22:x31_3=true
   ·subst c22
    have H1:((law20_awake.f).bind fun t5=>(some t5))=some r:=by rw [if_pos rfl] at H;exact H
    clear H
    have H:=H1
    clear H1
    replace H:=Option.bind_eq_some_iff.mp H
    obtain ⟨t5,A230,H⟩:=H
    try dsimp only at H
    have A23:=Aside0.mk A230
    clear A230
    obtain rfl:=Option.some.inj H
    go_wp2_with (first|((with_reducible refine gate_callee (f:=51) rfl ?_);refine gl_ (some 32) Try.func51 #[] ?_;(with_reducible refine (law20_awake.calls t5 _ A23.out).mono ?_);rintro e w24 ⟨rfl,hb⟩;refine ⟨_,rfl, ?_⟩;replace BK1:=am_ (blk_below (zb_ BK1) hb);replace HB:=am_ (below_step (zl1_ HB GE1) hb);(try clear hb);(try clear hb2);(try clear hk);(try clear hi)))
    go_ret
    exact ⟨by first|rfl|(simp [errW_none,errW_some]<;>rfl)|(simp [*,errW_none,errW_some]<;>rfl),zl1_ HB GE1⟩
   replace c22:=Bool.eq_false_iff.mpr c22
   subst c22
   have H1:((effect_Holds.f l1 a2_0 a2_1 a2_2 a2_3 a2_4 a2_5).bind fun t6=>((r16_Holds.f kj3 l1 a2_0 a2_1 a2_2 a2_3 a2_4 a2_5).bind fun t7=>(if (t6 !=t7)=true then (none) else (law20_EffectAll.l0 kj3 l0 l1 1 a2_0 a2_1 a2_2 a2_3 a2_4 a2_5))))=some r:=by rw [if_neg (show¬(false=true) by decide)] at H;exact H
   clear H
   have H:=H1
   clear H1
   replace H:=Option.bind_eq_some_iff.mp H
   obtain ⟨t6,A250,H⟩:=H
   try dsimp only at H
   have A25:=Aside0.mk A250
   clear A250
   replace H:=Option.bind_eq_some_iff.mp H
   obtain ⟨t7,A260,H⟩:=H
   try dsimp only at H
   have A26:=Aside0.mk A260
   clear A260
   by_cases c27:(t6 !=t7)=true
   ·rw [if_pos c27] at H
    cases H
   rw [if_neg c27] at H
   have c27b0:(t6 !=t7)=false:=by simpa using c27
   (try (have c27b1:decide (t6=t7)=true:=by simpa using c27))
   (try (have c27b2:(t6==t7)=true:=by simpa using c27))
   clear c27
   have H':=Aside0.mk H
   clear H
   try go_wp2
   replace BK1:=am_ (blk_drew BK1.out)
   replace HB:=am_ (below_drew1 HB.out)
   refine start_ (n:=7) (S:=fun w'=>w'.cell? ⟨gb1,0,none⟩=some (.int .i64 a2_0)∧w'.cell? ⟨gb1,1,none⟩=some (.string a2_1)∧w'.cell? ⟨gb1,2,none⟩=some (.string a2_2)∧w'.cell? ⟨gb1,3,none⟩=some (.int .i64 a2_3)∧w'.cell? ⟨gb1,4,none⟩=some (.int .i64 a2_4)∧w'.cell? ⟨gb1,5,none⟩=some (.int .i64 a2_5)) (ds:=[]) (bt_ 7 0) (by kernel_rfl) rfl rfl ⟨(blk_cell BK1.out 0).trans rfl,(blk_cell BK1.out 1).trans rfl,(blk_cell BK1.out 2).trans rfl,(blk_cell BK1.out 3).trans rfl,(blk_cell BK1.out 4).trans rfl,(blk_cell BK1.out 5).trans rfl⟩ (fun hHeld=> ?_)
   generalize wc.drew=w31 at BK1 HB hHeld ⊢
   refine pure_ (i:=0) (N:=some 33) (v:= ?_) (a':= ?_) (bt_ 7 1) rfl rfl (by kernel_rfl) (fun _ _ _ h=>h) (Or.inl ⟨by rfl, ?_⟩) ?_ ?_
   rotate_left
   ·intro w'
    go_simp
    with_reducible rfl
   rotate_left
   ·simp only [Act.put,List.setIfInBounds_toArray,List.set_cons_zero,List.set_cons_succ,i64_w,i32_w]
    rfl
   refine pure_ (i:=3) (N:=some 36) (v:= ?_) (a':= ?_) (bt_ 7 9) rfl rfl (by kernel_rfl) (fun _ _ _ h=>h) (Or.inl ⟨by rfl, ?_⟩) ?_ ?_
   rotate_left
   ·intro w'
    go_simp
    with_reducible rfl
   rotate_left
   ·simp only [Act.put,List.setIfInBounds_toArray,List.set_cons_zero,List.set_cons_succ,i64_w,i32_w]
    rfl
   refine take_ (i:=1) (N:=some 34) (v:= ?_) (a':= ?_) (bt_ 7 11) rfl rfl (by kernel_rfl) (fun _ _ _ h=>h) (Or.inl ⟨by rfl, ?_⟩) hHeld ?_ ?_
   rotate_left
   ·rintro w' ⟨s0,s1,s2,s3,s4,s5⟩
    go_simp
    with_reducible rfl
   rotate_left
   ·simp only [Act.put,List.setIfInBounds_toArray,List.set_cons_zero,List.set_cons_succ,i64_w,i32_w]
    rfl
   refine take_ (i:=4) (N:=some 37) (v:= ?_) (a':= ?_) (bt_ 7 27) rfl rfl (by kernel_rfl) (fun _ _ _ h=>h) (Or.inl ⟨by rfl, ?_⟩) hHeld ?_ ?_
   rotate_left
   ·rintro w' ⟨s0,s1,s2,s3,s4,s5⟩
    go_simp
    with_reducible rfl
   rotate_left
   ·simp only [Act.put,List.setIfInBounds_toArray,List.set_cons_zero,List.set_cons_succ,i64_w,i32_w]
    rfl
   refine one_ (i:=2) (N:=some 35) (bt_ 7 31) rfl rfl (by kernel_rfl) (by decide) (fun K hK=> ?_)
   refine gs_ Try.func52 #[.slice A1 l1.length c1, .agg #[.int .i64 a2_0, .string a2_1, .string a2_2, .int .i64 a2_3, .int .i64 a2_4, .int .i64 a2_5]] ?_
   with_reducible refine (effect_Holds.calls _ _ l1 a2_0 a2_1 a2_2 a2_3 a2_4 a2_5 t6 _ ?side1 ?side2 A25.out).mono ?_
   (case side1=>exact zc_ (Kd.C_below HR1.out HB.out))
   (case side2=>exact HC1.out)
   rintro e w32 ⟨rfl,hb⟩
   refine ⟨_,rfl, ?_⟩
   replace BK1:=am_ (blk_below (zb_ BK1) hb)
   replace HB:=am_ (below_step (zl1_ HB GE1) hb)
   (try clear hb)
   (try clear hb2)
   (try clear hk)
   (try clear hi)
   refine hK.out _ _ ⟨(blk_cell BK1.out 0).trans rfl,(blk_cell BK1.out 1).trans rfl,(blk_cell BK1.out 2).trans rfl,(blk_cell BK1.out 3).trans rfl,(blk_cell BK1.out 4).trans rfl,(blk_cell BK1.out 5).trans rfl⟩ (fun hHeld=> ?_)
   clear hK K
   refine no_ (N:=some 35) ?_
   refine one_ (i:=5) (N:=some 38) (bt_ 7 63) rfl rfl (by kernel_rfl) (by decide) (fun K hK=> ?_)
   refine gs_ Try.func53 #[.slice A1 l1.length c1, .agg #[.int .i64 a2_0, .string a2_1, .string a2_2, .int .i64 a2_3, .int .i64 a2_4, .int .i64 a2_5]] ?_
   with_reducible refine (r16_Holds.calls kj3 _ _ l1 a2_0 a2_1 a2_2 a2_3 a2_4 a2_5 t7 _ ?side1 ?side2 A26.out).mono ?_
   (case side1=>exact zc_ (Kd.C_below HR1.out HB.out))
   (case side2=>exact HC1.out)
   rintro e w33 ⟨rfl,hb⟩
   refine ⟨_,rfl, ?_⟩
   replace BK1:=am_ (blk_below (zb_ BK1) hb)
   replace HB:=am_ (below_step (zl1_ HB GE1) hb)
   (try clear hb)
   (try clear hb2)
   (try clear hk)
   (try clear hi)
   refine hK.out _ _ ⟨(blk_cell BK1.out 0).trans rfl,(blk_cell BK1.out 1).trans rfl,(blk_cell BK1.out 2).trans rfl,(blk_cell BK1.out 3).trans rfl,(blk_cell BK1.out 4).trans rfl,(blk_cell BK1.out 5).trans rfl⟩ (fun hHeld=> ?_)
   clear hK K
   refine no_ (N:=some 38) ?_
   refine pure_ (i:=6) (N:=some 39) (v:= ?_) (a':= ?_) (bt_ 7 127) rfl rfl (by kernel_rfl) (fun _ _ _ h=>h) (Or.inl ⟨by rfl, ?_⟩) ?_ ?_
   rotate_left
   ·intro w'
    go_simp
    with_reducible rfl
   rotate_left
   ·simp only [Act.put,List.setIfInBounds_toArray,List.set_cons_zero,List.set_cons_succ,i64_w,i32_w]
    rfl
   refine done_ (by kernel_rfl) ?_
   try go_wp2
   go_loopg [7] kj3 (fun kq v7 w'=> ∃(x7_2:Int),v7= .int .i64 x7_2∧Aside0 (law20_EffectAll.l0 kq l0 l1 x7_2 a2_0 a2_1 a2_2 a2_3 a2_4 a2_5=some r)∧Aside0 (kq≤kj3)∧Aside0 (w'.heap[gb1]?=some (.cells #[.int .i64 a2_0, .string a2_1, .string a2_2, .int .i64 a2_3, .int .i64 a2_4, .int .i64 a2_5] 58 (0,0)))∧Aside0 (Below w.heap.size w w'))
   case atStart=>exact ⟨(1),(by first|rfl|(simp;done)|(simp [*];done)),H',⟨Nat.le_refl _⟩,⟨by refine zk_ ?_;exact BK1.out⟩,⟨zl1_ HB GE1⟩⟩
   case round=>
    clear H'
    try clear c1
    try clear c2
    try clear p2
    try clear c3
    try clear c5
    try clear c6
    try clear c7
    try clear c9
    try clear c11
    try clear c14
    try clear c14b0
    try clear c14b1
    try clear c22
    try clear c27
    try clear c27b0
    try clear c27b1
    try clear c27b2
    try clear hcz17_0
    try clear hcz17_1
    try clear hcz17_2
    try clear hcz17_3
    try clear hcz17_4
    try clear hcz17_5
    try clear hcz20_0
    try clear hcz20_1
    try clear hcz20_2
    try clear hcz20_3
    try clear hcz20_4
    try clear hcz20_5
    try clear hfz17_0
    try clear hfz17_1
    try clear hfz17_2
    try clear hfz17_3
    try clear hfz17_4
    try clear hfz17_5
    try clear hfz20_0
    try clear hfz20_1
    try clear hfz20_2
    try clear hfz20_3
    try clear hfz20_4
    try clear hfz20_5
    try clear p2
    obtain ⟨x7_2,rfl,HA,HK2,BK1,HB⟩:=hrel
    cases gk with
    |zero=>exact absurd HA.out (by simp [law20_EffectAll.l0])
    |succ k2=>
     have H:=HA.out
     clear HA
     simp only [law20_EffectAll.l0] at H
     by_cases c34:x7_2<(l0.length:Int)
     rotate_left
     ·rw [if_neg c34] at H
      have c34b0:decide (x7_2<(l0.length:Int))=false:=decide_eq_false c34
      clear c34
      replace H:=Option.bind_eq_some_iff.mp H
      obtain ⟨t11,A440,H⟩:=H
      try dsimp only at H
      have A44:=Aside0.mk A440
      clear A440
      replace H:=Option.bind_eq_some_iff.mp H
      obtain ⟨t14,A450,H⟩:=H
      try dsimp only at H
      have A45:=Aside0.mk A450
      clear A450
      replace H:=Option.bind_eq_some_iff.mp H
      obtain ⟨t17,A460,H⟩:=H
      try dsimp only at H
      have A46:=Aside0.mk A460
      clear A460
      by_cases c47:t17=true
      rotate_left
      ·replace c47:=Bool.eq_false_iff.mpr c47
       subst c47
       have H1:(none)=some r:=by rw [if_neg (show¬(false=true) by decide)] at H;exact H
       cases H1

      subst c47
      have H1:((law20_awake.f).bind fun t18=>(some t18))=some r:=by rw [if_pos rfl] at H;exact H
      clear H
      have H:=H1
      clear H1
      replace H:=Option.bind_eq_some_iff.mp H
      obtain ⟨t18,A480,H⟩:=H
      try dsimp only at H
      have A48:=Aside0.mk A480
      clear A480
      obtain rfl:=Option.some.inj H
      try go_wp2
      replace BK1:=am_ (blk_drew BK1.out)
      replace HB:=am_ (below_drew1 HB.out)
      refine start_ (n:=13) (S:=fun w'=>w'.cell? ⟨gb1,0,none⟩=some (.int .i64 a2_0)∧w'.cell? ⟨gb1,1,none⟩=some (.string a2_1)∧w'.cell? ⟨gb1,2,none⟩=some (.string a2_2)∧w'.cell? ⟨gb1,3,none⟩=some (.int .i64 a2_3)∧w'.cell? ⟨gb1,4,none⟩=some (.int .i64 a2_4)∧w'.cell? ⟨gb1,5,none⟩=some (.int .i64 a2_5)) (ds:=[]) (bt_ 13 0) (by kernel_rfl) rfl rfl ⟨(blk_cell BK1.out 0).trans rfl,(blk_cell BK1.out 1).trans rfl,(blk_cell BK1.out 2).trans rfl,(blk_cell BK1.out 3).trans rfl,(blk_cell BK1.out 4).trans rfl,(blk_cell BK1.out 5).trans rfl⟩ (fun hHeld=> ?_);refine with_tabW law20_EffectAll.tab10 law20_EffectAll.bits10 (fun HT_ HW_=> ?_)
      generalize wr.drew=w49 at BK1 HB hHeld ⊢
      refine pu_ (i:=0) (N:=some 59) (bt_ 13 1) HT_ ?_
      refine pu_ (i:=1) (N:=some 60) (bt_ 13 3) HT_ ?_
      refine pu_ (i:=4) (N:=some 63) (bt_ 13 19) HT_ ?_
      refine pu_ (i:=5) (N:=some 64) (bt_ 13 51) HT_ ?_
      refine tk_ (i:=2) (N:=some 61) (bt_ 13 55) HT_ HW_ hHeld ?_
      refine tk_ (i:=6) (N:=some 65) (bt_ 13 119) HT_ HW_ hHeld ?_
      refine on_ (i:=3) (N:=some 62) (bt_ 13 127) HT_ (fun K hK=> ?_)
      refine gs_ Try.func54 #[.slice A0 l0.length c0, .slice A1 l1.length c1, .agg #[.int .i64 a2_0, .string a2_1, .string a2_2, .int .i64 a2_3, .int .i64 a2_4, .int .i64 a2_5]] ?_
      with_reducible refine (effect_Marks.calls _ _ l0 _ _ l1 a2_0 a2_1 a2_2 a2_3 a2_4 a2_5 t11 _ ?side1 ?side2 ?side3 ?side4 A44.out).mono ?_
      (case side1=>exact zc_ (Kd.C_below HR0.out HB.out))
      (case side2=>exact HC0.out)
      (case side3=>exact zc_ (Kd.C_below HR1.out HB.out))
      (case side4=>exact HC1.out)
      rintro e w50 ⟨v12,rfl,ho0,hb⟩
      refine ⟨_,rfl, ?_⟩
      have HO13:=am_ (Kd.R_lower ho0 (below_size (zl1_ HB GE1)))
      replace BK1:=am_ (blk_below (zb_ BK1) hb)
      replace HB:=am_ (below_step (zl1_ HB GE1) hb)
      (try clear hb)
      (try clear hb2)
      (try clear hk)
      (try clear hi)
      (try clear ho0)
      refine hK.out _ _ ⟨(blk_cell BK1.out 0).trans rfl,(blk_cell BK1.out 1).trans rfl,(blk_cell BK1.out 2).trans rfl,(blk_cell BK1.out 3).trans rfl,(blk_cell BK1.out 4).trans rfl,(blk_cell BK1.out 5).trans rfl⟩ (fun hHeld=> ?_)
      clear hK K
      refine no_ (N:=some 62) ?_
      refine on_ (i:=7) (N:=some 66) (bt_ 13 255) HT_ (fun K hK=> ?_)
      refine gs_ Try.func55 #[.slice A0 l0.length c0, .slice A1 l1.length c1, .agg #[.int .i64 a2_0, .string a2_1, .string a2_2, .int .i64 a2_3, .int .i64 a2_4, .int .i64 a2_5]] ?_
      with_reducible refine (r16_Marks.calls k2 _ _ l0 _ _ l1 a2_0 a2_1 a2_2 a2_3 a2_4 a2_5 t14 _ ?side1 ?side2 ?side3 ?side4 A45.out).mono ?_
      (case side1=>exact zc_ (Kd.C_below HR0.out HB.out))
      (case side2=>exact HC0.out)
      (case side3=>exact zc_ (Kd.C_below HR1.out HB.out))
      (case side4=>exact HC1.out)
      rintro e w51 ⟨v15,rfl,ho0,hb⟩
      refine ⟨_,rfl, ?_⟩
      have HO16:=am_ (Kd.R_lower (Kd.R_new' ho0 (Kd.R_lt (zr_ HO13))) (below_size (zl1_ HB GE1)))
      replace HO13:=am_ (Kd.R_elder' (zr_ HO13) (Kd.R_base ho0) hb)
      replace BK1:=am_ (blk_below (zb_ BK1) hb)
      replace HB:=am_ (below_step (zl1_ HB GE1) hb)
      (try clear hb)
      (try clear hb2)
      (try clear hk)
      (try clear hi)
      (try clear ho0)
      obtain ⟨Ao52,co52,eo52⟩:=Kd.R_slice HO13.out
      (first|subst eo52|(injection eo52 with f1_ f2_ f3_;have f4_:=f1_.symm;have f5_:=f3_.symm;clear f1_ f2_ f3_;subst f4_;subst f5_))
      obtain ⟨Ao53,co53,eo53⟩:=Kd.R_slice HO16.out
      (first|subst eo53|(injection eo53 with f1_ f2_ f3_;have f4_:=f1_.symm;have f5_:=f3_.symm;clear f1_ f2_ f3_;subst f4_;subst f5_))
      refine hK.out _ _ ⟨(blk_cell BK1.out 0).trans rfl,(blk_cell BK1.out 1).trans rfl,(blk_cell BK1.out 2).trans rfl,(blk_cell BK1.out 3).trans rfl,(blk_cell BK1.out 4).trans rfl,(blk_cell BK1.out 5).trans rfl⟩ (fun hHeld=> ?_)
      clear hK K
      refine no_ (N:=some 66) ?_
      refine on_ (i:=8) (N:=some 67) (bt_ 13 511) HT_ (fun K hK=> ?_)
      refine gs_ Try.func45 #[.slice Ao52 t11.length co52, .slice Ao53 t14.length co53] ?_
      with_reducible refine (r16_SameMarks.calls k2 _ _ t11 _ _ t14 true _ ?side1 ?side2 ?side3 ?side4 A46.out).mono ?_
      (case side1=>exact zc_ (Kd.R_reads' HO13.out).2.2)
      (case side2=>exact (Kd.R_reads' HO13.out).2.1)
      (case side3=>exact zc_ (Kd.R_reads' HO16.out).2.2)
      (case side4=>exact (Kd.R_reads' HO16.out).2.1)
      rintro e w' ⟨rfl,⟨nd,rfl⟩⟩
      refine ⟨_,rfl, ?_⟩
      refine hK.out _ _ ⟨(blk_cell BK1.out 0).trans rfl,(blk_cell BK1.out 1).trans rfl,(blk_cell BK1.out 2).trans rfl,(blk_cell BK1.out 3).trans rfl,(blk_cell BK1.out 4).trans rfl,(blk_cell BK1.out 5).trans rfl⟩ (fun hHeld=> ?_)
      clear hK K
      refine no_ (N:=some 67) ?_
      refine pu_ (i:=9) (N:=some 68) (bt_ 13 1023) HT_ ?_
      refine on_ (i:=10) (N:=some 69) (bt_ 13 2047) HT_ (fun K hK=> ?_)
      refine gs_ Try.func51 #[] ?_
      with_reducible refine (law20_awake.calls t18 _ A48.out).mono ?_
      rintro e w54 ⟨rfl,hb⟩
      refine ⟨_,rfl, ?_⟩
      replace HO13:=am_ (Kd.R_below (zr_ HO13) hb)
      replace HO16:=am_ (Kd.R_below (zr_ HO16) hb)
      replace BK1:=am_ (blk_below (zb_ BK1) hb)
      replace HB:=am_ (below_step (zl1_ HB GE1) hb)
      (try clear hb)
      (try clear hb2)
      (try clear hk)
      (try clear hi)
      refine hK.out _ _ ⟨(blk_cell BK1.out 0).trans rfl,(blk_cell BK1.out 1).trans rfl,(blk_cell BK1.out 2).trans rfl,(blk_cell BK1.out 3).trans rfl,(blk_cell BK1.out 4).trans rfl,(blk_cell BK1.out 5).trans rfl⟩ (fun hHeld=> ?_)
      clear hK K
      refine no_ (N:=some 69) ?_
      refine pu_ (i:=11) (N:=some 70) (bt_ 13 4095) HT_ ?_
      refine pu_ (i:=12) (N:=some 6) (bt_ 13 8191) HT_ ?_
      refine done_ (done_of HT_.out (by kernel_rfl)) ?_
      try go_wp2
      go_ret
      exact ⟨by first|rfl|(simp [errW_none,errW_some]<;>rfl)|(simp [*,errW_none,errW_some]<;>rfl),zl1_ HB GE1⟩
     rw [if_pos c34] at H
     have c34b0:decide (x7_2<(l0.length:Int))=true:=decide_eq_true c34
     clear c34
     obtain ⟨ji35,hji35⟩: ∃j_:Int,(wrap64 (x7_2 - 1))=j_:=⟨_,rfl⟩
     replace H:(if 0≤(ji35) then (if (ji35)<(l0.length:Int) then (if 0≤x7_2 then (if ((Op.bytesLess (((rd_T54 l0 (ji35)).f0).toList) (((rd_T54 l0 x7_2).f0).toList))=true) then (law20_EffectAll.l0 k2 l0 l1 (wrap64 (x7_2+1)) a2_0 a2_1 a2_2 a2_3 a2_4 a2_5) else ((law20_awake.f).bind fun t10=>(some t10))) else (none)) else (none)) else (none))=some r:=by first|(rw [hji35] at H;exact H)|(simp only [hji35] at H ⊢;exact H)
     have hji35w:(IntKind.i64.wrap (x7_2 - 1))=ji35:=(i64_w _).trans hji35
     by_cases c36:0≤(ji35)
     rotate_left
     ·rw [if_neg c36] at H
      cases H
     rw [if_pos c36] at H
     have c36b0:decide (0≤(ji35))=true:=decide_eq_true c36
     clear c36
     by_cases c37:(ji35)<(l0.length:Int)
     rotate_left
     ·rw [if_neg c37] at H
      cases H
     rw [if_pos c37] at H
     have c37b0:decide ((ji35)<(l0.length:Int))=true:=decide_eq_true c37
     clear c37
     by_cases c38:0≤x7_2
     rotate_left
     ·rw [if_neg c38] at H
      cases H
     rw [if_pos c38] at H
     have c38b0:decide (0≤x7_2)=true:=decide_eq_true c38
     clear c38
     by_cases c39:((Op.bytesLess (((rd_T54 l0 (ji35)).f0).toList) (((rd_T54 l0 x7_2).f0).toList))=true)
     ·rw [if_pos c39] at H
      have c39b0:(Op.bytesLess (((rd_T54 l0 (ji35)).f0).toList) (((rd_T54 l0 x7_2).f0).toList))=true:=c39
      clear c39
      have H':=Aside0.mk H
      clear H
      try go_wp2
      replace BK1:=am_ (blk_drew BK1.out)
      replace HB:=am_ (below_drew1 HB.out)
      have p8:0≤((ji35):Int):=of_decide_eq_true zq_
      have q8:(ji35)<(l0.length:Int):=of_decide_eq_true zq_
      obtain ⟨ad8,e8,hx8_0,hx8_1,hx8_2,hx8_3,hx8_4,hx8_5⟩:=at_T54 HR0.out (ji35) p8 q8
      have hw8_5:=hx8_5
      have hw8_4:=hx8_4
      have hw8_3:=hx8_3
      have hw8_2:=hx8_2
      have hw8_1:=hx8_1
      have hw8_0:=hx8_0
      cases e8
      replace hx8_0:=zx_ HB hx8_0
      replace hx8_1:=zx_ HB hx8_1
      replace hx8_2:=zx_ HB hx8_2
      replace hx8_3:=zx_ HB hx8_3
      replace hx8_4:=zx_ HB hx8_4
      replace hx8_5:=zx_ HB hx8_5
      replace p8:=eq_true p8
      replace q8:=eq_true q8
      have p9:0≤(x7_2:Int):=of_decide_eq_true zq_
      have q9:x7_2<(l0.length:Int):=of_decide_eq_true zq_
      obtain ⟨ad9,e9,hx9_0,hx9_1,hx9_2,hx9_3,hx9_4,hx9_5⟩:=at_T54 HR0.out x7_2 p9 q9
      have hw9_5:=hx9_5
      have hw9_4:=hx9_4
      have hw9_3:=hx9_3
      have hw9_2:=hx9_2
      have hw9_1:=hx9_1
      have hw9_0:=hx9_0
      obtain rfl:ad8=ad9:=(by injection e9)
      replace hx9_0:=zx_ HB hx9_0
      replace hx9_1:=zx_ HB hx9_1
      replace hx9_2:=zx_ HB hx9_2
      replace hx9_3:=zx_ HB hx9_3
      replace hx9_4:=zx_ HB hx9_4
      replace hx9_5:=zx_ HB hx9_5
      replace p9:=eq_true p9
      replace q9:=eq_true q9
      refine start_ (n:=12) (S:=fun w'=>w'.cell? (ad8.add (((ji35)).toNat*6))=some (.string ((rd_T54 l0 (ji35)).f0))∧w'.cell? ⟨(ad8.add (((ji35)).toNat*6)).block,(ad8.add (((ji35)).toNat*6)).off+1,none⟩=some (.string ((rd_T54 l0 (ji35)).f1))∧w'.cell? ⟨(ad8.add (((ji35)).toNat*6)).block,(ad8.add (((ji35)).toNat*6)).off+2,none⟩=some (.int .i64 ((rd_T54 l0 (ji35)).f2.f0))∧w'.cell? ⟨(ad8.add (((ji35)).toNat*6)).block,(ad8.add (((ji35)).toNat*6)).off+3,none⟩=some (.int .i64 ((rd_T54 l0 (ji35)).f2.f1))∧w'.cell? ⟨(ad8.add (((ji35)).toNat*6)).block,(ad8.add (((ji35)).toNat*6)).off+4,none⟩=some (.int .i64 ((rd_T54 l0 (ji35)).f2.f2))∧w'.cell? ⟨(ad8.add (((ji35)).toNat*6)).block,(ad8.add (((ji35)).toNat*6)).off+5,none⟩=some (.int .i64 ((rd_T54 l0 (ji35)).f3))∧w'.cell? (ad8.add ((x7_2).toNat*6))=some (.string ((rd_T54 l0 x7_2).f0))∧w'.cell? ⟨(ad8.add ((x7_2).toNat*6)).block,(ad8.add ((x7_2).toNat*6)).off+1,none⟩=some (.string ((rd_T54 l0 x7_2).f1))∧w'.cell? ⟨(ad8.add ((x7_2).toNat*6)).block,(ad8.add ((x7_2).toNat*6)).off+2,none⟩=some (.int .i64 ((rd_T54 l0 x7_2).f2.f0))∧w'.cell? ⟨(ad8.add ((x7_2).toNat*6)).block,(ad8.add ((x7_2).toNat*6)).off+3,none⟩=some (.int .i64 ((rd_T54 l0 x7_2).f2.f1))∧w'.cell? ⟨(ad8.add ((x7_2).toNat*6)).block,(ad8.add ((x7_2).toNat*6)).off+4,none⟩=some (.int .i64 ((rd_T54 l0 x7_2).f2.f2))∧w'.cell? ⟨(ad8.add ((x7_2).toNat*6)).block,(ad8.add ((x7_2).toNat*6)).off+5,none⟩=some (.int .i64 ((rd_T54 l0 x7_2).f3))) (ds:=[]) (bt_ 12 0) (by kernel_rfl) rfl rfl ⟨(zx_ HB hw8_0),(zx_ HB hw8_1),(zx_ HB hw8_2),(zx_ HB hw8_3),(zx_ HB hw8_4),(zx_ HB hw8_5),(zx_ HB hw9_0),(zx_ HB hw9_1),(zx_ HB hw9_2),(zx_ HB hw9_3),(zx_ HB hw9_4),(zx_ HB hw9_5)⟩ (fun hHeld=> ?_);refine with_tabW law20_EffectAll.tab8 law20_EffectAll.bits8 (fun HT_ HW_=> ?_)
      generalize wr.drew=w40 at BK1 HB hx8_0 hx8_1 hx8_2 hx8_3 hx8_4 hx8_5 hx9_0 hx9_1 hx9_2 hx9_3 hx9_4 hx9_5 hHeld ⊢
      refine pu_ (i:=0) (N:=some 46) (bt_ 12 1) HT_ ?_
      refine pu_ (i:=1) (N:=some 47) (bt_ 12 3) HT_ ?_
      refine pu_ (i:=2) (N:=some 48) (bt_ 12 7) HT_ ?_
      refine pu_ (i:=3) (N:=some 49) (bt_ 12 15) HT_ ?_
      refine pu_ (i:=4) (N:=some 50) (bt_ 12 31) HT_ ?_
      refine pu_ (i:=6) (N:=some 52) (bt_ 12 95) HT_ ?_
      refine pu_ (i:=7) (N:=some 53) (bt_ 12 223) HT_ ?_
      refine pu_ (i:=8) (N:=some 54) (bt_ 12 479) HT_ ?_
      refine pu_ (i:=9) (N:=some 55) (bt_ 12 991) HT_ ?_
      refine tk_ (i:=5) (N:=some 51) (bt_ 12 1023) HT_ HW_ hHeld ?_
      refine tk_ (i:=10) (N:=some 56) (bt_ 12 2047) HT_ HW_ hHeld ?_
      refine pu_ (i:=11) (N:=some 57) (bt_ 12 4095) HT_ ?_
      refine done_ (done_of HT_.out (by kernel_rfl)) ?_
      try go_wp2
      go_roundg k2
      case measure=>have:=HJ3.out;have:=HK2.out;omega
      case rel=>exact ⟨(wrap64 (x7_2+1)),(by first|rfl|(simp;done)|(simp [*];done)),H',⟨by have:=HJ3.out;have:=HK2.out;omega⟩,⟨by refine zk_ ?_;exact BK1.out⟩,⟨zl1_ HB GE1⟩⟩
     rw [if_neg c39] at H
     have c39b0:(Op.bytesLess (((rd_T54 l0 (ji35)).f0).toList) (((rd_T54 l0 x7_2).f0).toList))=false:=by simpa using c39
     clear c39
     replace H:=Option.bind_eq_some_iff.mp H
     obtain ⟨t10,A410,H⟩:=H
     try dsimp only at H
     have A41:=Aside0.mk A410
     clear A410
     obtain rfl:=Option.some.inj H
     try go_wp2
     replace BK1:=am_ (blk_drew BK1.out)
     replace HB:=am_ (below_drew1 HB.out)
     have p8:0≤((ji35):Int):=of_decide_eq_true zq_
     have q8:(ji35)<(l0.length:Int):=of_decide_eq_true zq_
     obtain ⟨ad8,e8,hx8_0,hx8_1,hx8_2,hx8_3,hx8_4,hx8_5⟩:=at_T54 HR0.out (ji35) p8 q8
     have hw8_5:=hx8_5
     have hw8_4:=hx8_4
     have hw8_3:=hx8_3
     have hw8_2:=hx8_2
     have hw8_1:=hx8_1
     have hw8_0:=hx8_0
     cases e8
     replace hx8_0:=zx_ HB hx8_0
     replace hx8_1:=zx_ HB hx8_1
     replace hx8_2:=zx_ HB hx8_2
     replace hx8_3:=zx_ HB hx8_3
     replace hx8_4:=zx_ HB hx8_4
     replace hx8_5:=zx_ HB hx8_5
     replace p8:=eq_true p8
     replace q8:=eq_true q8
     have p9:0≤(x7_2:Int):=of_decide_eq_true zq_
     have q9:x7_2<(l0.length:Int):=of_decide_eq_true zq_
     obtain ⟨ad9,e9,hx9_0,hx9_1,hx9_2,hx9_3,hx9_4,hx9_5⟩:=at_T54 HR0.out x7_2 p9 q9
     have hw9_5:=hx9_5
     have hw9_4:=hx9_4
     have hw9_3:=hx9_3
     have hw9_2:=hx9_2
     have hw9_1:=hx9_1
     have hw9_0:=hx9_0
     obtain rfl:ad8=ad9:=(by injection e9)
     replace hx9_0:=zx_ HB hx9_0
     replace hx9_1:=zx_ HB hx9_1
     replace hx9_2:=zx_ HB hx9_2
     replace hx9_3:=zx_ HB hx9_3
     replace hx9_4:=zx_ HB hx9_4
     replace hx9_5:=zx_ HB hx9_5
     replace p9:=eq_true p9
     replace q9:=eq_true q9
     refine start_ (n:=12) (S:=fun w'=>w'.cell? (ad8.add (((ji35)).toNat*6))=some (.string ((rd_T54 l0 (ji35)).f0))∧w'.cell? ⟨(ad8.add (((ji35)).toNat*6)).block,(ad8.add (((ji35)).toNat*6)).off+1,none⟩=some (.string ((rd_T54 l0 (ji35)).f1))∧w'.cell? ⟨(ad8.add (((ji35)).toNat*6)).block,(ad8.add (((ji35)).toNat*6)).off+2,none⟩=some (.int .i64 ((rd_T54 l0 (ji35)).f2.f0))∧w'.cell? ⟨(ad8.add (((ji35)).toNat*6)).block,(ad8.add (((ji35)).toNat*6)).off+3,none⟩=some (.int .i64 ((rd_T54 l0 (ji35)).f2.f1))∧w'.cell? ⟨(ad8.add (((ji35)).toNat*6)).block,(ad8.add (((ji35)).toNat*6)).off+4,none⟩=some (.int .i64 ((rd_T54 l0 (ji35)).f2.f2))∧w'.cell? ⟨(ad8.add (((ji35)).toNat*6)).block,(ad8.add (((ji35)).toNat*6)).off+5,none⟩=some (.int .i64 ((rd_T54 l0 (ji35)).f3))∧w'.cell? (ad8.add ((x7_2).toNat*6))=some (.string ((rd_T54 l0 x7_2).f0))∧w'.cell? ⟨(ad8.add ((x7_2).toNat*6)).block,(ad8.add ((x7_2).toNat*6)).off+1,none⟩=some (.string ((rd_T54 l0 x7_2).f1))∧w'.cell? ⟨(ad8.add ((x7_2).toNat*6)).block,(ad8.add ((x7_2).toNat*6)).off+2,none⟩=some (.int .i64 ((rd_T54 l0 x7_2).f2.f0))∧w'.cell? ⟨(ad8.add ((x7_2).toNat*6)).block,(ad8.add ((x7_2).toNat*6)).off+3,none⟩=some (.int .i64 ((rd_T54 l0 x7_2).f2.f1))∧w'.cell? ⟨(ad8.add ((x7_2).toNat*6)).block,(ad8.add ((x7_2).toNat*6)).off+4,none⟩=some (.int .i64 ((rd_T54 l0 x7_2).f2.f2))∧w'.cell? ⟨(ad8.add ((x7_2).toNat*6)).block,(ad8.add ((x7_2).toNat*6)).off+5,none⟩=some (.int .i64 ((rd_T54 l0 x7_2).f3))) (ds:=[]) (bt_ 12 0) (by kernel_rfl) rfl rfl ⟨(zx_ HB hw8_0),(zx_ HB hw8_1),(zx_ HB hw8_2),(zx_ HB hw8_3),(zx_ HB hw8_4),(zx_ HB hw8_5),(zx_ HB hw9_0),(zx_ HB hw9_1),(zx_ HB hw9_2),(zx_ HB hw9_3),(zx_ HB hw9_4),(zx_ HB hw9_5)⟩ (fun hHeld=> ?_);refine with_tabW law20_EffectAll.tab8 law20_EffectAll.bits8 (fun HT_ HW_=> ?_)
     generalize wr.drew=w42 at BK1 HB hx8_0 hx8_1 hx8_2 hx8_3 hx8_4 hx8_5 hx9_0 hx9_1 hx9_2 hx9_3 hx9_4 hx9_5 hHeld ⊢
     refine pu_ (i:=0) (N:=some 46) (bt_ 12 1) HT_ ?_
     refine pu_ (i:=1) (N:=some 47) (bt_ 12 3) HT_ ?_
     refine pu_ (i:=2) (N:=some 48) (bt_ 12 7) HT_ ?_
     refine pu_ (i:=3) (N:=some 49) (bt_ 12 15) HT_ ?_
     refine pu_ (i:=4) (N:=some 50) (bt_ 12 31) HT_ ?_
     refine pu_ (i:=6) (N:=some 52) (bt_ 12 95) HT_ ?_
     refine pu_ (i:=7) (N:=some 53) (bt_ 12 223) HT_ ?_
     refine pu_ (i:=8) (N:=some 54) (bt_ 12 479) HT_ ?_
     refine pu_ (i:=9) (N:=some 55) (bt_ 12 991) HT_ ?_
     refine tk_ (i:=5) (N:=some 51) (bt_ 12 1023) HT_ HW_ hHeld ?_
     refine tk_ (i:=10) (N:=some 56) (bt_ 12 2047) HT_ HW_ hHeld ?_
     refine pu_ (i:=11) (N:=some 57) (bt_ 12 4095) HT_ ?_
     refine done_ (done_of HT_.out (by kernel_rfl)) ?_
     try go_wp2_with (first|((with_reducible refine gate_callee (f:=51) rfl ?_);refine gl_ (some 58) Try.func51 #[] ?_;(with_reducible refine (law20_awake.calls t10 _ A41.out).mono ?_);rintro e w43 ⟨rfl,hb⟩;refine ⟨_,rfl, ?_⟩;replace BK1:=am_ (blk_below (zb_ BK1) hb);replace HB:=am_ (below_step (zl1_ HB GE1) hb);(try clear hb);(try clear hb2);(try clear hk);(try clear hi)))
     go_ret
     exact ⟨by first|rfl|(simp [errW_none,errW_some]<;>rfl)|(simp only [←hji35];first|rfl|(simp [errW_none,errW_some]<;>rfl))|(simp [*,errW_none,errW_some]<;>rfl),zl1_ HB GE1⟩
end Go.Proofs.Ytcgefpklljclgaa.Print

namespace Go.Proofs.Ytcgefpklljclgaa.Print
open Go.RowKit Go.Proofs.YtcgefpklljclgaaW.PrintWords Go.Proofs.YtcgefpklljclgaaW.PrintLast
abbrev Item:=S31
abbrev Vec:=S27
abbrev zItem:Item:=z31
theorem rd_item (l:List Item) (i:Int):rd_T31 l i=l.getD i.toNat zItem:=rfl
instance baLawful:LawfulBEq ByteArray where
 eq_of_beq {a b} h:=by
  obtain ⟨a⟩:=a
  obtain ⟨b⟩:=b
  have:(a==b)=true:=h
  rw [eq_of_beq this]
 rfl {a}:=by
  obtain ⟨a⟩:=a
  show (a==a)=true
  exact beq_self_eq_true a
theorem nm_inj {a b:ByteArray}:a.toList=b.toList↔a=b:=by
  constructor
  rotate_left
  · rintro rfl;rfl
  intro h
  rw [ByteArray.toList_eq,ByteArray.toList_eq] at h
  exact ByteArray.ext (Array.toList_inj.1 h)
theorem nm_beq (a b:ByteArray):(a.toList==b.toList)=decide (a=b):=by
 rw [Bool.eq_iff_iff,beq_iff_eq,nm_inj,decide_eq_true_iff]
theorem nm_empty {a:ByteArray}:a.toList=([]:List UInt8)↔a=⟨#[]⟩:=by
 rw [←nm_inj];rw [show (ByteArray.mk #[]).toList=[] from by rw [ByteArray.toList_eq]]
theorem Ev.const {α:Type} {g:Option α} {r:α} (h:g=some r):Ev (fun _=>g) r:=⟨0,fun _ _=>h⟩
theorem w64 {n:Int} (h0: -9223372036854775808≤n) (h1:n≤9223372036854775807):wrap64 n=n:=by unfold wrap64;omega
def look (l:List Item) (n:ByteArray):Option Item:=l.find? (fun x=>x.f0=n)
def fnd (l:List Item) (n:ByteArray):Int:=fidx (fun x:Item=>x.f0.toList==n.toList) l 0
theorem fidx_none {α:Type} {p:α→Bool}: ∀{l:List α} {i:Int},(∀x∈l,p x=false)→fidx p l i= -1
  |[],_,_=>rfl
  | x :: l, i, h => by
    unfold fidx
    rw [if_neg (by rw [h x (by simp)];simp)]
    exact fidx_none (fun y hy=>h y (by simp [hy]))
theorem fidx_some {α:Type} {p:α→Bool} (z:α): ∀{l:List α} {i:Int} {x:α},l.find? p=some x→ ∃j:Nat,j<l.length∧fidx p l i=i+j∧l.getD j z=x∧p x=true∧ ∀m,m<j→p (l.getD m z)=false
  |[],_,_,h=>by simp at h
  | y :: l, i, x, h => by
    unfold fidx
    by_cases hy:p y=true
    · rw [if_pos hy]
      simp only [List.find?_cons,hy] at h
      obtain rfl:=Option.some.inj h
      exact ⟨0,by simp,by simp,by simp,hy,fun m hm=>by omega⟩
    rw [if_neg hy]
    have hy':p y=false:=by simpa using hy
    simp only [List.find?_cons,hy'] at h
    obtain ⟨j,hj,h1,h2,h3,h4⟩:=fidx_some z (i:=i+1) h
    refine ⟨j+1,by simp;omega,by rw [h1];omega,by simpa using h2,h3,fun m hm=> ?_⟩
    cases m with
    |zero=>simpa using hy'
    |succ m=>simpa using h4 m (by omega)
theorem look_pred (n:ByteArray):(fun x:Item=>x.f0.toList==n.toList)=(fun x:Item=>decide (x.f0=n)):=by
 funext x;exact nm_beq _ _
theorem look_mem {l:List Item} {n:ByteArray} {x:Item} (h:look l n=some x):x∈l∧x.f0=n:=by
 unfold look at h
 exact ⟨List.mem_of_find?_eq_some h,by simpa using List.find?_some h⟩
theorem look_none {l:List Item} {n:ByteArray}:look l n=none↔ ∀x∈l,x.f0≠n:=by
 unfold look
 simp
theorem fnd_none {l:List Item} {n:ByteArray} (h:look l n=none):fnd l n= -1:=by
 unfold fnd
 refine fidx_none fun x hx=> ?_
 rw [nm_beq]
 simpa using look_none.1 h x hx
theorem fnd_some {l:List Item} {n:ByteArray} {x:Item} (h:look l n=some x): ∃j:Nat,j<l.length∧fnd l n=j∧l.getD j zItem=x∧x.f0=n∧ ∀m,m<j→(l.getD m zItem).f0≠n:=by
 have h':l.find? (fun x:Item=>x.f0.toList==n.toList)=some x:=by rw [look_pred];exact h
 obtain ⟨j,h1,h2,h3,h4,h5⟩:=fidx_some zItem (i:=0) h'
 refine ⟨j,h1,by unfold fnd;rw [h2];omega,h3,by simpa [nm_beq] using h4,fun m hm=> ?_⟩
 simpa [nm_beq] using h5 m hm
theorem fnd_lt (l:List Item) (n:ByteArray):fnd l n<l.length:=by
 cases h:look l n with
 |none=>rw [fnd_none h];omega
 |some x=>obtain ⟨j,h1,h2,_⟩:=fnd_some h;omega
theorem fnd_neg {l:List Item} {n:ByteArray}:fnd l n<0↔look l n=none:=by
 cases h:look l n with
 |none=>rw [fnd_none h];simp
 |some x=>obtain ⟨j,h1,h2,_⟩:=fnd_some h;simp;omega
theorem fnd_ge {l:List Item} {n:ByteArray}:0≤fnd l n↔ ∃x,look l n=some x:=by
 cases h:look l n with
 |none=>rw [fnd_none h];simp
 |some x=>obtain ⟨j,h1,h2,_⟩:=fnd_some h;simp;omega
theorem fnd_rd {l:List Item} {n:ByteArray} {x:Item} (h:look l n=some x):rd_T31 l (fnd l n)=x:=by
 obtain ⟨j,h1,h2,h3,_⟩:=fnd_some h
 rw [rd_item,h2,Int.toNat_natCast];exact h3
theorem tree_Find_eq (l:List Item) (n:ByteArray):tree_Find.f l n=some (fnd l n):=rfl
inductive Chain (l:List Item):ByteArray→List ByteArray→Prop where
 |nil {n:ByteArray}:look l n=none→Chain l n []
 |cons {n:ByteArray} {x:Item} {us:List ByteArray}:look l n=some x→Chain l x.f1 us→Chain l n (n::us)
def upGo (l:List Item):Nat→ByteArray→List ByteArray
  |0,_=> []
  | m + 1, n => match look l n with
    |none=> []
    |some x=>n::upGo l m x.f1
def up (l:List Item) (n:ByteArray):List ByteArray:=upGo l (l.length+1) n
theorem upGo_none {l:List Item} {n:ByteArray} (h:look l n=none) (m:Nat):upGo l m n=[]:=by
 cases m with
 |zero=>rfl
 |succ m=>unfold upGo;rw [h]
theorem upGo_some {l:List Item} {n:ByteArray} {x:Item} (h:look l n=some x) (m:Nat):upGo l (m+1) n=n::upGo l m x.f1:=by
 rw [upGo.eq_2,h]
theorem Chain.det {l:List Item} {n:ByteArray} {us:List ByteArray} (h:Chain l n us): ∀{vs:List ByteArray},Chain l n vs→us=vs:=by
  induction h with
  | nil h =>
    intro vs k
    cases k with
    |nil _=>rfl
    |cons k _=>rw [h] at k;cases k
  | cons h _ ih =>
    intro vs k
    cases k with
    |nil k=>rw [h] at k;cases k
    | cons k k2 =>
      rw [h] at k
      cases k
      rw [ih k2]
theorem Chain.upGo {l:List Item} {n:ByteArray} {us:List ByteArray} (h:Chain l n us): ∀m,us.length≤m→upGo l m n=us:=by
  induction h with
  |nil h=>intro m _;exact upGo_none h m
  | cons h _ ih =>
    intro m hm
    cases m with
    |zero=>simp at hm
    | succ m =>
      rw [upGo_some h,ih m (by simpa using hm)]
theorem upGo_chain (l:List Item): ∀(m:Nat) (n:ByteArray),(upGo l m n).length<m→Chain l n (upGo l m n)
  |0,_,h=>by simp [upGo] at h
  | m + 1, n, h => by
    cases hl:look l n with
    |none=>rw [upGo_none hl];exact .nil hl
    | some x =>
      rw [upGo_some hl] at h ⊢
      exact .cons hl (upGo_chain l m x.f1 (by simpa using h))
theorem up_chain {l:List Item} {n:ByteArray} (h:(up l n).length≤l.length):Chain l n (up l n):=upGo_chain l _ n (by unfold up at h;omega)
theorem Chain.suffix {l:List Item} {n:ByteArray} {us:List ByteArray} (h:Chain l n us): ∀{m:ByteArray},m∈us→ ∃vs ws,us=ws++vs∧Chain l m vs∧ ∃vt,vs=m::vt:=by
  induction h with
  |nil _=>intro m hm;cases hm
  | @cons n x us h k ih =>
    intro m hm
    rcases List.mem_cons.1 hm with rfl|hm
    · exact ⟨_,[],rfl, .cons h k,_,rfl⟩
    obtain ⟨vs,ws,e,hc,he⟩:=ih hm
    exact ⟨vs,n::ws,by rw [e];rfl,hc,he⟩
theorem Chain.mem_look {l:List Item} {n:ByteArray} {us:List ByteArray} (h:Chain l n us) {m:ByteArray} (hm:m∈us): ∃x,look l m=some x:=by
 obtain ⟨vs,ws,_,hc,vt,rfl⟩:=h.suffix hm
 cases hc with
 |cons h _=>exact ⟨_,h⟩
theorem Chain.nodup {l:List Item} {n:ByteArray} {us:List ByteArray} (h:Chain l n us):us.Nodup:=by
  induction h with
  |nil _=>simp
  | @cons n x us h k ih =>
    rw [List.nodup_cons]
    refine ⟨fun hm=> ?_,ih⟩
    obtain ⟨vs,ws,e,hc,_⟩:=k.suffix hm
    have:=hc.det (.cons h k)
    rw [this] at e
    have:=congrArg List.length e
    simp at this
    omega
theorem Chain.len {l:List Item} {n:ByteArray} {us:List ByteArray} (h:Chain l n us):us.length≤l.length:=by
 have:=h.nodup.length_le_of_subset (l₂:=l.map (·.f0)) (fun m hm=>by
  obtain ⟨x,hx⟩:=h.mem_look hm
  obtain ⟨h1,rfl⟩:=look_mem hx
  exact List.mem_map_of_mem h1)
 simpa using this
theorem Chain.up {l:List Item} {n:ByteArray} {us:List ByteArray} (h:Chain l n us):up l n=us:=h.upGo _ (by have:=h.len;omega)
theorem up_len_iff {l:List Item} {n:ByteArray}:(up l n).length≤l.length↔ ∃us,Chain l n us:=
 ⟨fun h=>⟨_,up_chain h⟩,fun ⟨us,h⟩=>by rw [h.up];exact h.len⟩
end Go.Proofs.Ytcgefpklljclgaa.Print

namespace Go.Proofs.Ytcgefpklljclgaa.Print
open Go.RowKit Go.Proofs.YtcgefpklljclgaaW.PrintWords Go.Proofs.YtcgefpklljclgaaW.PrintLast
open Go.ChangeShapes Go.WideShapes Go.Deep
section
variable {H:Type} {enc:TypeId×Value→H} {w:World} {base:Nat} {spare:Nat→Bool} {held:Bool}
theorem cells_i:Try.prog.cellsOf 3=1:=by kernel_rfl
theorem cells_s:Try.prog.cellsOf 9=1:=by kernel_rfl
theorem cells_v:Try.prog.cellsOf 27=3:=by kernel_rfl
theorem cells_it:Try.prog.cellsOf 31=12:=by kernel_rfl
theorem open_i {fuel:Nat} {c:Value} {x:DataW H×List MemPlace} (h:DataW.trod enc Try.prog w base spare held fuel 3 [c]=some x): ∃n:Int,c= .int .i64 n:=by
 obtain ⟨n,e,_,_⟩:=DataW.trod_int Try.underlying3 h
 exact ⟨n,(List.cons.inj e).1⟩
theorem open_s {fuel:Nat} {c:Value} {x:DataW H×List MemPlace} (h:DataW.trod enc Try.prog w base spare held fuel 9 [c]=some x): ∃s:ByteArray,c= .string s:=by
 obtain ⟨n,e,_,_⟩:=DataW.trod_string Try.underlying9 h
 exact ⟨n,(List.cons.inj e).1⟩
theorem open_vec {fuel:Nat} {cs:List Value} {x:DataW H×List MemPlace} (h:DataW.trod enc Try.prog w base spare held fuel 27 cs=some x): ∃v:Vec,cs=[.int .i64 v.f0, .int .i64 v.f1, .int .i64 v.f2]:=by
 obtain ⟨xs,n,_,hx,hl,hlen,hf⟩:=DataW.trod_struct Try.underlying27 h
 replace hl:cs.length=3:=hl.trans cells_v
 replace hlen:xs.length=3:=hlen
 clear h hx
 obtain ⟨c0,c1,c2,rfl⟩: ∃c0 c1 c2,cs=[c0,c1,c2]:=by
  clear hf
  match cs,hl with
  |[c0,c1,c2],_=>exact ⟨_,_,_,rfl⟩
 obtain ⟨y0,y1,y2,rfl⟩: ∃y0 y1 y2,xs=[y0,y1,y2]:=by
  clear hf
  match xs,hlen with
  |[y0,y1,y2],_=>exact ⟨_,_,_,rfl⟩
 have g0:DataW.trod enc Try.prog w base spare held n 3 (List.take (Try.prog.cellsOf 3) (List.drop 0 [c0,c1,c2]))=some y0:=hf 0 _ rfl
 have g1:DataW.trod enc Try.prog w base spare held n 3 (List.take (Try.prog.cellsOf 3) (List.drop 1 [c0,c1,c2]))=some y1:=hf 1 _ rfl
 have g2:DataW.trod enc Try.prog w base spare held n 3 (List.take (Try.prog.cellsOf 3) (List.drop 2 [c0,c1,c2]))=some y2:=hf 2 _ rfl
 rw [cells_i] at g0 g1 g2
 obtain ⟨n0,rfl⟩:=open_i (c:=c0) g0
 obtain ⟨n1,rfl⟩:=open_i (c:=c1) g1
 obtain ⟨n2,rfl⟩:=open_i (c:=c2) g2
 exact ⟨⟨n0,n1,n2⟩,rfl⟩
theorem open_item {fuel:Nat} {cs:List Value} {x:DataW H×List MemPlace} (h:DataW.trod enc Try.prog w base spare held fuel 31 cs=some x): ∃it:Item,cs=[.string it.f0, .string it.f1, .int .i64 it.f2.f0, .int .i64 it.f2.f1, .int .i64 it.f2.f2, .int .i64 it.f3.f0, .int .i64 it.f3.f1, .int .i64 it.f3.f2, .int .i64 it.f4.f0, .int .i64 it.f4.f1, .int .i64 it.f4.f2, .int .i64 it.f5]:=by
 obtain ⟨xs,n,_,hx,hl,hlen,hf⟩:=DataW.trod_struct Try.underlying31 h
 replace hl:cs.length=12:=hl.trans cells_it
 replace hlen:xs.length=6:=hlen
 clear h hx
 obtain ⟨c0,c1,c2,c3,c4,c5,c6,c7,c8,c9,c10,c11,rfl⟩: ∃c0 c1 c2 c3 c4 c5 c6 c7 c8 c9 c10 c11,cs=[c0,c1,c2,c3,c4,c5,c6,c7,c8,c9,c10,c11]:=by
  clear hf
  match cs,hl with
  |[c0,c1,c2,c3,c4,c5,c6,c7,c8,c9,c10,c11],_=>exact ⟨_,_,_,_,_,_,_,_,_,_,_,_,rfl⟩
 obtain ⟨y0,y1,y2,y3,y4,y5,rfl⟩: ∃y0 y1 y2 y3 y4 y5,xs=[y0,y1,y2,y3,y4,y5]:=by
  clear hf
  match xs,hlen with
  |[y0,y1,y2,y3,y4,y5],_=>exact ⟨_,_,_,_,_,_,rfl⟩
 have g0:DataW.trod enc Try.prog w base spare held n 9 (List.take (Try.prog.cellsOf 9) (List.drop 0 [c0,c1,c2,c3,c4,c5,c6,c7,c8,c9,c10,c11]))=some y0:=hf 0 _ rfl
 have g1:DataW.trod enc Try.prog w base spare held n 9 (List.take (Try.prog.cellsOf 9) (List.drop 1 [c0,c1,c2,c3,c4,c5,c6,c7,c8,c9,c10,c11]))=some y1:=hf 1 _ rfl
 have g2:DataW.trod enc Try.prog w base spare held n 27 (List.take (Try.prog.cellsOf 27) (List.drop 2 [c0,c1,c2,c3,c4,c5,c6,c7,c8,c9,c10,c11]))=some y2:=hf 2 _ rfl
 have g3:DataW.trod enc Try.prog w base spare held n 27 (List.take (Try.prog.cellsOf 27) (List.drop 5 [c0,c1,c2,c3,c4,c5,c6,c7,c8,c9,c10,c11]))=some y3:=hf 3 _ rfl
 have g4:DataW.trod enc Try.prog w base spare held n 27 (List.take (Try.prog.cellsOf 27) (List.drop 8 [c0,c1,c2,c3,c4,c5,c6,c7,c8,c9,c10,c11]))=some y4:=hf 4 _ rfl
 have g5:DataW.trod enc Try.prog w base spare held n 3 (List.take (Try.prog.cellsOf 3) (List.drop 11 [c0,c1,c2,c3,c4,c5,c6,c7,c8,c9,c10,c11]))=some y5:=hf 5 _ rfl
 rw [cells_s] at g0 g1
 rw [cells_v] at g2 g3 g4
 rw [cells_i] at g5
 obtain ⟨n0,rfl⟩:=open_s (c:=c0) g0
 obtain ⟨n1,rfl⟩:=open_s (c:=c1) g1
 obtain ⟨v2,e2⟩:=open_vec (cs:=[c2,c3,c4]) g2
 obtain ⟨v3,e3⟩:=open_vec (cs:=[c5,c6,c7]) g3
 obtain ⟨v4,e4⟩:=open_vec (cs:=[c8,c9,c10]) g4
 obtain ⟨n5,rfl⟩:=open_i (c:=c11) g5
 simp only [List.cons.injEq,and_true] at e2 e3 e4
 obtain ⟨rfl,rfl,rfl⟩:=e2
 obtain ⟨rfl,rfl,rfl⟩:=e3
 obtain ⟨rfl,rfl,rfl⟩:=e4
 exact ⟨⟨n0,n1,v2,v3,v4,n5⟩,rfl⟩
theorem open_items {t:TypeId} (ht:Try.prog.underlying t=some (.slice 31)) {v:Value} {d:DataW H} {p:List MemPlace} {A:Option Addr} {len cap:Nat} (hv:v= .slice A len cap) (h:DataW.Trod enc Try.prog w base spare held t v d p):
    ∃zs:List Item,len=zs.length∧len≤cap∧Kd.C k31 w A zs.length zs:=by
  subst hv
  obtain ⟨fuel,hf⟩:=h
  rcases open_slice ht hf with ⟨e,_⟩|⟨a,len',cap',m,n,D,Pl,e,_,hl,hm,hmm,_,hi⟩
  · simp only [Value.cells, List.cons.injEq, Value.slice.injEq, and_true] at e
    obtain ⟨rfl,rfl,rfl⟩:=e
    exact ⟨[],rfl,Nat.le_refl _,Kd.C_nil _ _⟩
  simp only [Value.cells,List.cons.injEq,Value.slice.injEq,and_true] at e
  obtain ⟨rfl,rfl,rfl⟩:=e
  have hlm:len≤m:=by rw [hmm];split<;>omega
  have key: ∀i,i<len→ ∃it:Item,∀j u,[Value.string it.f0, .string it.f1, .int .i64 it.f2.f0, .int .i64 it.f2.f1, .int .i64 it.f2.f2, .int .i64 it.f3.f0, .int .i64 it.f3.f1, .int .i64 it.f3.f2, .int .i64 it.f4.f0, .int .i64 it.f4.f1, .int .i64 it.f4.f2, .int .i64 it.f5][j]?=some u→w.cell? (a.add (i*12+j))=some u:=by
    intro i hil
    obtain ⟨cs',h1,h2⟩:=hi i (by omega)
    rw [cells_it] at h1
    obtain ⟨_,hcl,hat⟩:=World.cells?_some h1
    obtain ⟨it,rfl⟩:=open_item h2
    refine ⟨it,fun j u hj=> ?_⟩
    have hj12:j<12:=by
      have:=(List.getElem?_eq_some_iff.1 hj).1
      simpa using this
    have:=hat j hj12
    rw [Go.Deep.add_add,hj] at this
    exact this
  have hg: ∃g:Nat→Item,∀i,i<len→ ∀j u,[Value.string (g i).f0, .string (g i).f1, .int .i64 (g i).f2.f0, .int .i64 (g i).f2.f1, .int .i64 (g i).f2.f2, .int .i64 (g i).f3.f0, .int .i64 (g i).f3.f1, .int .i64 (g i).f3.f2, .int .i64 (g i).f4.f0, .int .i64 (g i).f4.f1, .int .i64 (g i).f4.f2, .int .i64 (g i).f5][j]?=some u→w.cell? (a.add (i*12+j))=some u:=by
    refine ⟨fun i=>if q:i<len then Classical.choose (key i q) else zItem,fun i q=> ?_⟩
    have:=Classical.choose_spec (key i q)
    simp only [q,dif_pos]
    exact this
  obtain ⟨g,hg⟩:=hg
  refine ⟨(List.range len).map g,by simp,hl, ?_⟩
  have hml:maxLen=9223372036854775807:=rfl
  refine ⟨rfl,by simp;omega,fun _=>⟨a,rfl,fun j p hj=> ?_⟩⟩
  rw [List.getElem?_map] at hj
  obtain ⟨i,hi1,rfl⟩:=Option.map_eq_some_iff.1 hj
  obtain ⟨hjl,e⟩:=List.getElem?_eq_some_iff.1 hi1
  rw [List.getElem_range] at e
  subst e
  rw [List.length_range] at hjl
  exact ⟨_,rfl,k31_mk w (g j),fun i u hu=>hg j hjl i u hu⟩
end
section
variable {H:Type} {enc:TypeId×Value→H} {w:World} {base:Nat} {spare:Nat→Bool} {held:Bool}
theorem cells_step:Try.prog.cellsOf 58=6:=by kernel_rfl
theorem open_step {fuel:Nat} {cs:List Value} {x:DataW H×List MemPlace} (h:DataW.trod enc Try.prog w base spare held fuel 58 cs=some x): ∃it:S58,cs=[Value.int .i64 it.f0, .string it.f1, .string it.f2, .int .i64 it.f3.f0, .int .i64 it.f3.f1, .int .i64 it.f3.f2]:=by
 obtain ⟨xs,n,_,hx,hl,hlen,hf⟩:=DataW.trod_struct Try.underlying58 h
 replace hl:cs.length=6:=hl.trans cells_step
 replace hlen:xs.length=4:=hlen
 clear h hx
 obtain ⟨c0,c1,c2,c3,c4,c5,rfl⟩: ∃c0 c1 c2 c3 c4 c5,cs=[c0,c1,c2,c3,c4,c5]:=by
  clear hf
  match cs,hl with
  |[c0,c1,c2,c3,c4,c5],_=>exact ⟨_,_,_,_,_,_,rfl⟩
 obtain ⟨y0,y1,y2,y3,rfl⟩: ∃y0 y1 y2 y3,xs=[y0,y1,y2,y3]:=by
  clear hf
  match xs,hlen with
  |[y0,y1,y2,y3],_=>exact ⟨_,_,_,_,rfl⟩
 have g0:DataW.trod enc Try.prog w base spare held n 3 (List.take (Try.prog.cellsOf 3) (List.drop 0 [c0,c1,c2,c3,c4,c5]))=some y0:=hf 0 _ rfl
 have g1:DataW.trod enc Try.prog w base spare held n 9 (List.take (Try.prog.cellsOf 9) (List.drop 1 [c0,c1,c2,c3,c4,c5]))=some y1:=hf 1 _ rfl
 have g2:DataW.trod enc Try.prog w base spare held n 9 (List.take (Try.prog.cellsOf 9) (List.drop 2 [c0,c1,c2,c3,c4,c5]))=some y2:=hf 2 _ rfl
 have g3:DataW.trod enc Try.prog w base spare held n 27 (List.take (Try.prog.cellsOf 27) (List.drop 3 [c0,c1,c2,c3,c4,c5]))=some y3:=hf 3 _ rfl
 rw [cells_s] at g1 g2
 rw [cells_i] at g0
 rw [cells_v] at g3
 obtain ⟨n0,rfl⟩:=open_i (c:=c0) g0
 obtain ⟨n1,rfl⟩:=open_s (c:=c1) g1
 obtain ⟨n2,rfl⟩:=open_s (c:=c2) g2
 obtain ⟨v3,e3⟩:=open_vec (cs:=[c3,c4,c5]) g3
 simp only [List.cons.injEq,and_true] at e3
 obtain ⟨rfl,rfl,rfl⟩:=e3
 exact ⟨⟨n0,n1,n2,v3⟩,rfl⟩
theorem open_step_arg {cs:Array Value} {d:DataW H} {p:List MemPlace} (h:DataW.Trod enc Try.prog w base spare held 58 (.agg cs) d p): ∃it:S58,cs=#[.int .i64 it.f0, .string it.f1, .string it.f2, .int .i64 it.f3.f0, .int .i64 it.f3.f1, .int .i64 it.f3.f2]:=by
 obtain ⟨fuel,hf⟩:=h
 obtain ⟨v,e⟩:=open_step hf
 exact ⟨v,Array.toList_inj.1 e⟩
theorem cells_mark:Try.prog.cellsOf 54=6:=by kernel_rfl
theorem open_mark {fuel:Nat} {cs:List Value} {x:DataW H×List MemPlace} (h:DataW.trod enc Try.prog w base spare held fuel 54 cs=some x): ∃it:S54,cs=[Value.string it.f0, .string it.f1, .int .i64 it.f2.f0, .int .i64 it.f2.f1, .int .i64 it.f2.f2, .int .i64 it.f3]:=by
 obtain ⟨xs,n,_,hx,hl,hlen,hf⟩:=DataW.trod_struct Try.underlying54 h
 replace hl:cs.length=6:=hl.trans cells_mark
 replace hlen:xs.length=4:=hlen
 clear h hx
 obtain ⟨c0,c1,c2,c3,c4,c5,rfl⟩: ∃c0 c1 c2 c3 c4 c5,cs=[c0,c1,c2,c3,c4,c5]:=by
  clear hf
  match cs,hl with
  |[c0,c1,c2,c3,c4,c5],_=>exact ⟨_,_,_,_,_,_,rfl⟩
 obtain ⟨y0,y1,y2,y3,rfl⟩: ∃y0 y1 y2 y3,xs=[y0,y1,y2,y3]:=by
  clear hf
  match xs,hlen with
  |[y0,y1,y2,y3],_=>exact ⟨_,_,_,_,rfl⟩
 have g0:DataW.trod enc Try.prog w base spare held n 9 (List.take (Try.prog.cellsOf 9) (List.drop 0 [c0,c1,c2,c3,c4,c5]))=some y0:=hf 0 _ rfl
 have g1:DataW.trod enc Try.prog w base spare held n 9 (List.take (Try.prog.cellsOf 9) (List.drop 1 [c0,c1,c2,c3,c4,c5]))=some y1:=hf 1 _ rfl
 have g2:DataW.trod enc Try.prog w base spare held n 27 (List.take (Try.prog.cellsOf 27) (List.drop 2 [c0,c1,c2,c3,c4,c5]))=some y2:=hf 2 _ rfl
 have g3:DataW.trod enc Try.prog w base spare held n 3 (List.take (Try.prog.cellsOf 3) (List.drop 5 [c0,c1,c2,c3,c4,c5]))=some y3:=hf 3 _ rfl
 rw [cells_s] at g0 g1
 rw [cells_i] at g3
 rw [cells_v] at g2
 obtain ⟨n0,rfl⟩:=open_s (c:=c0) g0
 obtain ⟨n1,rfl⟩:=open_s (c:=c1) g1
 obtain ⟨v2,e2⟩:=open_vec (cs:=[c2,c3,c4]) g2
 simp only [List.cons.injEq,and_true] at e2
 obtain ⟨rfl,rfl,rfl⟩:=e2
 obtain ⟨n3,rfl⟩:=open_i (c:=c5) g3
 exact ⟨⟨n0,n1,v2,n3⟩,rfl⟩
theorem open_marks {t:TypeId} (ht:Try.prog.underlying t=some (.slice 54)) {v:Value} {d:DataW H} {p:List MemPlace} {A:Option Addr} {len cap:Nat} (hv:v= .slice A len cap) (h:DataW.Trod enc Try.prog w base spare held t v d p):
    ∃zs:List S54,len=zs.length∧len≤cap∧Kd.C k54 w A zs.length zs:=by
  subst hv
  obtain ⟨fuel,hf⟩:=h
  rcases open_slice ht hf with ⟨e,_⟩|⟨a,len',cap',m,n,D,Pl,e,_,hl,hm,hmm,_,hi⟩
  · simp only [Value.cells, List.cons.injEq, Value.slice.injEq, and_true] at e
    obtain ⟨rfl,rfl,rfl⟩:=e
    exact ⟨[],rfl,Nat.le_refl _,Kd.C_nil _ _⟩
  simp only [Value.cells,List.cons.injEq,Value.slice.injEq,and_true] at e
  obtain ⟨rfl,rfl,rfl⟩:=e
  have hlm:len≤m:=by rw [hmm];split<;>omega
  have key: ∀i,i<len→ ∃it:S54,∀j u,[Value.string it.f0, .string it.f1, .int .i64 it.f2.f0, .int .i64 it.f2.f1, .int .i64 it.f2.f2, .int .i64 it.f3][j]?=some u→w.cell? (a.add (i*6+j))=some u:=by
    intro i hil
    obtain ⟨cs',h1,h2⟩:=hi i (by omega)
    rw [cells_mark] at h1
    obtain ⟨_,hcl,hat⟩:=World.cells?_some h1
    obtain ⟨it,rfl⟩:=open_mark h2
    refine ⟨it,fun j u hj=> ?_⟩
    have hj12:j<6:=by
      have:=(List.getElem?_eq_some_iff.1 hj).1
      simpa using this
    have:=hat j hj12
    rw [Go.Deep.add_add,hj] at this
    exact this
  have hg: ∃g:Nat→S54,∀i,i<len→ ∀j u,[Value.string (g i).f0, .string (g i).f1, .int .i64 (g i).f2.f0, .int .i64 (g i).f2.f1, .int .i64 (g i).f2.f2, .int .i64 (g i).f3][j]?=some u→w.cell? (a.add (i*6+j))=some u:=by
    refine ⟨fun i=>if q:i<len then Classical.choose (key i q) else z54,fun i q=> ?_⟩
    have:=Classical.choose_spec (key i q)
    simp only [q,dif_pos]
    exact this
  obtain ⟨g,hg⟩:=hg
  refine ⟨(List.range len).map g,by simp,hl, ?_⟩
  have hml:maxLen=9223372036854775807:=rfl
  refine ⟨rfl,by simp;omega,fun _=>⟨a,rfl,fun j p hj=> ?_⟩⟩
  rw [List.getElem?_map] at hj
  obtain ⟨i,hi1,rfl⟩:=Option.map_eq_some_iff.1 hj
  obtain ⟨hjl,e⟩:=List.getElem?_eq_some_iff.1 hi1
  rw [List.getElem_range] at e
  subst e
  rw [List.length_range] at hjl
  exact ⟨_,rfl,k54_mk w (g j),fun i u hu=>hg j hjl i u hu⟩
end
end Go.Proofs.Ytcgefpklljclgaa.Print

namespace Go.Proofs.Ytcgefpklljclgaa.Print
open Go.RowKit Go.Proofs.YtcgefpklljclgaaW.PrintWords Go.Proofs.YtcgefpklljclgaaW.PrintLast
def lt (a b:ByteArray):Bool:=Op.bytesLess a.toList b.toList
theorem bl_irrefl: ∀a:List UInt8,Op.bytesLess a a=false
 |[]=>rfl
 |x::a=>by unfold Op.bytesLess;simp [bl_irrefl a]
theorem bl_trans: ∀{a b c:List UInt8},Op.bytesLess a b=true→Op.bytesLess b c=true→Op.bytesLess a c=true
  |[],[],_,h,_=>by simp [Op.bytesLess] at h
  |[],_::_,[],_,k=>by simp [Op.bytesLess] at k
  |[],_::_,_::_,_,_=>by simp [Op.bytesLess]
  |_::_,[],_,h,_=>by simp [Op.bytesLess] at h
  |_::_,_::_,[],_,k=>by simp [Op.bytesLess] at k
  | x :: a, y :: b, z :: c, h, k => by
    simp only [Op.bytesLess,Bool.or_eq_true,Bool.and_eq_true,decide_eq_true_eq,beq_iff_eq] at h k ⊢
    rcases h with h|⟨rfl,h⟩
    · rcases k with k | ⟨rfl, k⟩
      · exact .inl (UInt8.lt_trans h k)
      exact .inl h
    rcases k with k|⟨rfl,k⟩
    · exact .inl k
    exact .inr ⟨rfl,bl_trans h k⟩
theorem lt_irrefl (a:ByteArray):lt a a=false:=bl_irrefl _
theorem lt_trans {a b c:ByteArray} (h:lt a b=true) (k:lt b c=true):lt a c=true:=bl_trans h k
theorem lt_ne {a b:ByteArray} (h:lt a b=true):a≠b:=by rintro rfl;rw [lt_irrefl] at h;cases h
inductive Comp where|cpu|mem|pods
def Comp.of:Comp→Vec→Int| .cpu,v=>v.f0| .mem,v=>v.f1| .pods,v=>v.f2
theorem vec_ext {a b:Vec} (h: ∀c:Comp,c.of a=c.of b):a=b:=by
 cases a;cases b
 have h0:=h .cpu;have h1:=h .mem;have h2:=h .pods
 simp [Comp.of] at h0 h1 h2
 simp [h0,h1,h2]
def vadd (a b:Vec):Vec:=⟨a.f0+b.f0,a.f1+b.f1,a.f2+b.f2⟩
theorem of_vadd (c:Comp) (a b:Vec):c.of (vadd a b)=c.of a+c.of b:=by cases c<;>rfl
def MayP (v:Vec):Prop:= ∀c:Comp,0≤c.of v∧c.of v≤1099511627776
def LeP (a b:Vec):Prop:= ∀c:Comp,c.of a≤c.of b
theorem comp_all {p:Comp→Prop}:(∀c,p c)↔p .cpu∧p .mem∧p .pods:=
 ⟨fun h=>⟨h _,h _,h _⟩,fun ⟨a,b,d⟩ c=>by cases c<;>assumption⟩
instance (v:Vec):Decidable (MayP v):=decidable_of_iff _ comp_all.symm
instance (a b:Vec):Decidable (LeP a b):=decidable_of_iff _ comp_all.symm
theorem mayP_iff {a b d:Int}:MayP ⟨a,b,d⟩↔(0≤a∧a≤1099511627776)∧(0≤b∧b≤1099511627776)∧(0≤d∧d≤1099511627776):=comp_all
theorem leP_iff {a b d a' b' d':Int}:LeP ⟨a,b,d⟩ ⟨a',b',d'⟩↔a≤a'∧b≤b'∧d≤d':=comp_all
def sumBy (g:Item→Int) (l:List Item):Int:=(l.map g).sum
theorem sumBy_nil (g:Item→Int):sumBy g []=0:=rfl
theorem sumBy_cons (g:Item→Int) (x:Item) (l:List Item):sumBy g (x::l)=g x+sumBy g l:=by simp [sumBy]
theorem sumBy_append (g:Item→Int) (l m:List Item):sumBy g (l++m)=sumBy g l+sumBy g m:=by simp [sumBy]
theorem sumBy_nonneg {g:Item→Int}: ∀{l:List Item},(∀x∈l,0≤g x)→0≤sumBy g l
 |[],_=>by simp [sumBy_nil]
 |x::l,e=>by rw [sumBy_cons];have:=e x (by simp);have:=sumBy_nonneg (l:=l) (fun y hy=>e y (by simp [hy]));omega
theorem sumBy_le {g:Item→Int} {B:Int}: ∀{l:List Item},(∀x∈l,g x≤B)→sumBy g l≤B*l.length
  |[],_=>by simp [sumBy_nil]
  | x :: l, e => by
    rw [sumBy_cons];have:=e x (by simp);have:=sumBy_le (l:=l) (fun y hy=>e y (by simp [hy]))
    simp only [List.length_cons,Int.natCast_succ,Int.mul_add,Int.mul_one];omega
def csum (c:Comp) (l:List Item) (n:ByteArray):Int:=sumBy (fun y=>if y.f1=n then c.of y.f4 else 0) l
structure ItemOK (x:Item):Prop where
 name:x.f0≠⟨#[]⟩
 size:x.f0.size≤24
 lim:MayP x.f2
 own:MayP x.f3
 sub:MayP x.f4
 fit:LeP x.f4 x.f2
 ver:1≤x.f5∧x.f5≤9007199254740992
structure RightP (l:List Item):Prop where
 len:l.length≤120
 ok: ∀x∈l,ItemOK x
 sorted:l.Pairwise (fun x y=>lt x.f0 y.f0=true)
 par: ∀x∈l,x.f1=⟨#[]⟩∨ ∃y,look l x.f1=some y
 sum: ∀c:Comp,∀x∈l,c.of x.f4=c.of x.f3+csum c l x.f0
 chain: ∀x∈l,∃us,Chain l x.f0 us
theorem sorted_nodup {l:List Item} (h:l.Pairwise (fun x y=>lt x.f0 y.f0=true)):(l.map (·.f0)).Nodup:=by
 rw [List.Nodup,List.pairwise_map]
 exact h.imp (fun hxy=>lt_ne hxy)
theorem RightP.nodup {l:List Item} (h:RightP l):(l.map (·.f0)).Nodup:=sorted_nodup h.sorted
theorem look_of_mem {l:List Item} (hn:(l.map (·.f0)).Nodup) {x:Item} (hx:x∈l):look l x.f0=some x:=by
  induction l with
  |nil=>cases hx
  | cons y l ih =>
    rw [List.map_cons,List.nodup_cons] at hn
    unfold look
    rw [List.find?_cons]
    rcases List.mem_cons.1 hx with rfl|hx
    · simp
    have:y.f0≠x.f0:=fun e=>hn.1 (by rw [e];exact List.mem_map_of_mem hx)
    simp only [this,decide_false]
    exact ih hn.2 hx
theorem RightP.look {l:List Item} (h:RightP l) {x:Item} (hx:x∈l):look l x.f0=some x:=look_of_mem h.nodup hx
theorem look_map {f:Item→Item} (hf: ∀x,(f x).f0=x.f0) (l:List Item) (n:ByteArray):look (l.map f) n=(look l n).map f:=by
 unfold look
 rw [List.find?_map]
 congr 2
 funext x
 simp [hf]
theorem Chain.map {f:Item→Item} (hf: ∀x,(f x).f0=x.f0) (hp: ∀x,(f x).f1=x.f1) {l:List Item} {n:ByteArray} {us:List ByteArray} (h:Chain l n us):Chain (l.map f) n us:=by
 induction h with
 |nil h=>exact .nil (by rw [look_map hf,h];rfl)
 |@cons n x us h k ih=>exact .cons (x:=f x) (by rw [look_map hf,h];rfl) (by rw [hp];exact ih)
end Go.Proofs.Ytcgefpklljclgaa.Print

namespace Go.Proofs.Ytcgefpklljclgaa.Print
open Go.RowKit Go.Proofs.YtcgefpklljclgaaW.PrintWords Go.Proofs.YtcgefpklljclgaaW.PrintLast Go.Proofs.YtcgefpklljclgaaW.PrintMore
attribute [local go_sem] max2_int min2_int max_two min_two max_three min_three max_four min_four

end Go.Proofs.Ytcgefpklljclgaa.Print

namespace Go.Proofs.Ytcgefpklljclgaa.Print
open Go.RowKit Go.Proofs.YtcgefpklljclgaaW.PrintWords Go.Proofs.YtcgefpklljclgaaW.PrintLast
theorem r10_Le_eq (a b d a' b' d':Int):r10_Le.f a b d a' b' d'=some (decide (LeP ⟨a,b,d⟩ ⟨a',b',d'⟩)):=by
 unfold r10_Le.f
 by_cases h0:a≤a'<;>by_cases h1:b≤b'<;>simp [h0,h1,leP_iff]
theorem r10_unit_eq (a:Int):r10_unit.f a=some (decide (0≤a∧a≤1099511627776)):=by
  unfold r10_unit.f
  by_cases h0:0≤a
  · rw [if_pos (by omega)];simp [h0]
  rw [if_neg (by omega)];simp [h0]
theorem r10_MayVec_eq (a b d:Int):r10_MayVec.f a b d=some (decide (MayP ⟨a,b,d⟩)):=by
 unfold r10_MayVec.f
 simp only [r10_unit_eq,Option.bind_some]
 by_cases h0:0≤a∧a≤1099511627776<;>by_cases h1:0≤b∧b≤1099511627776<;>simp [h0,h1,mayP_iff]
theorem r10_MayName_eq (n:ByteArray):r10_MayName.f n=some (decide (n≠⟨#[]⟩∧n.size≤24)):=by
  unfold r10_MayName.f
  by_cases h:n=⟨#[]⟩
  · rw [if_pos (nm_empty.2 h)];simp [h]
  rw [if_neg (fun q=>h (nm_empty.1 q))];simp [h];omega
theorem r10_Find_l0 (l:List Item) (n:ByteArray) (hl:l.length<1000000): ∀(d i:Nat),l.length - i=d→i≤l.length→
    Ev (fun k=>r10_Find.l0 k l n i) (fidx (fun x:Item=>x.f0.toList==n.toList) (l.drop i) i)
  | 0, i, hd, hi => by
    obtain rfl:i=l.length:=by omega
    refine Ev.step (f:=fun _=>some (-1)) (fun k=> ?_) (by rw [List.drop_length];exact Ev.now _)
    simp only [r10_Find.l0]
    rw [if_neg (by omega)]
  | d + 1, i, hd, hi => by
    have hlt:i<l.length:=by omega
    rw [fidx_drop _ zItem l i hlt]
    have hrd:rd_T31 l (i:Int)=l.getD i zItem:=by rw [rd_item,Int.toNat_natCast]
    by_cases e:(l.getD i zItem).f0.toList=n.toList
    · rw [if_pos (beq_iff_eq.2 e)]
      refine Ev.step (f:=fun _=>some (i:Int)) (fun k=> ?_) (Ev.now _)
      simp only [r10_Find.l0]
      rw [if_pos (by omega),if_pos (by omega),hrd,if_pos e]
    rw [if_neg (fun q=>e (beq_iff_eq.1 q))]
    refine Ev.step (f:=fun k=>r10_Find.l0 k l n ((i+1:Nat):Int)) (fun k=> ?_) (r10_Find_l0 l n hl d (i+1) (by omega) (by omega))
    simp only [r10_Find.l0]
    rw [if_pos (by omega),if_pos (by omega),hrd,if_neg e,w64 (by omega) (by omega)]
    rfl
theorem r10_Find_ev (l:List Item) (n:ByteArray) (hl:l.length<1000000):Ev (fun k=>r10_Find.f k l n) (fnd l n):=r10_Find_l0 l n hl _ 0 rfl (by omega)
theorem r10_Up_l0 (l:List Item) (hl:l.length<1000000): ∀(m:Nat) (n:ByteArray) (out:List ByteArray),out.length+m=l.length+1→
    Ev (fun k=>r10_Up.l0 k l out (fnd l n)) (out++upGo l m n)
  | 0, n, out, hm => by
    rw [upGo.eq_1,List.append_nil]
    refine Ev.step (f:=fun _=>some out) (fun k=> ?_) (Ev.now _)
    simp only [r10_Up.l0]
    by_cases h:0≤fnd l n
    · rw [if_pos h,if_neg (by omega)]
    rw [if_neg h]
  | m + 1, n, out, hm => by
    cases h:look l n with
    | none =>
      rw [upGo_none h,List.append_nil]
      refine Ev.step (f:=fun _=>some out) (fun k=> ?_) (Ev.now _)
      simp only [r10_Up.l0]
      rw [fnd_none h,if_neg (by omega)]
    | some x =>
      rw [upGo_some h]
      have h0:=fnd_ge.2 ⟨x,h⟩
      have h1:=fnd_lt l n
      obtain ⟨hx,hn⟩:=look_mem h
      refine Ev.step (f:=fun k=>(r10_Find.f k l x.f1).bind fun t=>r10_Up.l0 k l (out++ [n]) t) (fun k=> ?_) (Ev.bind (r10_Find_ev l x.f1 hl) ?_)
      · simp only [r10_Up.l0]
        rw [if_pos h0,if_pos (by omega),if_pos h0,if_pos h1,if_pos (by omega),fnd_rd h,hn]
      have:=r10_Up_l0 l hl m x.f1 (out++ [n]) (by simp;omega)
      simpa using this
theorem r10_Up_ev (l:List Item) (n:ByteArray) (hl:l.length<1000000):Ev (fun k=>r10_Up.f k l n) (up l n):=
 Ev.bind (r10_Find_ev l n hl) (by have:=r10_Up_l0 l hl (l.length+1) n [] (by simp);rw [List.nil_append] at this;exact this)
def one (c:Int):ByteArray:=strOfNums [c]
structure MadeP (l:List Item):Prop where
 right:RightP l
 len:l.length≤24
 name: ∀x∈l,∃c:Int,97≤c∧c≤120∧x.f0=one c
 ver: ∀x∈l,x.f5=1
 lim: ∀x∈l,∀c:Comp,20≤c.of x.f2∧c.of x.f2≤275
end Go.Proofs.Ytcgefpklljclgaa.Print

namespace Go.Proofs.Ytcgefpklljclgaa.Print
open Go.RowKit Go.Proofs.YtcgefpklljclgaaW.PrintWords Go.Proofs.YtcgefpklljclgaaW.PrintLast Go.Proofs.YtcgefpklljclgaaW.PrintMore
attribute [local go_sem] max2_int min2_int max_two min_two max_three min_three max_four min_four

end Go.Proofs.Ytcgefpklljclgaa.Print

namespace Go.Proofs.Ytcgefpklljclgaa.Print
open Go.RowKit Go.Proofs.YtcgefpklljclgaaW.PrintWords Go.Proofs.YtcgefpklljclgaaW.PrintLast Go.Proofs.YtcgefpklljclgaaW.PrintMore
def Ok1 (l:List Item) (i:Nat):Prop:=ItemOK (rd_T31 l i)∧(0<i→lt (rd_T31 l ((i:Int) - 1)).f0 (rd_T31 l i).f0=true)∧((rd_T31 l i).f1=⟨#[]⟩∨ ∃y,look l (rd_T31 l i).f1=some y)
def Ok2 (l:List Item) (i:Nat):Prop:=(∀c:Comp,c.of (rd_T31 l i).f4=c.of (rd_T31 l i).f3+csum c l (rd_T31 l i).f0)
def Ok3 (l:List Item) (i:Nat):Prop:=(up l (rd_T31 l i).f0).length≤l.length
theorem rd_get {l:List Item} {i:Nat} (h:i<l.length):rd_T31 l (i:Int)=l[i]:=by rw [rd_item,Int.toNat_natCast];simp [h]
theorem rd_mem {l:List Item} {i:Nat} (h:i<l.length):rd_T31 l (i:Int)∈l:=by rw [rd_get h];exact List.getElem_mem h
theorem rightP_iff (l:List Item):RightP l↔l.length≤120∧(∀i,i<l.length→Ok1 l i)∧(∀i,i<l.length→Ok2 l i)∧(∀i,i<l.length→Ok3 l i):=by
  constructor
  · intro h
    refine ⟨h.len,fun i hi=>⟨h.ok _ (rd_mem hi),fun h0=> ?_,h.par _ (rd_mem hi)⟩,fun i hi c=>h.sum c _ (rd_mem hi),fun i hi=>up_len_iff.2 (h.chain _ (rd_mem hi))⟩
    have:=List.pairwise_iff_getElem.1 h.sorted (i - 1) i (by omega) hi (by omega)
    rw [show ((i:Int) - 1)=((i - 1:Nat):Int) from by omega,rd_get (show i - 1<l.length by omega),rd_get hi]
    exact this
  rintro ⟨h1,h2,h3,h4⟩
  have hx: ∀x∈l,∃i,i<l.length∧rd_T31 l (i:Int)=x:=fun x hx=>by
    obtain ⟨i,hi,e⟩:=List.getElem_of_mem hx
    exact ⟨i,hi,by rw [rd_get hi];exact e⟩
  refine ⟨h1,fun x hx'=> ?_, ?_,fun x hx'=> ?_,fun c x hx'=> ?_,fun x hx'=> ?_⟩
  · obtain ⟨i, hi, rfl⟩ := hx x hx'
    exact (h2 i hi).1
  · rw [List.pairwise_iff_getElem]
    intro i j hi hj hij
    have step: ∀d:Nat,∀hd:i+1+d<l.length,lt l[i].f0 (l[i+1+d]).f0=true:=by
      intro d
      induction d with
      | zero =>
        intro hd
        have:=(h2 (i+1) (by omega)).2.1 (by omega)
        rw [show (((i+1:Nat):Int) - 1)=(i:Int) from by omega,rd_get hi,rd_get (show i+1<l.length by omega)] at this
        exact this
      | succ d ih =>
        intro hd
        have:=(h2 (i+1+(d+1)) hd).2.1 (by omega)
        rw [show (((i+1+(d+1):Nat):Int) - 1)=((i+1+d:Nat):Int) from by omega,rd_get (show i+1+d<l.length by omega),rd_get hd] at this
        exact lt_trans (ih (by omega)) this
    have:=step (j - (i+1)) (by omega)
    simpa [show i+1+(j - (i+1))=j by omega] using this
  · obtain ⟨i, hi, rfl⟩ := hx x hx'
    exact (h2 i hi).2.2
  · obtain ⟨i, hi, rfl⟩ := hx x hx'
    exact h3 i hi c
  obtain ⟨i,hi,rfl⟩:=hx x hx'
  exact up_len_iff.1 (h4 i hi)
end Go.Proofs.Ytcgefpklljclgaa.Print

namespace Go.Proofs.Ytcgefpklljclgaa.Print
open Go.RowKit Go.Proofs.YtcgefpklljclgaaW.PrintWords Go.Proofs.YtcgefpklljclgaaW.PrintLast Go.Proofs.YtcgefpklljclgaaW.PrintMore
attribute [local go_sem] max2_int min2_int max_two min_two max_three min_three max_four min_four

-- uses fidx
end Go.Proofs.Ytcgefpklljclgaa.Print

namespace Go.Proofs.Ytcgefpklljclgaa.Print
open Go.RowKit Go.Proofs.YtcgefpklljclgaaW.PrintWords Go.Proofs.YtcgefpklljclgaaW.PrintLast Go.Proofs.YtcgefpklljclgaaW.PrintMore
def addV (a:Vec) (ws:List Item):Vec:=⟨a.f0+sumBy (fun x=>x.f4.f0) ws,a.f1+sumBy (fun x=>x.f4.f1) ws,a.f2+sumBy (fun x=>x.f4.f2) ws⟩
theorem addV_nil (a:Vec):addV a []=a:=by unfold addV;simp [sumBy_nil]
def SmallV (a:Vec) (n:Nat):Prop:= ∀c:Comp,0≤c.of a∧c.of a≤1099511627776*n
theorem small_wrap {a b:Vec} {n:Nat} (ha:SmallV a n) (hb:MayP b) (hn:n≤1000):wrap64 (a.f0+b.f0)=(vadd a b).f0∧wrap64 (a.f1+b.f1)=(vadd a b).f1∧wrap64 (a.f2+b.f2)=(vadd a b).f2:=by
 have a0:=ha .cpu;have a1:=ha .mem;have a2:=ha .pods
 have b0:=hb .cpu;have b1:=hb .mem;have b2:=hb .pods
 simp only [Comp.of] at a0 a1 a2 b0 b1 b2
 exact ⟨w64 (by omega) (by omega),w64 (by omega) (by omega),w64 (by omega) (by omega)⟩
end Go.Proofs.Ytcgefpklljclgaa.Print

/- A part of the proof of ShapeAll: the machine's side by the kit's print, contracts and lemmas by this session. -/
import Derived.Test.YtcgefpklljclgaaProg
import Derived.Below
import Derived.Deep.Draws
import Derived.Deep.AppendLies
import Derived.Maps.AppendAt
import Derived.OwnWalk
import Derived.Laws.BytesArg
import Derived.Laws.MakeOwn
import Derived.Laws.OwnMore
import Derived.Deep.OwnRows
import Derived.Tactics
import Derived.Lib.ConvBytes
import Derived.Laws.Slices
import Derived.WalkKit
import Derived.KernelRfl
import Derived.RowKit3
import Derived.Deep.LoopGhost
import Derived.Deep.QuietTactic
import Derived.BigQuiet
import Derived.WideLaws
import Derived.Deep.DeepCutAuto
import Derived.Deep.CutBlock
import Derived.Deep.RegionHeld3
import Derived.Laws.Rows
import Derived.Lib.AppendStr
import Derived.ArgAppend
import Derived.Laws.IdiomCopy
import Derived.OrdersHeld
import Derived.Laws.BitsLemmas
import Derived.RowKit
import Derived.Laws.Cover1
import Derived.Test.YtcgefpklljclgaaBShapeAll0
namespace Go.Proofs.Ytcgefpklljclgaa.Print
open Go.RowKit Go.Proofs.YtcgefpklljclgaaW.PrintWords Go.Proofs.YtcgefpklljclgaaW.PrintLast Go.Proofs.YtcgefpklljclgaaW.PrintMore
attribute [local go_sem] max2_int min2_int max_two min_two max_three min_three max_four min_four   -- for this text's walks alone
set_option linter.unusedVariables false
set_option linter.unusedSimpArgs false



def errW:Option Int→Value
 |none=> .nilIface
 |some c=> .iface 0 (.int .i64 c)
theorem errW_none:errW none= .nilIface:=rfl
theorem errW_some (c:Int):errW (some c)= .iface 0 (.int .i64 c):=rfl

theorem info9:(Try.prog.info? 9).map (fun i=>(i.zero,i.size,i.bytes))=some (some (.string ⟨#[]⟩),1,16):=by kernel_rfl
theorem info31:(Try.prog.info? 31).map (fun i=>(i.zero,i.size,i.bytes))=some (some (.agg #[(.string ⟨#[]⟩),(.string ⟨#[]⟩),(.int .i64 0),(.int .i64 0),(.int .i64 0),(.int .i64 0),(.int .i64 0),(.int .i64 0),(.int .i64 0),(.int .i64 0),(.int .i64 0),(.int .i64 0)]),12,112):=by kernel_rfl
-- the values' own types
/-! #### struct type 27 -/
structure S27 where
 f0:Int
 f1:Int
 f2:Int
def z27:S27:=⟨(0:Int),(0:Int),(0:Int)⟩
def k27:Kd S27:=Kd.iso (Kd.pair (Kd.int .i64) (Kd.pair (Kd.int .i64) (Kd.int .i64))) (fun x:S27=>(x.f0,x.f1,x.f2))
theorem k27_open {w:World} {x:S27} {cs:List Value} (h:k27.K w x cs):cs=[.int .i64 x.f0, .int .i64 x.f1, .int .i64 x.f2]:=by
 obtain ⟨_,_,rfl,rfl,⟨_,_,rfl,rfl,rfl⟩⟩:=h
 exact rfl
theorem k27_openM {w:World} {base:Nat} {ok:Nat→Prop} {x:S27} {cs:List Value} (h:k27.M w base ok x cs):cs=[.int .i64 x.f0, .int .i64 x.f1, .int .i64 x.f2]:=by
 obtain ⟨_,_,rfl,rfl,⟨_,_,rfl,rfl,rfl⟩⟩:=h
 exact rfl
theorem k27_mk (w:World) (x:S27):k27.K w x [.int .i64 x.f0, .int .i64 x.f1, .int .i64 x.f2]:=⟨[.int .i64 x.f0],[.int .i64 x.f1, .int .i64 x.f2],rfl,rfl,⟨[.int .i64 x.f1],[.int .i64 x.f2],rfl,rfl,rfl⟩⟩
theorem k27_mkM (w:World) (base:Nat) (ok:Nat→Prop) (x:S27):k27.M w base ok x [.int .i64 x.f0, .int .i64 x.f1, .int .i64 x.f2]:=⟨[.int .i64 x.f0],[.int .i64 x.f1, .int .i64 x.f2],rfl,rfl,⟨[.int .i64 x.f1],[.int .i64 x.f2],rfl,rfl,rfl⟩⟩
def rd_T27 (xs:List S27) (i:Int):S27:=xs.getD i.toNat z27
theorem at_T27 {w:World} {A:Option Addr} {n:Nat} {xs:List S27} (h:Kd.C k27 w A n xs) (i:Int) (h0:0≤i) (h1:i<n): ∃ad,A=some ad∧w.cell? (ad.add (i.toNat*3))=some (.int .i64 (rd_T27 xs i).f0)∧w.cell? ⟨(ad.add (i.toNat*3)).block,(ad.add (i.toNat*3)).off+1,none⟩=some (.int .i64 (rd_T27 xs i).f1)∧w.cell? ⟨(ad.add (i.toNat*3)).block,(ad.add (i.toNat*3)).off+2,none⟩=some (.int .i64 (rd_T27 xs i).f2):=by
 obtain ⟨ad,c,e,_,hK,hc0⟩:=Kd.C_get h z27 i h0 h1
 have hc: ∀j u,c[j]?=some u→w.cell? (ad.add (i.toNat*3+j))=some u:=hc0
 obtain rfl:=k27_open hK
 exact ⟨ad,e,hc 0 _ rfl,by rw [←add_field _ _ 1 (by omega)];exact hc 1 _ rfl,by rw [←add_field _ _ 2 (by omega)];exact hc 2 _ rfl⟩

/-! #### struct type 31 -/
structure S31 where
 f0:ByteArray
 f1:ByteArray
 f2:S27
 f3:S27
 f4:S27
 f5:Int
def z31:S31:=⟨(⟨#[]⟩:ByteArray),(⟨#[]⟩:ByteArray),z27,z27,z27,(0:Int)⟩
def k31:Kd S31:=Kd.iso (Kd.pair Kd.string (Kd.pair Kd.string (Kd.pair k27 (Kd.pair k27 (Kd.pair k27 (Kd.int .i64)))))) (fun x:S31=>(x.f0,x.f1,x.f2,x.f3,x.f4,x.f5))
theorem k31_open {w:World} {x:S31} {cs:List Value} (h:k31.K w x cs):cs=[.string x.f0, .string x.f1, .int .i64 x.f2.f0, .int .i64 x.f2.f1, .int .i64 x.f2.f2, .int .i64 x.f3.f0, .int .i64 x.f3.f1, .int .i64 x.f3.f2, .int .i64 x.f4.f0, .int .i64 x.f4.f1, .int .i64 x.f4.f2, .int .i64 x.f5]:=by
 obtain ⟨_,_,rfl,rfl,⟨_,_,rfl,rfl,⟨_,_,rfl,s2,⟨_,_,rfl,s5,⟨_,_,rfl,s8,rfl⟩⟩⟩⟩⟩:=h
 obtain rfl:=k27_open s2
 obtain rfl:=k27_open s5
 obtain rfl:=k27_open s8
 exact rfl
theorem k31_openM {w:World} {base:Nat} {ok:Nat→Prop} {x:S31} {cs:List Value} (h:k31.M w base ok x cs):cs=[.string x.f0, .string x.f1, .int .i64 x.f2.f0, .int .i64 x.f2.f1, .int .i64 x.f2.f2, .int .i64 x.f3.f0, .int .i64 x.f3.f1, .int .i64 x.f3.f2, .int .i64 x.f4.f0, .int .i64 x.f4.f1, .int .i64 x.f4.f2, .int .i64 x.f5]:=by
 obtain ⟨_,_,rfl,rfl,⟨_,_,rfl,rfl,⟨_,_,rfl,s2,⟨_,_,rfl,s5,⟨_,_,rfl,s8,rfl⟩⟩⟩⟩⟩:=h
 obtain rfl:=k27_openM s2
 obtain rfl:=k27_openM s5
 obtain rfl:=k27_openM s8
 exact rfl
theorem k31_mk (w:World) (x:S31):k31.K w x [.string x.f0, .string x.f1, .int .i64 x.f2.f0, .int .i64 x.f2.f1, .int .i64 x.f2.f2, .int .i64 x.f3.f0, .int .i64 x.f3.f1, .int .i64 x.f3.f2, .int .i64 x.f4.f0, .int .i64 x.f4.f1, .int .i64 x.f4.f2, .int .i64 x.f5]:=⟨[.string x.f0],[.string x.f1, .int .i64 x.f2.f0, .int .i64 x.f2.f1, .int .i64 x.f2.f2, .int .i64 x.f3.f0, .int .i64 x.f3.f1, .int .i64 x.f3.f2, .int .i64 x.f4.f0, .int .i64 x.f4.f1, .int .i64 x.f4.f2, .int .i64 x.f5],rfl,rfl,⟨[.string x.f1],[.int .i64 x.f2.f0, .int .i64 x.f2.f1, .int .i64 x.f2.f2, .int .i64 x.f3.f0, .int .i64 x.f3.f1, .int .i64 x.f3.f2, .int .i64 x.f4.f0, .int .i64 x.f4.f1, .int .i64 x.f4.f2, .int .i64 x.f5],rfl,rfl,⟨[.int .i64 x.f2.f0, .int .i64 x.f2.f1, .int .i64 x.f2.f2],[.int .i64 x.f3.f0, .int .i64 x.f3.f1, .int .i64 x.f3.f2, .int .i64 x.f4.f0, .int .i64 x.f4.f1, .int .i64 x.f4.f2, .int .i64 x.f5],rfl,(k27_mk w x.f2),⟨[.int .i64 x.f3.f0, .int .i64 x.f3.f1, .int .i64 x.f3.f2],[.int .i64 x.f4.f0, .int .i64 x.f4.f1, .int .i64 x.f4.f2, .int .i64 x.f5],rfl,(k27_mk w x.f3),⟨[.int .i64 x.f4.f0, .int .i64 x.f4.f1, .int .i64 x.f4.f2],[.int .i64 x.f5],rfl,(k27_mk w x.f4),rfl⟩⟩⟩⟩⟩
theorem k31_mkM (w:World) (base:Nat) (ok:Nat→Prop) (x:S31):k31.M w base ok x [.string x.f0, .string x.f1, .int .i64 x.f2.f0, .int .i64 x.f2.f1, .int .i64 x.f2.f2, .int .i64 x.f3.f0, .int .i64 x.f3.f1, .int .i64 x.f3.f2, .int .i64 x.f4.f0, .int .i64 x.f4.f1, .int .i64 x.f4.f2, .int .i64 x.f5]:=⟨[.string x.f0],[.string x.f1, .int .i64 x.f2.f0, .int .i64 x.f2.f1, .int .i64 x.f2.f2, .int .i64 x.f3.f0, .int .i64 x.f3.f1, .int .i64 x.f3.f2, .int .i64 x.f4.f0, .int .i64 x.f4.f1, .int .i64 x.f4.f2, .int .i64 x.f5],rfl,rfl,⟨[.string x.f1],[.int .i64 x.f2.f0, .int .i64 x.f2.f1, .int .i64 x.f2.f2, .int .i64 x.f3.f0, .int .i64 x.f3.f1, .int .i64 x.f3.f2, .int .i64 x.f4.f0, .int .i64 x.f4.f1, .int .i64 x.f4.f2, .int .i64 x.f5],rfl,rfl,⟨[.int .i64 x.f2.f0, .int .i64 x.f2.f1, .int .i64 x.f2.f2],[.int .i64 x.f3.f0, .int .i64 x.f3.f1, .int .i64 x.f3.f2, .int .i64 x.f4.f0, .int .i64 x.f4.f1, .int .i64 x.f4.f2, .int .i64 x.f5],rfl,(k27_mkM w base ok x.f2),⟨[.int .i64 x.f3.f0, .int .i64 x.f3.f1, .int .i64 x.f3.f2],[.int .i64 x.f4.f0, .int .i64 x.f4.f1, .int .i64 x.f4.f2, .int .i64 x.f5],rfl,(k27_mkM w base ok x.f3),⟨[.int .i64 x.f4.f0, .int .i64 x.f4.f1, .int .i64 x.f4.f2],[.int .i64 x.f5],rfl,(k27_mkM w base ok x.f4),rfl⟩⟩⟩⟩⟩
def rd_T31 (xs:List S31) (i:Int):S31:=xs.getD i.toNat z31
theorem at_T31 {w:World} {A:Option Addr} {n:Nat} {xs:List S31} (h:Kd.C k31 w A n xs) (i:Int) (h0:0≤i) (h1:i<n): ∃ad,A=some ad∧w.cell? (ad.add (i.toNat*12))=some (.string (rd_T31 xs i).f0)∧w.cell? ⟨(ad.add (i.toNat*12)).block,(ad.add (i.toNat*12)).off+1,none⟩=some (.string (rd_T31 xs i).f1)∧w.cell? ⟨(ad.add (i.toNat*12)).block,(ad.add (i.toNat*12)).off+2,none⟩=some (.int .i64 (rd_T31 xs i).f2.f0)∧w.cell? ⟨(ad.add (i.toNat*12)).block,(ad.add (i.toNat*12)).off+3,none⟩=some (.int .i64 (rd_T31 xs i).f2.f1)∧w.cell? ⟨(ad.add (i.toNat*12)).block,(ad.add (i.toNat*12)).off+4,none⟩=some (.int .i64 (rd_T31 xs i).f2.f2)∧w.cell? ⟨(ad.add (i.toNat*12)).block,(ad.add (i.toNat*12)).off+5,none⟩=some (.int .i64 (rd_T31 xs i).f3.f0)∧w.cell? ⟨(ad.add (i.toNat*12)).block,(ad.add (i.toNat*12)).off+6,none⟩=some (.int .i64 (rd_T31 xs i).f3.f1)∧w.cell? ⟨(ad.add (i.toNat*12)).block,(ad.add (i.toNat*12)).off+7,none⟩=some (.int .i64 (rd_T31 xs i).f3.f2)∧w.cell? ⟨(ad.add (i.toNat*12)).block,(ad.add (i.toNat*12)).off+8,none⟩=some (.int .i64 (rd_T31 xs i).f4.f0)∧w.cell? ⟨(ad.add (i.toNat*12)).block,(ad.add (i.toNat*12)).off+9,none⟩=some (.int .i64 (rd_T31 xs i).f4.f1)∧w.cell? ⟨(ad.add (i.toNat*12)).block,(ad.add (i.toNat*12)).off+10,none⟩=some (.int .i64 (rd_T31 xs i).f4.f2)∧w.cell? ⟨(ad.add (i.toNat*12)).block,(ad.add (i.toNat*12)).off+11,none⟩=some (.int .i64 (rd_T31 xs i).f5):=by
 obtain ⟨ad,c,e,_,hK,hc0⟩:=Kd.C_get h z31 i h0 h1
 have hc: ∀j u,c[j]?=some u→w.cell? (ad.add (i.toNat*12+j))=some u:=hc0
 obtain rfl:=k31_open hK
 exact ⟨ad,e,hc 0 _ rfl,by rw [←add_field _ _ 1 (by omega)];exact hc 1 _ rfl,by rw [←add_field _ _ 2 (by omega)];exact hc 2 _ rfl,by rw [←add_field _ _ 3 (by omega)];exact hc 3 _ rfl,by rw [←add_field _ _ 4 (by omega)];exact hc 4 _ rfl,by rw [←add_field _ _ 5 (by omega)];exact hc 5 _ rfl,by rw [←add_field _ _ 6 (by omega)];exact hc 6 _ rfl,by rw [←add_field _ _ 7 (by omega)];exact hc 7 _ rfl,by rw [←add_field _ _ 8 (by omega)];exact hc 8 _ rfl,by rw [←add_field _ _ 9 (by omega)];exact hc 9 _ rfl,by rw [←add_field _ _ 10 (by omega)];exact hc 10 _ rfl,by rw [←add_field _ _ 11 (by omega)];exact hc 11 _ rfl⟩

/-! #### struct type 37 -/
structure S37 where
 f0:ByteArray
 f1:Int
/-! #### struct type 54 -/
structure S54 where
 f0:ByteArray
 f1:ByteArray
 f2:S27
 f3:Int
/-! #### struct type 180 -/
structure S180 where
 f0:ByteArray
 f1:ByteArray
 f2:S27
/-! #### struct type 58 -/
structure S58 where
 f0:Int
 f1:ByteArray
 f2:ByteArray
 f3:S27
end Go.Proofs.Ytcgefpklljclgaa.Print

namespace Go.Proofs.Ytcgefpklljclgaa.Print
open Go.RowKit Go.Proofs.YtcgefpklljclgaaW.PrintWords Go.Proofs.YtcgefpklljclgaaW.PrintLast Go.Proofs.YtcgefpklljclgaaW.PrintMore
attribute [local go_sem] max2_int min2_int max_two min_two max_three min_three max_four min_four   -- for this text's walks alone
set_option linter.unusedVariables false
set_option linter.unusedSimpArgs false

theorem eqA27 (d:Nat) (w:World) (x0 y0:Int) (x1 y1:Int) (x2 y2:Int):
  (Op.equalIn (d+2) 27 (.agg #[.int .i64 x0, .int .i64 x1, .int .i64 x2]) (.agg #[.int .i64 y0, .int .i64 y1, .int .i64 y2])).run Try.prog w= .ok (x0==y0 && (x1==y1 && (x2==y2))) w:=by
 refine eqA_of Try.underlying27 (by kernel_rfl) ?_
 refine eqf_cons (by rfl) (by go_simp;rfl) (by go_simp;rfl) (by go_simp) ?_
 refine eqf_cons (by rfl) (by go_simp;rfl) (by go_simp;rfl) (by go_simp) ?_
 exact eqf_last (by rfl) (by go_simp;rfl) (by go_simp;rfl) (by go_simp)
end Go.Proofs.Ytcgefpklljclgaa.Print

namespace Go.Proofs.Ytcgefpklljclgaa.Print
open Go.RowKit Go.Proofs.YtcgefpklljclgaaW.PrintWords Go.Proofs.YtcgefpklljclgaaW.PrintLast Go.Proofs.YtcgefpklljclgaaW.PrintMore
attribute [local go_sem] max2_int min2_int max_two min_two max_three min_three max_four min_four   -- for this text's walks alone
set_option linter.unusedVariables false
set_option linter.unusedSimpArgs false

/-! ### r10_Le: function 34 -/
def r10_Le.f (a0_0:Int) (a0_1:Int) (a0_2:Int) (a1_0:Int) (a1_1:Int) (a1_2:Int):Option (Bool):=if a0_0≤a1_0 then (if a0_1≤a1_1 then (some (decide (a0_2≤a1_2))) else (some false)) else (some false)
set_option maxHeartbeats 8000000 in
set_option maxRecDepth 100000 in
theorem r10_Le.calls (a0_0:Int) (a0_1:Int) (a0_2:Int) (a1_0:Int) (a1_1:Int) (a1_2:Int) (r:Bool) (w:World) (h:r10_Le.f a0_0 a0_1 a0_2 a1_0 a1_1 a1_2=some r):
  Calls Try.prog 34 #[.agg #[.int .i64 a0_0, .int .i64 a0_1, .int .i64 a0_2], .agg #[.int .i64 a1_0, .int .i64 a1_1, .int .i64 a1_2]] w fun e w'=>e= .returned (.bool r)∧Below w.heap.size w w':=by
 have hu27:=Try.underlying27
 have HB:=am_ (Below.refl w.heap.size w)
 have H:(if a0_0≤a1_0 then (if a0_1≤a1_1 then (some (decide (a0_2≤a1_2))) else (some false)) else (some false))=some r:=h
 clear h
 by_cases c3:a0_0≤a1_0
 ·rw [if_pos c3] at H
  have c3b0:decide (a0_0≤a1_0)=true:=decide_eq_true c3
  clear c3
  by_cases c4:a0_1≤a1_1
  ·rw [if_pos c4] at H
   have c4b0:decide (a0_1≤a1_1)=true:=decide_eq_true c4
   clear c4
   obtain rfl:=Option.some.inj H
   go_enter Try.func34,Try.ntmps34
   go_wp2_with (first|((with_reducible refine gate_dst (N:=2) rfl ?_);refine box_event ?hg (N:=2) ?hd (cs:=#[.int .i64 a0_0, .int .i64 a0_1, .int .i64 a0_2]) (t:=27) ?hr ?_;(case hd=>rfl);(case hg=>rfl);(case hr=>first|(go_simp;done)|(go_simp;rfl));intro gb1 hg w5 hbox hb;have n0_:=am_ (below_step (zl0_ HB) hb);have n1_:=am_ (hbox);have n2_:=am_ ((zg0_ HB hg:w.heap.size≤gb1));have n3_:=am_ ((zg0_ HB hg:w.heap.size≤gb1));clear HB;have HB:=n0_;have BK1:=n1_;have GW1:=n2_;have GE1:=n3_;clear n0_ n1_ n2_ n3_;clear hb hbox hg)|((with_reducible refine gate_dst (N:=3) rfl ?_);refine box_event ?hg (N:=3) ?hd (cs:=#[.int .i64 a1_0, .int .i64 a1_1, .int .i64 a1_2]) (t:=27) ?hr ?_;(case hd=>rfl);(case hg=>rfl);(case hr=>first|(go_simp;done)|(go_simp;rfl));intro gb2 hg w6 hbox hb;have n0_:=am_ (blk_below (zb_ BK1) hb);have n1_:=am_ (below_step (zl1_ HB GE1) hb);have n2_:=am_ (hbox);have n3_:=am_ ((zg1_ HB GE1 hg:w.heap.size≤gb2));have n4_:=am_ ((zg1_ HB GE1 hg:w.heap.size≤gb2));have n5_:=am_ ((zn_ BK1 hg:gb1≠gb2));have n6_:=am_ ((zm_ BK1 hg:gb2≠gb1));clear BK1;clear HB;have BK1:=n0_;have HB:=n1_;have BK2:=n2_;have GW2:=n3_;have GE2:=n4_;have NB1_2:=n5_;have NB2_1:=n6_;clear n0_ n1_ n2_ n3_ n4_ n5_ n6_;clear hb hbox hg;have hnb7:=NB1_2.out;have hnc7:=NB2_1.out;have hcz8_0:w6.cell? ⟨gb1,0,none⟩=some (.int .i64 a0_0):=(blk_cell BK1.out 0).trans rfl;have hcz8_1:w6.cell? ⟨gb1,1,none⟩=some (.int .i64 a0_1):=(blk_cell BK1.out 1).trans rfl;have hcz8_2:w6.cell? ⟨gb1,2,none⟩=some (.int .i64 a0_2):=(blk_cell BK1.out 2).trans rfl;have hfz8_0:=blk_frozen BK1.out 0;have hfz8_1:=blk_frozen BK1.out 1;have hfz8_2:=blk_frozen BK1.out 2;have hcz9_0:w6.cell? ⟨gb2,0,none⟩=some (.int .i64 a1_0):=(blk_cell BK2.out 0).trans rfl;have hcz9_1:w6.cell? ⟨gb2,1,none⟩=some (.int .i64 a1_1):=(blk_cell BK2.out 1).trans rfl;have hcz9_2:w6.cell? ⟨gb2,2,none⟩=some (.int .i64 a1_2):=(blk_cell BK2.out 2).trans rfl;have hfz9_0:=blk_frozen BK2.out 0;have hfz9_1:=blk_frozen BK2.out 1;have hfz9_2:=blk_frozen BK2.out 2))
   go_ret
   exact ⟨by first|rfl|(simp [errW_none,errW_some]<;>rfl)|(simp [*,errW_none,errW_some]<;>rfl),zl2_ HB GE1 GE2⟩
  ·rw [if_neg c4] at H
   have c4b0:decide (a0_1≤a1_1)=false:=decide_eq_false c4
   clear c4
   obtain rfl:=Option.some.inj H
   go_enter Try.func34,Try.ntmps34
   go_wp2_with (first|((with_reducible refine gate_dst (N:=2) rfl ?_);refine box_event ?hg (N:=2) ?hd (cs:=#[.int .i64 a0_0, .int .i64 a0_1, .int .i64 a0_2]) (t:=27) ?hr ?_;(case hd=>rfl);(case hg=>rfl);(case hr=>first|(go_simp;done)|(go_simp;rfl));intro gb1 hg w10 hbox hb;have n0_:=am_ (below_step (zl0_ HB) hb);have n1_:=am_ (hbox);have n2_:=am_ ((zg0_ HB hg:w.heap.size≤gb1));have n3_:=am_ ((zg0_ HB hg:w.heap.size≤gb1));clear HB;have HB:=n0_;have BK1:=n1_;have GW1:=n2_;have GE1:=n3_;clear n0_ n1_ n2_ n3_;clear hb hbox hg)|((with_reducible refine gate_dst (N:=3) rfl ?_);refine box_event ?hg (N:=3) ?hd (cs:=#[.int .i64 a1_0, .int .i64 a1_1, .int .i64 a1_2]) (t:=27) ?hr ?_;(case hd=>rfl);(case hg=>rfl);(case hr=>first|(go_simp;done)|(go_simp;rfl));intro gb2 hg w11 hbox hb;have n0_:=am_ (blk_below (zb_ BK1) hb);have n1_:=am_ (below_step (zl1_ HB GE1) hb);have n2_:=am_ (hbox);have n3_:=am_ ((zg1_ HB GE1 hg:w.heap.size≤gb2));have n4_:=am_ ((zg1_ HB GE1 hg:w.heap.size≤gb2));have n5_:=am_ ((zn_ BK1 hg:gb1≠gb2));have n6_:=am_ ((zm_ BK1 hg:gb2≠gb1));clear BK1;clear HB;have BK1:=n0_;have HB:=n1_;have BK2:=n2_;have GW2:=n3_;have GE2:=n4_;have NB1_2:=n5_;have NB2_1:=n6_;clear n0_ n1_ n2_ n3_ n4_ n5_ n6_;clear hb hbox hg;have hnb12:=NB1_2.out;have hnc12:=NB2_1.out;have hcz13_0:w11.cell? ⟨gb1,0,none⟩=some (.int .i64 a0_0):=(blk_cell BK1.out 0).trans rfl;have hcz13_1:w11.cell? ⟨gb1,1,none⟩=some (.int .i64 a0_1):=(blk_cell BK1.out 1).trans rfl;have hcz13_2:w11.cell? ⟨gb1,2,none⟩=some (.int .i64 a0_2):=(blk_cell BK1.out 2).trans rfl;have hfz13_0:=blk_frozen BK1.out 0;have hfz13_1:=blk_frozen BK1.out 1;have hfz13_2:=blk_frozen BK1.out 2;have hcz14_0:w11.cell? ⟨gb2,0,none⟩=some (.int .i64 a1_0):=(blk_cell BK2.out 0).trans rfl;have hcz14_1:w11.cell? ⟨gb2,1,none⟩=some (.int .i64 a1_1):=(blk_cell BK2.out 1).trans rfl;have hcz14_2:w11.cell? ⟨gb2,2,none⟩=some (.int .i64 a1_2):=(blk_cell BK2.out 2).trans rfl;have hfz14_0:=blk_frozen BK2.out 0;have hfz14_1:=blk_frozen BK2.out 1;have hfz14_2:=blk_frozen BK2.out 2))
   go_ret
   exact ⟨by first|rfl|(simp [errW_none,errW_some]<;>rfl)|(simp [*,errW_none,errW_some]<;>rfl),zl2_ HB GE1 GE2⟩
 ·rw [if_neg c3] at H
  have c3b0:decide (a0_0≤a1_0)=false:=decide_eq_false c3
  clear c3
  obtain rfl:=Option.some.inj H
  go_enter Try.func34,Try.ntmps34
  go_wp2_with (first|((with_reducible refine gate_dst (N:=2) rfl ?_);refine box_event ?hg (N:=2) ?hd (cs:=#[.int .i64 a0_0, .int .i64 a0_1, .int .i64 a0_2]) (t:=27) ?hr ?_;(case hd=>rfl);(case hg=>rfl);(case hr=>first|(go_simp;done)|(go_simp;rfl));intro gb1 hg w15 hbox hb;have n0_:=am_ (below_step (zl0_ HB) hb);have n1_:=am_ (hbox);have n2_:=am_ ((zg0_ HB hg:w.heap.size≤gb1));have n3_:=am_ ((zg0_ HB hg:w.heap.size≤gb1));clear HB;have HB:=n0_;have BK1:=n1_;have GW1:=n2_;have GE1:=n3_;clear n0_ n1_ n2_ n3_;clear hb hbox hg)|((with_reducible refine gate_dst (N:=3) rfl ?_);refine box_event ?hg (N:=3) ?hd (cs:=#[.int .i64 a1_0, .int .i64 a1_1, .int .i64 a1_2]) (t:=27) ?hr ?_;(case hd=>rfl);(case hg=>rfl);(case hr=>first|(go_simp;done)|(go_simp;rfl));intro gb2 hg w16 hbox hb;have n0_:=am_ (blk_below (zb_ BK1) hb);have n1_:=am_ (below_step (zl1_ HB GE1) hb);have n2_:=am_ (hbox);have n3_:=am_ ((zg1_ HB GE1 hg:w.heap.size≤gb2));have n4_:=am_ ((zg1_ HB GE1 hg:w.heap.size≤gb2));have n5_:=am_ ((zn_ BK1 hg:gb1≠gb2));have n6_:=am_ ((zm_ BK1 hg:gb2≠gb1));clear BK1;clear HB;have BK1:=n0_;have HB:=n1_;have BK2:=n2_;have GW2:=n3_;have GE2:=n4_;have NB1_2:=n5_;have NB2_1:=n6_;clear n0_ n1_ n2_ n3_ n4_ n5_ n6_;clear hb hbox hg;have hnb17:=NB1_2.out;have hnc17:=NB2_1.out;have hcz18_0:w16.cell? ⟨gb1,0,none⟩=some (.int .i64 a0_0):=(blk_cell BK1.out 0).trans rfl;have hcz18_1:w16.cell? ⟨gb1,1,none⟩=some (.int .i64 a0_1):=(blk_cell BK1.out 1).trans rfl;have hcz18_2:w16.cell? ⟨gb1,2,none⟩=some (.int .i64 a0_2):=(blk_cell BK1.out 2).trans rfl;have hfz18_0:=blk_frozen BK1.out 0;have hfz18_1:=blk_frozen BK1.out 1;have hfz18_2:=blk_frozen BK1.out 2;have hcz19_0:w16.cell? ⟨gb2,0,none⟩=some (.int .i64 a1_0):=(blk_cell BK2.out 0).trans rfl;have hcz19_1:w16.cell? ⟨gb2,1,none⟩=some (.int .i64 a1_1):=(blk_cell BK2.out 1).trans rfl;have hcz19_2:w16.cell? ⟨gb2,2,none⟩=some (.int .i64 a1_2):=(blk_cell BK2.out 2).trans rfl;have hfz19_0:=blk_frozen BK2.out 0;have hfz19_1:=blk_frozen BK2.out 1;have hfz19_2:=blk_frozen BK2.out 2))
  go_ret
  exact ⟨by first|rfl|(simp [errW_none,errW_some]<;>rfl)|(simp [*,errW_none,errW_some]<;>rfl),zl2_ HB GE1 GE2⟩

end Go.Proofs.Ytcgefpklljclgaa.Print

namespace Go.Proofs.Ytcgefpklljclgaa.Print
open Go.RowKit Go.Proofs.YtcgefpklljclgaaW.PrintWords Go.Proofs.YtcgefpklljclgaaW.PrintLast Go.Proofs.YtcgefpklljclgaaW.PrintMore
attribute [local go_sem] max2_int min2_int max_two min_two max_three min_three max_four min_four   -- for this text's walks alone
set_option linter.unusedVariables false
set_option linter.unusedSimpArgs false

/-! ### r10_Find: function 50 -/
def r10_Find.l0:Nat→List (S31)→ByteArray→Int→Option (Int)
 |0,_,_,_=>none
 |k+1,x0,x1,x5=>if x5<(x0.length:Int) then (if 0≤x5 then (if ((rd_T31 x0 x5).f0).toList=x1.toList then (some x5) else (r10_Find.l0 k x0 x1 (wrap64 (x5+1)))) else (none)) else (some (-1))
def r10_Find.f (k:Nat) (l0:List (S31)) (a1:ByteArray):Option (Int):=r10_Find.l0 k l0 a1 0
theorem r10_Find.mono_l: ∀k,(∀y0 y1 y2,LeO (r10_Find.l0 k y0 y1 y2) (r10_Find.l0 (k+1) y0 y1 y2))
 |0=>fun _ _ _ r h=>by simp [r10_Find.l0] at h
 |k+1=>by
  have ih0:=r10_Find.mono_l k
  ·intro y0 y1 y2
   unfold r10_Find.l0
   repeat' first
   |(with_reducible exact ih0 _ _ _)
   |(with_reducible exact LeO.refl _)
   |(with_reducible exact LeO.none _)
   |(with_reducible refine LeO.ite ?_ ?_)
   |(with_reducible refine LeO.bind ?_ (fun _=> ?_))
   |exact ih0 _ _ _
   |exact LeO.none _
   |refine LeO.ite ?_ ?_
   |refine LeO.bind ?_ (fun _=> ?_)
theorem r10_Find.mono: ∀a0 a1 k,LeO (r10_Find.f k a0 a1) (r10_Find.f (k+1) a0 a1):=by
 intro a0 a1 k
 have ih0:=r10_Find.mono_l k
 unfold r10_Find.f
 repeat' first
  |(with_reducible exact ih0 _ _ _)
  |(with_reducible exact LeO.refl _)
  |(with_reducible exact LeO.none _)
  |(with_reducible refine LeO.ite ?_ ?_)
  |(with_reducible refine LeO.bind ?_ (fun _=> ?_))
  |exact ih0 _ _ _
  |exact LeO.none _
  |refine LeO.ite ?_ ?_
  |refine LeO.bind ?_ (fun _=> ?_)
set_option maxHeartbeats 8000000 in
set_option maxRecDepth 100000 in
theorem r10_Find.calls (k:Nat) (A0:Option Addr) (c0:Nat) (l0:List (S31)) (a1:ByteArray) (r:Int) (w:World) (hr0:Kd.C k31 w A0 l0.length l0) (hc0:l0.length≤c0) (h:r10_Find.f k l0 a1=some r):
  Calls Try.prog 50 #[.slice A0 l0.length c0, .string a1] w fun e w'=>e= .returned (.int .i64 r)∧Drawn0 w w':=by
 have HR0:=Aside0.mk hr0
 have HC0:=Aside0.mk hc0
 clear hr0 hc0
 have H:(r10_Find.l0 k l0 a1 0)=some r:=h
 clear h
 have H':=Aside0.mk H
 clear H
 go_enter Try.func50,Try.ntmps50
 go_wp2
 go_loopg [5] k (fun kq v5 w'=> ∃(x5_1:Int),v5= .int .i64 x5_1∧Aside0 (r10_Find.l0 kq l0 a1 x5_1=some r)∧Aside0 (kq≤k)∧Drawn0 w w')
 case atStart=>exact ⟨(0),(by first|rfl|(simp;done)|(simp [*];done)),H',⟨Nat.le_refl _⟩,by repeat (first|exact Drawn0.refl _|apply Drawn0.step)⟩
 case round=>
  clear H'
  try clear p2
  obtain ⟨x5_1,rfl,HA,HK1,⟨m1,rfl⟩⟩:=hrel
  cases gk with
  |zero=>exact absurd HA.out (by simp [r10_Find.l0])
  |succ k1=>
   have H:=HA.out
   clear HA
   simp only [r10_Find.l0] at H
   by_cases c3:x5_1<(l0.length:Int)
   ·rw [if_pos c3] at H
    have c3b0:decide (x5_1<(l0.length:Int))=true:=decide_eq_true c3
    clear c3
    by_cases c4:0≤x5_1
    ·rw [if_pos c4] at H
     have c4b0:decide (0≤x5_1)=true:=decide_eq_true c4
     clear c4
     by_cases c5:((rd_T31 l0 x5_1).f0).toList=a1.toList
     ·rw [if_pos c5] at H
      have c5b0:(((rd_T31 l0 x5_1).f0).toList==a1.toList)=true:=beq_iff_eq.mpr c5
      have c5b1:(((rd_T31 l0 x5_1).f0).toList !=a1.toList)=false:=bne_eq_false_iff_eq.mpr c5
      clear c5
      obtain rfl:=Option.some.inj H
      have p1:0≤(x5_1:Int):=of_decide_eq_true zq_
      have q1:x5_1<(l0.length:Int):=of_decide_eq_true zq_
      obtain ⟨ad1,e1,hx1_0,hx1_1,hx1_2,hx1_3,hx1_4,hx1_5,hx1_6,hx1_7,hx1_8,hx1_9,hx1_10,hx1_11⟩:=at_T31 HR0.out x5_1 p1 q1
      cases e1
      replace p1:=eq_true p1
      replace q1:=eq_true q1
      go_wp2
      go_ret
      exact ⟨by first|rfl|(simp;done)|(simp [*];done),by repeat (first|exact Drawn0.refl _|apply Drawn0.step)⟩
     ·rw [if_neg c5] at H
      have c5b0:(((rd_T31 l0 x5_1).f0).toList==a1.toList)=false:=beq_eq_false_iff_ne.mpr c5
      have c5b1:(((rd_T31 l0 x5_1).f0).toList !=a1.toList)=true:=bne_iff_ne.mpr c5
      have H':=Aside0.mk H
      clear H
      have p1:0≤(x5_1:Int):=of_decide_eq_true zq_
      have q1:x5_1<(l0.length:Int):=of_decide_eq_true zq_
      obtain ⟨ad1,e1,hx1_0,hx1_1,hx1_2,hx1_3,hx1_4,hx1_5,hx1_6,hx1_7,hx1_8,hx1_9,hx1_10,hx1_11⟩:=at_T31 HR0.out x5_1 p1 q1
      cases e1
      replace p1:=eq_true p1
      replace q1:=eq_true q1
      go_wp2
      go_roundg k1
      case measure=>have:=HK1.out;omega
      case rel=>exact ⟨(wrap64 (x5_1+1)),(by first|rfl|(simp;done)|(simp [*];done)),H',⟨by have:=HK1.out;omega⟩,by repeat (first|exact Drawn0.refl _|apply Drawn0.step)⟩
    ·rw [if_neg c4] at H
     exact absurd H (by simp)
   ·rw [if_neg c3] at H
    have c3b0:decide (x5_1<(l0.length:Int))=false:=decide_eq_false c3
    clear c3
    obtain rfl:=Option.some.inj H
    go_wp2
    go_ret
    exact ⟨by first|rfl|(simp;done)|(simp [*];done),by repeat (first|exact Drawn0.refl _|apply Drawn0.step)⟩

end Go.Proofs.Ytcgefpklljclgaa.Print

namespace Go.Proofs.Ytcgefpklljclgaa.Print
open Go.RowKit Go.Proofs.YtcgefpklljclgaaW.PrintWords Go.Proofs.YtcgefpklljclgaaW.PrintLast Go.Proofs.YtcgefpklljclgaaW.PrintMore
attribute [local go_sem] max2_int min2_int max_two min_two max_three min_three max_four min_four   -- for this text's walks alone
set_option linter.unusedVariables false
set_option linter.unusedSimpArgs false

/-! ### r10_Add: function 63 -/
def r10_Add.f (a0_0:Int) (a0_1:Int) (a0_2:Int) (a1_0:Int) (a1_1:Int) (a1_2:Int):Option (Int×Int×Int):=some (wrap64 (a0_0+a1_0),wrap64 (a0_1+a1_1),wrap64 (a0_2+a1_2))
set_option maxHeartbeats 8000000 in
set_option maxRecDepth 100000 in
theorem r10_Add.calls (a0_0:Int) (a0_1:Int) (a0_2:Int) (a1_0:Int) (a1_1:Int) (a1_2:Int) (r1:Int) (r2:Int) (r3:Int) (w:World) (h:r10_Add.f a0_0 a0_1 a0_2 a1_0 a1_1 a1_2=some (r1,r2,r3)):
  Calls Try.prog 63 #[.agg #[.int .i64 a0_0, .int .i64 a0_1, .int .i64 a0_2], .agg #[.int .i64 a1_0, .int .i64 a1_1, .int .i64 a1_2]] w fun e w'=>e= .returned (.agg #[.int .i64 r1, .int .i64 r2, .int .i64 r3])∧Below w.heap.size w w':=by
 have hu27:=Try.underlying27
 have HB:=am_ (Below.refl w.heap.size w)
 have H:(some (wrap64 (a0_0+a1_0),wrap64 (a0_1+a1_1),wrap64 (a0_2+a1_2)))=some (r1,r2,r3):=h
 clear h
 simp only [Option.some.injEq,Prod.mk.injEq] at H
 obtain ⟨rfl,rfl,rfl⟩:=H
 go_enter Try.func63,Try.ntmps63
 go_wp2_with (first|((with_reducible refine gate_dst (N:=2) rfl ?_);refine box_event ?hg (N:=2) ?hd (cs:=#[.int .i64 a0_0, .int .i64 a0_1, .int .i64 a0_2]) (t:=27) ?hr ?_;(case hd=>rfl);(case hg=>rfl);(case hr=>first|(go_simp;done)|(go_simp;rfl));intro gb1 hg w3 hbox hb;have n0_:=am_ (below_step (zl0_ HB) hb);have n1_:=am_ (hbox);have n2_:=am_ ((zg0_ HB hg:w.heap.size≤gb1));have n3_:=am_ ((zg0_ HB hg:w.heap.size≤gb1));clear HB;have HB:=n0_;have BK1:=n1_;have GW1:=n2_;have GE1:=n3_;clear n0_ n1_ n2_ n3_;clear hb hbox hg)|((with_reducible refine gate_dst (N:=3) rfl ?_);refine box_event ?hg (N:=3) ?hd (cs:=#[.int .i64 a1_0, .int .i64 a1_1, .int .i64 a1_2]) (t:=27) ?hr ?_;(case hd=>rfl);(case hg=>rfl);(case hr=>first|(go_simp;done)|(go_simp;rfl));intro gb2 hg w4 hbox hb;have n0_:=am_ (blk_below (zb_ BK1) hb);have n1_:=am_ (below_step (zl1_ HB GE1) hb);have n2_:=am_ (hbox);have n3_:=am_ ((zg1_ HB GE1 hg:w.heap.size≤gb2));have n4_:=am_ ((zg1_ HB GE1 hg:w.heap.size≤gb2));have n5_:=am_ ((zn_ BK1 hg:gb1≠gb2));have n6_:=am_ ((zm_ BK1 hg:gb2≠gb1));clear BK1;clear HB;have BK1:=n0_;have HB:=n1_;have BK2:=n2_;have GW2:=n3_;have GE2:=n4_;have NB1_2:=n5_;have NB2_1:=n6_;clear n0_ n1_ n2_ n3_ n4_ n5_ n6_;clear hb hbox hg)|((with_reducible refine gate_dst (N:=4) rfl ?_);refine box_event ?hg (N:=4) ?hd (cs:=#[.int .i64 0, .int .i64 0, .int .i64 0]) (t:=27) ?hr ?_;(case hd=>rfl);(case hg=>rfl);(case hr=>first|(go_simp;done)|(go_simp;rfl));intro gb3 hg w5 hbox hb;have n0_:=am_ (blk_below (zb_ BK1) hb);have n1_:=am_ (blk_below (zb_ BK2) hb);have n2_:=am_ (below_step (zl2_ HB GE1 GE2) hb);have n3_:=am_ (hbox);have n4_:=am_ ((zg2_ HB GE1 GE2 hg:w.heap.size≤gb3));have n5_:=am_ ((zg2_ HB GE1 GE2 hg:w.heap.size≤gb3));have n6_:=am_ ((zn_ BK1 hg:gb1≠gb3));have n7_:=am_ ((zm_ BK1 hg:gb3≠gb1));have n8_:=am_ ((zn_ BK2 hg:gb2≠gb3));have n9_:=am_ ((zm_ BK2 hg:gb3≠gb2));clear BK1;clear BK2;clear HB;have BK1:=n0_;have BK2:=n1_;have HB:=n2_;have BK3:=n3_;have GW3:=n4_;have GE3:=n5_;have NB1_3:=n6_;have NB3_1:=n7_;have NB2_3:=n8_;have NB3_2:=n9_;clear n0_ n1_ n2_ n3_ n4_ n5_ n6_ n7_ n8_ n9_;clear hb hbox hg;have hnb6:=NB1_2.out;have hnc6:=NB2_1.out;have hnb7:=NB1_3.out;have hnc7:=NB3_1.out;have hcz8_0:w5.cell? ⟨gb1,0,none⟩=some (.int .i64 a0_0):=(blk_cell BK1.out 0).trans rfl;have hcz8_1:w5.cell? ⟨gb1,1,none⟩=some (.int .i64 a0_1):=(blk_cell BK1.out 1).trans rfl;have hcz8_2:w5.cell? ⟨gb1,2,none⟩=some (.int .i64 a0_2):=(blk_cell BK1.out 2).trans rfl;have hfz8_0:=blk_frozen BK1.out 0;have hfz8_1:=blk_frozen BK1.out 1;have hfz8_2:=blk_frozen BK1.out 2;have hnb9:=NB2_3.out;have hnc9:=NB3_2.out;have hcz10_0:w5.cell? ⟨gb2,0,none⟩=some (.int .i64 a1_0):=(blk_cell BK2.out 0).trans rfl;have hcz10_1:w5.cell? ⟨gb2,1,none⟩=some (.int .i64 a1_1):=(blk_cell BK2.out 1).trans rfl;have hcz10_2:w5.cell? ⟨gb2,2,none⟩=some (.int .i64 a1_2):=(blk_cell BK2.out 2).trans rfl;have hfz10_0:=blk_frozen BK2.out 0;have hfz10_1:=blk_frozen BK2.out 1;have hfz10_2:=blk_frozen BK2.out 2;have hcz11_0:w5.cell? ⟨gb3,0,none⟩=some (.int .i64 0):=(blk_cell BK3.out 0).trans rfl;have hcz11_1:w5.cell? ⟨gb3,1,none⟩=some (.int .i64 0):=(blk_cell BK3.out 1).trans rfl;have hcz11_2:w5.cell? ⟨gb3,2,none⟩=some (.int .i64 0):=(blk_cell BK3.out 2).trans rfl;have hfz11_0:=blk_frozen BK3.out 0;have hfz11_1:=blk_frozen BK3.out 1;have hfz11_2:=blk_frozen BK3.out 2))
 refine bodyPost_ret (results_cell_row rfl _ _ gb3 27 #[.int .i64 (wrap64 (a0_0+a1_0)), .int .i64 (wrap64 (a0_1+a1_1)), .int .i64 (wrap64 (a0_2+a1_2))] (0,0) _ rfl (by refine zk_ ?_;refine blk_put (cs:=#[.int .i64 (wrap64 (a0_0+a1_0)), .int .i64 (wrap64 (a0_1+a1_1)), .int .i64 0]) ?_ 2 _ rfl;refine zk_ ?_;refine blk_put (cs:=#[.int .i64 (wrap64 (a0_0+a1_0)), .int .i64 0, .int .i64 0]) ?_ 1 _ rfl;refine zk_ ?_;refine blk_put (cs:=#[.int .i64 0, .int .i64 0, .int .i64 0]) ?_ 0 _ rfl;refine zk_ ?_;exact BK3.out) Try.underlying27 rfl (by kernel_rfl)) rfl ?_
 exact ⟨by first|rfl|(simp [errW_none,errW_some]<;>rfl)|(simp [*,errW_none,errW_some]<;>rfl),zl3_ HB GE1 GE2 GE3⟩

end Go.Proofs.Ytcgefpklljclgaa.Print

namespace Go.Proofs.Ytcgefpklljclgaa.Print
open Go.RowKit Go.Proofs.YtcgefpklljclgaaW.PrintWords Go.Proofs.YtcgefpklljclgaaW.PrintLast Go.Proofs.YtcgefpklljclgaaW.PrintMore
attribute [local go_sem] max2_int min2_int max_two min_two max_three min_three max_four min_four   -- for this text's walks alone
set_option linter.unusedVariables false
set_option linter.unusedSimpArgs false

/-! ### r10_unit: function 123 -/
def r10_unit.f (a0:Int):Option (Bool):=if a0≥0 then (some (decide (a0≤1099511627776))) else (some false)
set_option maxHeartbeats 8000000 in
set_option maxRecDepth 100000 in
theorem r10_unit.calls (a0:Int) (r:Bool) (w:World) (h:r10_unit.f a0=some r):
  Calls Try.prog 123 #[.int .i64 a0] w fun e w'=>e= .returned (.bool r)∧Drawn0 w w':=by
 have H:(if a0≥0 then (some (decide (a0≤1099511627776))) else (some false))=some r:=h
 clear h
 by_cases c2:a0≥0
 ·rw [if_pos c2] at H
  have c2b0:decide (0≤a0)=true:=decide_eq_true c2
  clear c2
  obtain rfl:=Option.some.inj H
  go_enter Try.func123,Try.ntmps123
  go_wp2
  go_ret
  exact ⟨by first|rfl|(simp;done)|(simp [*];done),by repeat (first|exact Drawn0.refl _|apply Drawn0.step)⟩
 ·rw [if_neg c2] at H
  have c2b0:decide (0≤a0)=false:=decide_eq_false c2
  clear c2
  obtain rfl:=Option.some.inj H
  go_enter Try.func123,Try.ntmps123
  go_wp2
  go_ret
  exact ⟨by first|rfl|(simp;done)|(simp [*];done),by repeat (first|exact Drawn0.refl _|apply Drawn0.step)⟩

end Go.Proofs.Ytcgefpklljclgaa.Print

namespace Go.Proofs.Ytcgefpklljclgaa.Print
open Go.RowKit Go.Proofs.YtcgefpklljclgaaW.PrintWords Go.Proofs.YtcgefpklljclgaaW.PrintLast Go.Proofs.YtcgefpklljclgaaW.PrintMore
attribute [local go_sem] max2_int min2_int max_two min_two max_three min_three max_four min_four   -- for this text's walks alone
set_option linter.unusedVariables false
set_option linter.unusedSimpArgs false

/-! ### r10_MayVec: function 65 -/
def r10_MayVec.f (a0_0:Int) (a0_1:Int) (a0_2:Int):Option (Bool):=(r10_unit.f a0_0).bind fun t2=>(if t2=true then ((r10_unit.f a0_1).bind fun t3=>(if t3=true then ((r10_unit.f a0_2).bind fun t4=>(some t4)) else (some false))) else (some false))
set_option maxHeartbeats 8000000 in
set_option maxRecDepth 100000 in
theorem r10_MayVec.calls (a0_0:Int) (a0_1:Int) (a0_2:Int) (r:Bool) (w:World) (h:r10_MayVec.f a0_0 a0_1 a0_2=some r):
  Calls Try.prog 65 #[.agg #[.int .i64 a0_0, .int .i64 a0_1, .int .i64 a0_2]] w fun e w'=>e= .returned (.bool r)∧Below w.heap.size w w':=by
 have hu27:=Try.underlying27
 have HB:=am_ (Below.refl w.heap.size w)
 have H:((r10_unit.f a0_0).bind fun t2=>(if t2=true then ((r10_unit.f a0_1).bind fun t3=>(if t3=true then ((r10_unit.f a0_2).bind fun t4=>(some t4)) else (some false))) else (some false)))=some r:=h
 clear h
 replace H:=Option.bind_eq_some_iff.mp H
 obtain ⟨t2,A20,H⟩:=H
 replace H:(if t2=true then ((r10_unit.f a0_1).bind fun t3=>(if t3=true then ((r10_unit.f a0_2).bind fun t4=>(some t4)) else (some false))) else (some false))=some r:=H
 have A2:=Aside0.mk A20
 clear A20
 by_cases c3:t2=true
 ·subst c3
  have H1:((r10_unit.f a0_1).bind fun t3=>(if t3=true then ((r10_unit.f a0_2).bind fun t4=>(some t4)) else (some false)))=some r:=by rw [if_pos rfl] at H;exact H
  clear H
  have H:=H1
  clear H1
  replace H:=Option.bind_eq_some_iff.mp H
  obtain ⟨t3,A40,H⟩:=H
  replace H:(if t3=true then ((r10_unit.f a0_2).bind fun t4=>(some t4)) else (some false))=some r:=H
  have A4:=Aside0.mk A40
  clear A40
  by_cases c5:t3=true
  ·subst c5
   have H1:((r10_unit.f a0_2).bind fun t4=>(some t4))=some r:=by rw [if_pos rfl] at H;exact H
   clear H
   have H:=H1
   clear H1
   replace H:=Option.bind_eq_some_iff.mp H
   obtain ⟨t4,A60,H⟩:=H
   replace H:(some t4)=some r:=H
   have A6:=Aside0.mk A60
   clear A60
   obtain rfl:=Option.some.inj H
   go_enter Try.func65,Try.ntmps65
   go_wp2_with (first|((with_reducible refine gate_dst (N:=1) rfl ?_);refine box_event ?hg (N:=1) ?hd (cs:=#[.int .i64 a0_0, .int .i64 a0_1, .int .i64 a0_2]) (t:=27) ?hr ?_;(case hd=>rfl);(case hg=>rfl);(case hr=>first|(go_simp;done)|(go_simp;rfl));intro gb1 hg w7 hbox hb;have n0_:=am_ (below_step (zl0_ HB) hb);have n1_:=am_ (hbox);have n2_:=am_ ((zg0_ HB hg:w.heap.size≤gb1));have n3_:=am_ ((zg0_ HB hg:w.heap.size≤gb1));clear HB;have HB:=n0_;have BK1:=n1_;have GW1:=n2_;have GE1:=n3_;clear n0_ n1_ n2_ n3_;clear hb hbox hg;have hcz8_0:w7.cell? ⟨gb1,0,none⟩=some (.int .i64 a0_0):=(blk_cell BK1.out 0).trans rfl;have hcz8_1:w7.cell? ⟨gb1,1,none⟩=some (.int .i64 a0_1):=(blk_cell BK1.out 1).trans rfl;have hcz8_2:w7.cell? ⟨gb1,2,none⟩=some (.int .i64 a0_2):=(blk_cell BK1.out 2).trans rfl;have hfz8_0:=blk_frozen BK1.out 0;have hfz8_1:=blk_frozen BK1.out 1;have hfz8_2:=blk_frozen BK1.out 2)|((with_reducible refine gate_callee (f:=123) rfl ?_);refine goesL_ (some 5) rfl rfl Try.func123 (by kernel_rfl) rfl #[.int .i64 a0_0] rfl zs_ ?_;(with_reducible refine (r10_unit.calls a0_0 true _ A2.out).mono ?_);rintro e w' ⟨rfl,⟨nd,rfl⟩⟩;refine ⟨_,rfl, ?_⟩)|(go_at_call 123;(with_reducible refine (r10_unit.calls a0_1 true _ A4.out).mono ?_);rintro e w' ⟨rfl,⟨nd,rfl⟩⟩)|(go_at_call 123;(with_reducible refine (r10_unit.calls a0_2 t4 _ A6.out).mono ?_);rintro e w' ⟨rfl,⟨nd,rfl⟩⟩))
   go_ret
   exact ⟨by first|rfl|(simp [errW_none,errW_some]<;>rfl)|(simp [*,errW_none,errW_some]<;>rfl),zl1_ HB GE1⟩
  ·replace c5:=Bool.eq_false_iff.mpr c5
   subst c5
   have H1:(some false)=some r:=by rw [if_neg (show¬(false=true) by decide)] at H;exact H
   clear H
   have H:=H1
   clear H1
   obtain rfl:=Option.some.inj H
   go_enter Try.func65,Try.ntmps65
   go_wp2_with (first|((with_reducible refine gate_dst (N:=1) rfl ?_);refine box_event ?hg (N:=1) ?hd (cs:=#[.int .i64 a0_0, .int .i64 a0_1, .int .i64 a0_2]) (t:=27) ?hr ?_;(case hd=>rfl);(case hg=>rfl);(case hr=>first|(go_simp;done)|(go_simp;rfl));intro gb1 hg w9 hbox hb;have n0_:=am_ (below_step (zl0_ HB) hb);have n1_:=am_ (hbox);have n2_:=am_ ((zg0_ HB hg:w.heap.size≤gb1));have n3_:=am_ ((zg0_ HB hg:w.heap.size≤gb1));clear HB;have HB:=n0_;have BK1:=n1_;have GW1:=n2_;have GE1:=n3_;clear n0_ n1_ n2_ n3_;clear hb hbox hg;have hcz10_0:w9.cell? ⟨gb1,0,none⟩=some (.int .i64 a0_0):=(blk_cell BK1.out 0).trans rfl;have hcz10_1:w9.cell? ⟨gb1,1,none⟩=some (.int .i64 a0_1):=(blk_cell BK1.out 1).trans rfl;have hcz10_2:w9.cell? ⟨gb1,2,none⟩=some (.int .i64 a0_2):=(blk_cell BK1.out 2).trans rfl;have hfz10_0:=blk_frozen BK1.out 0;have hfz10_1:=blk_frozen BK1.out 1;have hfz10_2:=blk_frozen BK1.out 2)|((with_reducible refine gate_callee (f:=123) rfl ?_);refine goesL_ (some 5) rfl rfl Try.func123 (by kernel_rfl) rfl #[.int .i64 a0_0] rfl zs_ ?_;(with_reducible refine (r10_unit.calls a0_0 true _ A2.out).mono ?_);rintro e w' ⟨rfl,⟨nd,rfl⟩⟩;refine ⟨_,rfl, ?_⟩)|(go_at_call 123;(with_reducible refine (r10_unit.calls a0_1 false _ A4.out).mono ?_);rintro e w' ⟨rfl,⟨nd,rfl⟩⟩))
   go_ret
   exact ⟨by first|rfl|(simp [errW_none,errW_some]<;>rfl)|(simp [*,errW_none,errW_some]<;>rfl),zl1_ HB GE1⟩
 ·replace c3:=Bool.eq_false_iff.mpr c3
  subst c3
  have H1:(some false)=some r:=by rw [if_neg (show¬(false=true) by decide)] at H;exact H
  clear H
  have H:=H1
  clear H1
  obtain rfl:=Option.some.inj H
  go_enter Try.func65,Try.ntmps65
  go_wp2_with (first|((with_reducible refine gate_dst (N:=1) rfl ?_);refine box_event ?hg (N:=1) ?hd (cs:=#[.int .i64 a0_0, .int .i64 a0_1, .int .i64 a0_2]) (t:=27) ?hr ?_;(case hd=>rfl);(case hg=>rfl);(case hr=>first|(go_simp;done)|(go_simp;rfl));intro gb1 hg w11 hbox hb;have n0_:=am_ (below_step (zl0_ HB) hb);have n1_:=am_ (hbox);have n2_:=am_ ((zg0_ HB hg:w.heap.size≤gb1));have n3_:=am_ ((zg0_ HB hg:w.heap.size≤gb1));clear HB;have HB:=n0_;have BK1:=n1_;have GW1:=n2_;have GE1:=n3_;clear n0_ n1_ n2_ n3_;clear hb hbox hg;have hcz12_0:w11.cell? ⟨gb1,0,none⟩=some (.int .i64 a0_0):=(blk_cell BK1.out 0).trans rfl;have hcz12_1:w11.cell? ⟨gb1,1,none⟩=some (.int .i64 a0_1):=(blk_cell BK1.out 1).trans rfl;have hcz12_2:w11.cell? ⟨gb1,2,none⟩=some (.int .i64 a0_2):=(blk_cell BK1.out 2).trans rfl;have hfz12_0:=blk_frozen BK1.out 0;have hfz12_1:=blk_frozen BK1.out 1;have hfz12_2:=blk_frozen BK1.out 2)|((with_reducible refine gate_callee (f:=123) rfl ?_);refine goesL_ (some 5) rfl rfl Try.func123 (by kernel_rfl) rfl #[.int .i64 a0_0] rfl zs_ ?_;(with_reducible refine (r10_unit.calls a0_0 false _ A2.out).mono ?_);rintro e w' ⟨rfl,⟨nd,rfl⟩⟩;refine ⟨_,rfl, ?_⟩))
  go_ret
  exact ⟨by first|rfl|(simp [errW_none,errW_some]<;>rfl)|(simp [*,errW_none,errW_some]<;>rfl),zl1_ HB GE1⟩

end Go.Proofs.Ytcgefpklljclgaa.Print

namespace Go.Proofs.Ytcgefpklljclgaa.Print
open Go.RowKit Go.Proofs.YtcgefpklljclgaaW.PrintWords Go.Proofs.YtcgefpklljclgaaW.PrintLast Go.Proofs.YtcgefpklljclgaaW.PrintMore
attribute [local go_sem] max2_int min2_int max_two min_two max_three min_three max_four min_four   -- for this text's walks alone
set_option linter.unusedVariables false
set_option linter.unusedSimpArgs false

/-! ### r10_MayName: function 105 -/
def r10_MayName.f (a0:ByteArray):Option (Bool):=if a0.toList=([]:List UInt8) then (some false) else (some (decide ((a0.size:Int)≤24)))
set_option maxHeartbeats 8000000 in
set_option maxRecDepth 100000 in
theorem r10_MayName.calls (a0:ByteArray) (r:Bool) (w:World) (h:r10_MayName.f a0=some r):
  Calls Try.prog 105 #[.string a0] w fun e w'=>e= .returned (.bool r)∧Drawn0 w w':=by
 have H:(if a0.toList=([]:List UInt8) then (some false) else (some (decide ((a0.size:Int)≤24))))=some r:=h
 clear h
 by_cases c2:a0.toList=([]:List UInt8)
 ·rw [if_pos c2] at H
  have c2b0:(a0.toList==([]:List UInt8))=true:=beq_iff_eq.mpr c2
  have c2b1:(a0.toList !=([]:List UInt8))=false:=bne_eq_false_iff_eq.mpr c2
  clear c2
  obtain rfl:=Option.some.inj H
  go_enter Try.func105,Try.ntmps105
  go_wp2
  go_ret
  exact ⟨by first|rfl|(simp;done)|(simp [*];done),by repeat (first|exact Drawn0.refl _|apply Drawn0.step)⟩
 ·rw [if_neg c2] at H
  have c2b0:(a0.toList==([]:List UInt8))=false:=beq_eq_false_iff_ne.mpr c2
  have c2b1:(a0.toList !=([]:List UInt8))=true:=bne_iff_ne.mpr c2
  obtain rfl:=Option.some.inj H
  go_enter Try.func105,Try.ntmps105
  go_wp2
  go_ret
  exact ⟨by first|rfl|(simp;done)|(simp [*];done),by repeat (first|exact Drawn0.refl _|apply Drawn0.step)⟩

end Go.Proofs.Ytcgefpklljclgaa.Print

namespace Go.Proofs.Ytcgefpklljclgaa.Print
open Go.RowKit Go.Proofs.YtcgefpklljclgaaW.PrintWords Go.Proofs.YtcgefpklljclgaaW.PrintLast Go.Proofs.YtcgefpklljclgaaW.PrintMore
attribute [local go_sem] max2_int min2_int max_two min_two max_three min_three max_four min_four   -- for this text's walks alone
set_option linter.unusedVariables false
set_option linter.unusedSimpArgs false

/-! ### r10_Up: function 106 -/
def r10_Up.l0:Nat→List (S31)→List ByteArray→Int→Option (List ByteArray)
 |0,_,_,_=>none
 |k+1,x0,x5,x6=>if x6≥0 then (if (x5.length:Int)≤(x0.length:Int) then (if 0≤x6 then (if x6<(x0.length:Int) then (if x5.length<8796093022208 then ((r10_Find.f k x0 ((rd_T31 x0 x6).f1)).bind fun t7=>(r10_Up.l0 k x0 (x5++ [(rd_T31 x0 x6).f0]) t7)) else (none)) else (none)) else (none)) else (some x5)) else (some x5)
def r10_Up.f (k:Nat) (l0:List (S31)) (a1:ByteArray):Option (List ByteArray):=(r10_Find.f k l0 a1).bind fun t1=>(r10_Up.l0 k l0 ([]:List ByteArray) t1)
theorem r10_Up.mono_l: ∀k,(∀y0 y1 y2,LeO (r10_Up.l0 k y0 y1 y2) (r10_Up.l0 (k+1) y0 y1 y2))
 |0=>fun _ _ _ r h=>by simp [r10_Up.l0] at h
 |k+1=>by
  have ih0:=r10_Up.mono_l k
  ·intro y0 y1 y2
   unfold r10_Up.l0
   repeat' first
   |(with_reducible exact ih0 _ _ _)
   |(with_reducible exact r10_Find.mono _ _ _)
   |(with_reducible exact LeO.refl _)
   |(with_reducible exact LeO.none _)
   |(with_reducible refine LeO.ite ?_ ?_)
   |(with_reducible refine LeO.bind ?_ (fun _=> ?_))
   |exact ih0 _ _ _
   |exact r10_Find.mono _ _ _
   |exact LeO.none _
   |refine LeO.ite ?_ ?_
   |refine LeO.bind ?_ (fun _=> ?_)
theorem r10_Up.mono: ∀a0 a1 k,LeO (r10_Up.f k a0 a1) (r10_Up.f (k+1) a0 a1):=by
 intro a0 a1 k
 have ih0:=r10_Up.mono_l k
 unfold r10_Up.f
 repeat' first
  |(with_reducible exact ih0 _ _ _)
  |(with_reducible exact r10_Find.mono _ _ _)
  |(with_reducible exact LeO.refl _)
  |(with_reducible exact LeO.none _)
  |(with_reducible refine LeO.ite ?_ ?_)
  |(with_reducible refine LeO.bind ?_ (fun _=> ?_))
  |exact ih0 _ _ _
  |exact r10_Find.mono _ _ _
  |exact LeO.none _
  |refine LeO.ite ?_ ?_
  |refine LeO.bind ?_ (fun _=> ?_)
set_option maxHeartbeats 8000000 in
set_option maxRecDepth 100000 in
theorem r10_Up.calls (k:Nat) (A0:Option Addr) (c0:Nat) (l0:List (S31)) (a1:ByteArray) (r:List ByteArray) (w:World) (hr0:Kd.C k31 w A0 l0.length l0) (hc0:l0.length≤c0) (h:r10_Up.f k l0 a1=some r):
  Calls Try.prog 106 #[.slice A0 l0.length c0, .string a1] w fun e w'=> ∃v0_:Value,e= .returned (v0_)∧Kd.R Kd.string 9 w' w.heap.size (fun _=>True) v0_ r∧Below w.heap.size w w':=by
 have HR0:=Aside0.mk hr0
 have HC0:=Aside0.mk hc0
 clear hr0 hc0
 have HB:=am_ (Below.refl w.heap.size w)
 have H:((r10_Find.f k l0 a1).bind fun t1=>(r10_Up.l0 k l0 ([]:List ByteArray) t1))=some r:=h
 clear h
 replace H:=Option.bind_eq_some_iff.mp H
 obtain ⟨t1,A30,H⟩:=H
 replace H:(r10_Up.l0 k l0 ([]:List ByteArray) t1)=some r:=H
 have A3:=Aside0.mk A30
 clear A30
 have H':=Aside0.mk H
 clear H
 go_enter Try.func106,Try.ntmps106
 go_wp2_with (first|((with_reducible refine gate_callee (f:=50) rfl ?_);refine goesL_ (some 9) rfl rfl Try.func50 (by kernel_rfl) rfl #[.slice A0 l0.length c0, .string a1] rfl zs_ ?_;(with_reducible refine (r10_Find.calls k _ _ l0 a1 t1 _ ?side1 ?side2 A3.out).mono ?_);(case side1=>repeat (first|exact HR0.out|(with_reducible refine Kd.C_alloc ?_ _)|(with_reducible refine Kd.C_drewN ?_ _)|(with_reducible refine Kd.C_drew ?_)));(case side2=>exact HC0.out);rintro e w' ⟨rfl,⟨nd,rfl⟩⟩;refine ⟨_,rfl, ?_⟩))
 go_loopg [5,6] k (fun kq v5 v6 w'=> ∃(x5_1:List ByteArray) (x6_1:Int),v6= .int .i64 x6_1∧Aside0 (r10_Up.l0 kq l0 x5_1 x6_1=some r)∧Aside0 (kq≤k)∧Aside0 (Kd.R Kd.string 9 w' w.heap.size (fun _=>True) v5 x5_1)∧Aside0 (Below w.heap.size w w'))
 case atStart=>exact ⟨(([]:List ByteArray)),(t1),(by first|rfl|(simp;done)|(simp [*];done)),H',⟨Nat.le_refl _⟩,⟨by first|exact Kd.R_nil _ _ _ _ _|exact Kd.N_nil _ _ _ _ _|exact Kd.V_nil _ _ _ _ _|exact Kd.Q_nil _ _ _ _ _|exact Kd.S_nil _ _ _ _ _⟩,⟨zl0_ HB⟩⟩
 case round=>
  clear H'
  try clear c1
  try clear p2
  obtain ⟨x5_1,x6_1,rfl,HA,HK1,HO_5,HB⟩:=hrel
  cases gk with
  |zero=>exact absurd HA.out (by simp [r10_Up.l0])
  |succ k1=>
   have H:=HA.out
   clear HA
   simp only [r10_Up.l0] at H
   by_cases c4:x6_1≥0
   ·rw [if_pos c4] at H
    have c4b0:decide (0≤x6_1)=true:=decide_eq_true c4
    clear c4
    by_cases c5:(x5_1.length:Int)≤(l0.length:Int)
    ·rw [if_pos c5] at H
     have c5b0:decide ((x5_1.length:Int)≤(l0.length:Int))=true:=decide_eq_true c5
     have c5b1:decide (x5_1.length≤l0.length)=true:=decide_eq_true (Int.ofNat_le.mp c5)
     clear c5
     by_cases c6:0≤x6_1
     ·rw [if_pos c6] at H
      have c6b0:decide (0≤x6_1)=true:=decide_eq_true c6
      clear c6
      by_cases c7:x6_1<(l0.length:Int)
      ·rw [if_pos c7] at H
       have c7b0:decide (x6_1<(l0.length:Int))=true:=decide_eq_true c7
       clear c7
       by_cases c8:x5_1.length<8796093022208
       ·rw [if_pos c8] at H
        have LMc8:=Aside0.mk c8
        clear c8
        obtain ⟨y3,hy3⟩: ∃y_:List ByteArray,y_=(x5_1++ [(rd_T31 l0 x6_1).f0]):=⟨_,rfl⟩
        replace H:((r10_Find.f k1 l0 ((rd_T31 l0 x6_1).f1)).bind fun t7=>(r10_Up.l0 k1 l0 y3 t7))=some r:=by first|(rw [hy3];with_reducible exact H)|(have H2_:=(Option.bind_some _ _).symm.trans H;rw [hy3];with_reducible exact H2_)|(have H2_:=(Option.bind_some _ _).symm.trans H;with_reducible exact H2_)|with_reducible exact H|(rw [hy3];exact H)|exact H
        have Ny3:=Aside0.mk hy3
        clear hy3
        replace H:=Option.bind_eq_some_iff.mp H
        obtain ⟨t7,A90,H⟩:=H
        replace H:(r10_Up.l0 k1 l0 y3 t7)=some r:=H
        have A9:=Aside0.mk A90
        clear A90
        have H':=Aside0.mk H
        clear H
        obtain ⟨Ao10,co10,eo10⟩:=Kd.R_slice HO_5.out
        subst eo10
        have p2:0≤(x6_1:Int):=of_decide_eq_true zq_
        have q2:x6_1<(l0.length:Int):=of_decide_eq_true zq_
        obtain ⟨ad2,e2,hx2_0,hx2_1,hx2_2,hx2_3,hx2_4,hx2_5,hx2_6,hx2_7,hx2_8,hx2_9,hx2_10,hx2_11⟩:=at_T31 HR0.out x6_1 p2 q2
        cases e2
        replace hx2_0:=zx_ HB hx2_0
        replace hx2_1:=zx_ HB hx2_1
        replace hx2_2:=zx_ HB hx2_2
        replace hx2_3:=zx_ HB hx2_3
        replace hx2_4:=zx_ HB hx2_4
        replace hx2_5:=zx_ HB hx2_5
        replace hx2_6:=zx_ HB hx2_6
        replace hx2_7:=zx_ HB hx2_7
        replace hx2_8:=zx_ HB hx2_8
        replace hx2_9:=zx_ HB hx2_9
        replace hx2_10:=zx_ HB hx2_10
        replace hx2_11:=zx_ HB hx2_11
        replace p2:=eq_true p2
        replace q2:=eq_true q2
        go_wp2_with (first|((with_reducible refine gate_builtin (b:= .append) (xs:=#[.tmp 26, .tmp 32]) rfl ?_);(try (refine gate_guard (by rfl) ?_;dsimp only));at_builtin;refine Kd.R_append Kd.string (w0:=w) w.heap.size rfl (.tmp 26) (.tmp 32) 74 9 (.string ⟨#[]⟩) 16 rfl Try.underlying74 info9 rfl (by decide) (by omega) (.slice Ao10 x5_1.length co10) x5_1 ((rd_T31 l0 x6_1).f0) [.string ((rd_T31 l0 x6_1).f0)] (fun _=>True) (fun _=>False) rfl rfl ?aP (fun _ hk=>hk.elim) ?aF ?aO ?aB ?aS ?aL ?_;(case aP=>exact rfl);(case aB=>exact (zl0_ HB));(case aF=>exact (fun _ _=>trivial));(case aO=>exact (zr_ HO_5));(case aS=>exact (below_size (zl0_ HB)));(case aL=>have:=LMc8.out;omega);intro v4 w11 ho hb hg hat;rw [←Ny3.out] at ho;have n0_:=am_ (hb);have n1_:=am_ (ho);clear HB;clear HO_5;have HB:=n0_;have HO5:=n1_;clear n0_ n1_;clear ho hb hg hat;have p6:0≤(x6_1:Int):=of_decide_eq_true zq_;have q6:x6_1<(l0.length:Int):=of_decide_eq_true zq_;obtain ⟨ad6,e6,hx6_0,hx6_1,hx6_2,hx6_3,hx6_4,hx6_5,hx6_6,hx6_7,hx6_8,hx6_9,hx6_10,hx6_11⟩:=at_T31 HR0.out x6_1 p6 q6;obtain rfl:ad2=ad6:=(by injection e6);replace hx6_0:=zx_ HB hx6_0;replace hx6_1:=zx_ HB hx6_1;replace hx6_2:=zx_ HB hx6_2;replace hx6_3:=zx_ HB hx6_3;replace hx6_4:=zx_ HB hx6_4;replace hx6_5:=zx_ HB hx6_5;replace hx6_6:=zx_ HB hx6_6;replace hx6_7:=zx_ HB hx6_7;replace hx6_8:=zx_ HB hx6_8;replace hx6_9:=zx_ HB hx6_9;replace hx6_10:=zx_ HB hx6_10;replace hx6_11:=zx_ HB hx6_11;replace p6:=eq_true p6;replace q6:=eq_true q6)|((with_reducible refine gate_callee (f:=50) rfl ?_);refine goesL_ (some 25) rfl rfl Try.func50 (by kernel_rfl) rfl #[.slice (some ad2) l0.length c0, .string ((rd_T31 l0 x6_1).f1)] rfl zs_ ?_;(with_reducible refine (r10_Find.calls k1 _ _ l0 ((rd_T31 l0 x6_1).f1) t7 _ ?side1 ?side2 A9.out).mono ?_);(case side1=>exact zc_ (Kd.C_below HR0.out HB.out));(case side2=>exact HC0.out);rintro e w' ⟨rfl,⟨nd,rfl⟩⟩;refine ⟨_,rfl, ?_⟩))
        go_roundg k1
        case measure=>have:=HK1.out;omega
        case rel=>exact ⟨(y3),(t7),(by first|rfl|(simp;done)|(simp [*];done)),H',⟨by have:=HK1.out;omega⟩,⟨by (with_reducible repeat (first|apply Kd.R_alloc|apply Kd.R_drewN|apply Kd.R_drew));exact HO5.out⟩,⟨zl0_ HB⟩⟩
       ·rw [if_neg c8] at H
        exact absurd H (by simp)
      ·rw [if_neg c7] at H
       exact absurd H (by simp)
     ·rw [if_neg c6] at H
      exact absurd H (by simp)
    ·rw [if_neg c5] at H
     have c5b0:decide ((x5_1.length:Int)≤(l0.length:Int))=false:=decide_eq_false c5
     have c5b1:decide (x5_1.length≤l0.length)=false:=decide_eq_false (fun h=>c5 (Int.ofNat_le.mpr h))
     clear c5
     obtain rfl:=Option.some.inj H
     obtain ⟨Ao12,co12,eo12⟩:=Kd.R_slice HO_5.out
     subst eo12
     go_wp2
     go_ret
     exact ⟨_,by first|rfl|(simp [errW_none,errW_some]<;>rfl)|(simp [*,errW_none,errW_some]<;>rfl),by (with_reducible repeat (first|apply Kd.R_alloc|apply Kd.R_drewN|apply Kd.R_drew));exact HO_5.out,zl0_ HB⟩
   ·rw [if_neg c4] at H
    have c4b0:decide (0≤x6_1)=false:=decide_eq_false c4
    clear c4
    obtain rfl:=Option.some.inj H
    go_wp2
    go_ret
    exact ⟨_,by first|rfl|(simp [errW_none,errW_some]<;>rfl)|(simp [*,errW_none,errW_some]<;>rfl),by (with_reducible repeat (first|apply Kd.R_alloc|apply Kd.R_drewN|apply Kd.R_drew));exact HO_5.out,zl0_ HB⟩

end Go.Proofs.Ytcgefpklljclgaa.Print

namespace Go.Proofs.Ytcgefpklljclgaa.Print
open Go.RowKit Go.Proofs.YtcgefpklljclgaaW.PrintWords Go.Proofs.YtcgefpklljclgaaW.PrintLast Go.Proofs.YtcgefpklljclgaaW.PrintMore
attribute [local go_sem] max2_int min2_int max_two min_two max_three min_three max_four min_four   -- for this text's walks alone
set_option linter.unusedVariables false
set_option linter.unusedSimpArgs false

attribute [local go_sem high] eqA27
mutual
def r10_Right.l0:Nat→List (S31)→Int→Option (Bool)
 |0,_,_=>none
 |k+1,x0,x3=>if x3<(x0.length:Int) then (if 0≤x3 then ((r10_MayName.f ((rd_T31 x0 x3).f0)).bind fun t3=>(if t3=true then (if x3>0 then (if 0≤(wrap64 (x3 - 1)) then (if (wrap64 (x3 - 1))<(x0.length:Int) then (if ((Op.bytesLess (((rd_T31 x0 (wrap64 (x3 - 1))).f0).toList) (((rd_T31 x0 x3).f0).toList))=true) then ((r10_MayVec.f ((rd_T31 x0 x3).f2.f0) ((rd_T31 x0 x3).f2.f1) ((rd_T31 x0 x3).f2.f2)).bind fun t5=>(if t5=true then ((r10_MayVec.f ((rd_T31 x0 x3).f3.f0) ((rd_T31 x0 x3).f3.f1) ((rd_T31 x0 x3).f3.f2)).bind fun t6=>(if t6=true then (if ((rd_T31 x0 x3).f1).toList=([]:List UInt8) then (if ((rd_T31 x0 x3).f5)<1 then (some false) else (if ((rd_T31 x0 x3).f5)>9007199254740992 then (some false) else ((r10_Le.f ((rd_T31 x0 x3).f4.f0) ((rd_T31 x0 x3).f4.f1) ((rd_T31 x0 x3).f4.f2) ((rd_T31 x0 x3).f2.f0) ((rd_T31 x0 x3).f2.f1) ((rd_T31 x0 x3).f2.f2)).bind fun t7=>(if t7=true then ((r10_MayVec.f ((rd_T31 x0 x3).f4.f0) ((rd_T31 x0 x3).f4.f1) ((rd_T31 x0 x3).f4.f2)).bind fun t8=>(if t8=true then (r10_Right.l0 k x0 (wrap64 (x3+1))) else (some false))) else (some false))))) else ((r10_Find.f k x0 ((rd_T31 x0 x3).f1)).bind fun t9=>(if t9<0 then (some false) else (if ((rd_T31 x0 x3).f5)<1 then (some false) else (if ((rd_T31 x0 x3).f5)>9007199254740992 then (some false) else ((r10_Le.f ((rd_T31 x0 x3).f4.f0) ((rd_T31 x0 x3).f4.f1) ((rd_T31 x0 x3).f4.f2) ((rd_T31 x0 x3).f2.f0) ((rd_T31 x0 x3).f2.f1) ((rd_T31 x0 x3).f2.f2)).bind fun t10=>(if t10=true then ((r10_MayVec.f ((rd_T31 x0 x3).f4.f0) ((rd_T31 x0 x3).f4.f1) ((rd_T31 x0 x3).f4.f2)).bind fun t11=>(if t11=true then (r10_Right.l0 k x0 (wrap64 (x3+1))) else (some false))) else (some false)))))))) else (some false))) else (some false))) else (some false)) else (none)) else (none)) else ((r10_MayVec.f ((rd_T31 x0 x3).f2.f0) ((rd_T31 x0 x3).f2.f1) ((rd_T31 x0 x3).f2.f2)).bind fun t12=>(if t12=true then ((r10_MayVec.f ((rd_T31 x0 x3).f3.f0) ((rd_T31 x0 x3).f3.f1) ((rd_T31 x0 x3).f3.f2)).bind fun t13=>(if t13=true then (if ((rd_T31 x0 x3).f1).toList=([]:List UInt8) then (if ((rd_T31 x0 x3).f5)<1 then (some false) else (if ((rd_T31 x0 x3).f5)>9007199254740992 then (some false) else ((r10_Le.f ((rd_T31 x0 x3).f4.f0) ((rd_T31 x0 x3).f4.f1) ((rd_T31 x0 x3).f4.f2) ((rd_T31 x0 x3).f2.f0) ((rd_T31 x0 x3).f2.f1) ((rd_T31 x0 x3).f2.f2)).bind fun t14=>(if t14=true then ((r10_MayVec.f ((rd_T31 x0 x3).f4.f0) ((rd_T31 x0 x3).f4.f1) ((rd_T31 x0 x3).f4.f2)).bind fun t15=>(if t15=true then (r10_Right.l0 k x0 (wrap64 (x3+1))) else (some false))) else (some false))))) else ((r10_Find.f k x0 ((rd_T31 x0 x3).f1)).bind fun t16=>(if t16<0 then (some false) else (if ((rd_T31 x0 x3).f5)<1 then (some false) else (if ((rd_T31 x0 x3).f5)>9007199254740992 then (some false) else ((r10_Le.f ((rd_T31 x0 x3).f4.f0) ((rd_T31 x0 x3).f4.f1) ((rd_T31 x0 x3).f4.f2) ((rd_T31 x0 x3).f2.f0) ((rd_T31 x0 x3).f2.f1) ((rd_T31 x0 x3).f2.f2)).bind fun t17=>(if t17=true then ((r10_MayVec.f ((rd_T31 x0 x3).f4.f0) ((rd_T31 x0 x3).f4.f1) ((rd_T31 x0 x3).f4.f2)).bind fun t18=>(if t18=true then (r10_Right.l0 k x0 (wrap64 (x3+1))) else (some false))) else (some false)))))))) else (some false))) else (some false)))) else (some false))) else (none)) else (r10_Right.l1 k x0 0)
def r10_Right.l1:Nat→List (S31)→Int→Option (Bool)
 |0,_,_=>none
 |k+1,x0,x5=>if x5<(x0.length:Int) then (if 0≤x5 then (r10_Right.l2 k x0 x5 0 ((rd_T31 x0 x5).f3.f0) ((rd_T31 x0 x5).f3.f1) ((rd_T31 x0 x5).f3.f2)) else (none)) else (some true)
def r10_Right.l2:Nat→List (S31)→Int→Int→Int→Int→Int→Option (Bool)
 |0,_,_,_,_,_,_=>none
 |k+1,x0,x5,x7,x21000,x21001,x21002=>if x7<(x0.length:Int) then (if 0≤x7 then (if 0≤x5 then (if x5<(x0.length:Int) then (if ((rd_T31 x0 x7).f1).toList=((rd_T31 x0 x5).f0).toList then ((r10_Add.f x21000 x21001 x21002 ((rd_T31 x0 x7).f4.f0) ((rd_T31 x0 x7).f4.f1) ((rd_T31 x0 x7).f4.f2)).bind fun bt24=>(r10_Right.l2 k x0 x5 (wrap64 (x7+1)) bt24.1 bt24.2.1 bt24.2.2)) else (r10_Right.l2 k x0 x5 (wrap64 (x7+1)) x21000 x21001 x21002)) else (none)) else (none)) else (none)) else (if 0≤x5 then (if x5<(x0.length:Int) then (if (!(x21000==((rd_T31 x0 x5).f4.f0))||(!(x21001==((rd_T31 x0 x5).f4.f1))||(!(x21002==((rd_T31 x0 x5).f4.f2)))))=true then (some false) else ((r10_Up.f k x0 ((rd_T31 x0 x5).f0)).bind fun t29=>(if (t29.length:Int)>(x0.length:Int) then (some false) else (r10_Right.l1 k x0 (wrap64 (x5+1)))))) else (none)) else (none))
end
def r10_Right.f (k:Nat) (l0:List (S31)):Option (Bool):=if (l0.length:Int)>120 then (some false) else (r10_Right.l0 k l0 0)
theorem r10_Right.mono_l: ∀k,(∀y0 y1,LeO (r10_Right.l0 k y0 y1) (r10_Right.l0 (k+1) y0 y1))∧(∀y0 y1,LeO (r10_Right.l1 k y0 y1) (r10_Right.l1 (k+1) y0 y1))∧(∀y0 y1 y2 y3 y4 y5,LeO (r10_Right.l2 k y0 y1 y2 y3 y4 y5) (r10_Right.l2 (k+1) y0 y1 y2 y3 y4 y5))
 |0=>⟨fun _ _ r h=>by simp [r10_Right.l0] at h,fun _ _ r h=>by simp [r10_Right.l1] at h,fun _ _ _ _ _ _ r h=>by simp [r10_Right.l2] at h⟩
 |k+1=>by
  obtain ⟨ih0,ih1,ih2⟩:=r10_Right.mono_l k
  refine ⟨?_, ?_, ?_⟩
  ·intro y0 y1
   unfold r10_Right.l0
   repeat' first
   |(with_reducible exact ih0 _ _)
   |(with_reducible exact ih1 _ _)
   |(with_reducible exact ih2 _ _ _ _ _ _)
   |(with_reducible exact r10_Find.mono _ _ _)
   |(with_reducible exact r10_Up.mono _ _ _)
   |(with_reducible exact LeO.refl _)
   |(with_reducible exact LeO.none _)
   |(with_reducible refine LeO.ite ?_ ?_)
   |(with_reducible refine LeO.bind ?_ (fun _=> ?_))
   |exact ih0 _ _
   |exact ih1 _ _
   |exact ih2 _ _ _ _ _ _
   |exact r10_Find.mono _ _ _
   |exact r10_Up.mono _ _ _
   |exact LeO.none _
   |refine LeO.ite ?_ ?_
   |refine LeO.bind ?_ (fun _=> ?_)
  ·intro y0 y1
   unfold r10_Right.l1
   repeat' first
   |(with_reducible exact ih0 _ _)
   |(with_reducible exact ih1 _ _)
   |(with_reducible exact ih2 _ _ _ _ _ _)
   |(with_reducible exact r10_Find.mono _ _ _)
   |(with_reducible exact r10_Up.mono _ _ _)
   |(with_reducible exact LeO.refl _)
   |(with_reducible exact LeO.none _)
   |(with_reducible refine LeO.ite ?_ ?_)
   |(with_reducible refine LeO.bind ?_ (fun _=> ?_))
   |exact ih0 _ _
   |exact ih1 _ _
   |exact ih2 _ _ _ _ _ _
   |exact r10_Find.mono _ _ _
   |exact r10_Up.mono _ _ _
   |exact LeO.none _
   |refine LeO.ite ?_ ?_
   |refine LeO.bind ?_ (fun _=> ?_)
  ·intro y0 y1 y2 y3 y4 y5
   unfold r10_Right.l2
   repeat' first
   |(with_reducible exact ih0 _ _)
   |(with_reducible exact ih1 _ _)
   |(with_reducible exact ih2 _ _ _ _ _ _)
   |(with_reducible exact r10_Find.mono _ _ _)
   |(with_reducible exact r10_Up.mono _ _ _)
   |(with_reducible exact LeO.refl _)
   |(with_reducible exact LeO.none _)
   |(with_reducible refine LeO.ite ?_ ?_)
   |(with_reducible refine LeO.bind ?_ (fun _=> ?_))
   |exact ih0 _ _
   |exact ih1 _ _
   |exact ih2 _ _ _ _ _ _
   |exact r10_Find.mono _ _ _
   |exact r10_Up.mono _ _ _
   |exact LeO.none _
   |refine LeO.ite ?_ ?_
   |refine LeO.bind ?_ (fun _=> ?_)
theorem r10_Right.mono: ∀a0 k,LeO (r10_Right.f k a0) (r10_Right.f (k+1) a0):=by
 intro a0 k
 obtain ⟨ih0,ih1,ih2⟩:=r10_Right.mono_l k
 unfold r10_Right.f
 repeat' first
  |(with_reducible exact ih0 _ _)
  |(with_reducible exact ih1 _ _)
  |(with_reducible exact ih2 _ _ _ _ _ _)
  |(with_reducible exact r10_Find.mono _ _ _)
  |(with_reducible exact r10_Up.mono _ _ _)
  |(with_reducible exact LeO.refl _)
  |(with_reducible exact LeO.none _)
  |(with_reducible refine LeO.ite ?_ ?_)
  |(with_reducible refine LeO.bind ?_ (fun _=> ?_))
  |exact ih0 _ _
  |exact ih1 _ _
  |exact ih2 _ _ _ _ _ _
  |exact r10_Find.mono _ _ _
  |exact r10_Up.mono _ _ _
  |exact LeO.none _
  |refine LeO.ite ?_ ?_
  |refine LeO.bind ?_ (fun _=> ?_)
def r10_Right.T7:Bool×List (List Nat×List Nat):=(true,[([],[]),([0],[0]),([1],[1]),([2],[2]),([3,2],[3]),([4],[4]),([5,4],[4,5]),([6,4,4],[4,6]),([7],[7]),([7],[7]),([9,7],[7,9]),([8,10,7],[7,8,10]),([11,7],[7,11]),([12,7],[7,12]),([7],[7]),([14,7],[7,14]),([13,15,7],[7,13,15]),([7,16,4],[4,7,16]),([4,17],[4,17]),([18,7],[18]),([19],[19]),([20,19],[19,20]),([21,19,19],[19,21]),([22,19],[19,22]),([19,23],[19,23]),([24,22],[24]),([25],[25]),([26,25],[25,26]),([27,25,25],[25,27]),([28,25],[25,28]),([25,29],[25,29]),([30,28],[30]),([31],[31]),([32,31],[31,32]),([33,31],[31,33]),([34,31,31],[31,34]),([35],[35]),([35],[35]),([37,35],[35,37]),([36,38,35,35],[35,36,38]),([39,35],[35,39]),([35,40,31],[31,35,40]),([31,41],[31,41]),([42,39],[42]),([43],[43]),([44,43],[43,44]),([45,43],[43,45]),([43,46],[43,46]),([47,43],[47]),([48],[48]),([49,48],[48,49]),([50,48],[48,50]),([48,51],[48,51]),([52,48],[52]),([53],[53]),([54,53],[53,54]),([53],[53]),([56,53],[53,56]),([55,57,53,53],[53,55,57]),([58,53],[53,58]),([53,59],[53,59]),([60,58],[60]),([61],[61]),([62,61],[61,62]),([63,61,61],[61,63]),([64,61],[61,64]),([61,65],[61,65])])
def r10_Right.B7:List Nat:=[0,1,3,7,15,31,63,127,255,255,767,2047,4095,8191,255,16639,65535,131071,262143,524287,1048575,2097151,4194303,8388607,16777215,33554431,67108863,134217727,268435455,536870911,1073741823,2147483647,4294967295,8589934591,17179869183,34359738367,68719476735,68719476735,206158430207,549755813887,1099511627775,2199023255551,4398046511103,8796093022207,17592186044415,35184372088831,70368744177663,140737488355327,281474976710655,562949953421311,1125899906842623,2251799813685247,4503599627370495,9007199254740991,18014398509481983,36028797018963967,18014398509481983,90071992547409919,288230376151711743,576460752303423487,1152921504606846975,2305843009213693951,4611686018427387903,9223372036854775807,18446744073709551615,36893488147419103231,73786976294838206463]
theorem r10_Right.tab7:rtab .any (opsOf Try.f41 7)=r10_Right.T7:=by kernel_rfl
theorem r10_Right.bits7:waitsOk r10_Right.T7.2 r10_Right.B7=true:=by kernel_rfl
def r10_Right.T16:Bool×List (List Nat×List Nat):=(true,[([],[]),([],[]),([0,1],[0,1]),([2],[2]),([3],[3]),([],[]),([],[]),([5,6],[5,6]),([7],[7]),([8],[8]),([4,9],[4,9])])
def r10_Right.B16:List Nat:=[0,0,3,7,15,0,0,96,224,480,1023]
theorem r10_Right.tab16:rtab .any (opsOf Try.f41 16)=r10_Right.T16:=by kernel_rfl
theorem r10_Right.bits16:waitsOk r10_Right.T16.2 r10_Right.B16=true:=by kernel_rfl
def r10_Right.T17:Bool×List (List Nat×List Nat):=(true,[([],[]),([],[]),([],[]),([1,2],[1,2]),([3],[3]),([4],[4]),([0,5],[0,5]),([6,6,0,1,2,3,4,5,6],[6])])
def r10_Right.B17:List Nat:=[0,0,0,6,14,30,63,127]
theorem r10_Right.tab17:rtab .any (opsOf Try.f41 17)=r10_Right.T17:=by kernel_rfl
theorem r10_Right.bits17:waitsOk r10_Right.T17.2 r10_Right.B17=true:=by kernel_rfl
def r10_Right.T18:Bool×List (List Nat×List Nat):=(true,[([],[]),([],[]),([],[]),([1,2],[1,2]),([3],[3]),([4],[4]),([0,5],[0,5]),([6],[6]),([7],[7]),([7],[7]),([7],[7]),([9,10,7],[7,9,10]),([11,7],[7,11]),([12,7],[7,12]),([8,13,7,7],[7,8,13]),([14,7],[7,14]),([7],[7]),([16,7],[7,16]),([15,17,7],[7,15,17]),([7,18],[7,18])])
def r10_Right.B18:List Nat:=[0,0,0,6,14,30,63,127,255,255,255,1791,3839,7935,16383,32767,255,65791,262143,524287]
theorem r10_Right.tab18:rtab .any (opsOf Try.f41 18)=r10_Right.T18:=by kernel_rfl
theorem r10_Right.bits18:waitsOk r10_Right.T18.2 r10_Right.B18=true:=by kernel_rfl
/-- what has come up: the first k -/
def r10_Right.tk (k:Nat):Array Bool:=(List.replicate k true++List.replicate (67 - k) false).toArray
set_option maxHeartbeats 8000000 in
set_option maxRecDepth 100000 in
theorem r10_Right.calls (k:Nat) (A0:Option Addr) (c0:Nat) (l0:List (S31)) (r:Bool) (w:World) (hr0:Kd.C k31 w A0 l0.length l0) (hc0:l0.length≤c0) (h:r10_Right.f k l0=some r):
  Calls Try.prog 41 #[.slice A0 l0.length c0] w fun e w'=>e= .returned (.bool r)∧Below w.heap.size w w':=by
 have hu31:=Try.underlying31
 have hu27:=Try.underlying27
 have HR0:=Aside0.mk hr0
 have HC0:=Aside0.mk hc0
 clear hr0 hc0
 have HB:=am_ (Below.refl w.heap.size w)
 have H:(if (l0.length:Int)>120 then (some false) else (r10_Right.l0 k l0 0))=some r:=h
 clear h
 by_cases c2:(l0.length:Int)>120
 ·rw [if_pos c2] at H
  have c2b0:decide (120<(l0.length:Int))=true:=decide_eq_true c2
  have c2b1:decide (120<l0.length)=true:=decide_eq_true (by omega)
  clear c2
  obtain rfl:=Option.some.inj H
  go_enter Try.func41,Try.ntmps41
  go_wp2
  go_ret
  exact ⟨by first|rfl|(simp [errW_none,errW_some]<;>rfl)|(simp [*,errW_none,errW_some]<;>rfl),zl0_ HB⟩
 ·rw [if_neg c2] at H
  have c2b0:decide (120<(l0.length:Int))=false:=decide_eq_false c2
  have c2b1:decide (120<l0.length)=false:=decide_eq_false (by omega)
  clear c2
  have H':=Aside0.mk H
  clear H
  go_enter Try.func41,Try.ntmps41
  go_wp2
  go_loopg [3] k (fun kq v3 w'=> ∃(x3_1:Int),v3= .int .i64 x3_1∧Aside0 (r10_Right.l0 kq l0 x3_1=some r)∧Aside0 (kq≤k)∧Aside0 (Below w.heap.size w w'))
  case atStart=>exact ⟨(0),(by first|rfl|(simp;done)|(simp [*];done)),H',⟨Nat.le_refl _⟩,⟨zl0_ HB⟩⟩
  case round=>
   clear H'
   try clear c2
   try clear c2b0
   try clear c2b1
   try clear p2
   obtain ⟨x3_1,rfl,HA,HK1,HB⟩:=hrel
   cases gk with
   |zero=>exact absurd HA.out (by simp [r10_Right.l0])
   |succ k1=>
    have H:=HA.out
    clear HA
    simp only [r10_Right.l0] at H
    by_cases c3:x3_1<(l0.length:Int)
    ·rw [if_pos c3] at H
     have c3b0:decide (x3_1<(l0.length:Int))=true:=decide_eq_true c3
     clear c3
     by_cases c4:0≤x3_1
     ·rw [if_pos c4] at H
      have c4b0:decide (0≤x3_1)=true:=decide_eq_true c4
      clear c4
      have HC7:=Aside0.mk H
      clear H
      have p1:0≤(x3_1:Int):=of_decide_eq_true zq_
      have q1:x3_1<(l0.length:Int):=of_decide_eq_true zq_
      obtain ⟨ad1,e1,hx1_0,hx1_1,hx1_2,hx1_3,hx1_4,hx1_5,hx1_6,hx1_7,hx1_8,hx1_9,hx1_10,hx1_11⟩:=at_T31 HR0.out x3_1 p1 q1
      cases e1
      replace hx1_0:=zx_ HB hx1_0
      replace hx1_1:=zx_ HB hx1_1
      replace hx1_2:=zx_ HB hx1_2
      replace hx1_3:=zx_ HB hx1_3
      replace hx1_4:=zx_ HB hx1_4
      replace hx1_5:=zx_ HB hx1_5
      replace hx1_6:=zx_ HB hx1_6
      replace hx1_7:=zx_ HB hx1_7
      replace hx1_8:=zx_ HB hx1_8
      replace hx1_9:=zx_ HB hx1_9
      replace hx1_10:=zx_ HB hx1_10
      replace hx1_11:=zx_ HB hx1_11
      replace p1:=eq_true p1
      replace q1:=eq_true q1
      try go_wp2_with (first|((with_reducible refine gate_dst (N:=4) rfl ?_);(try (refine gate_guard (by rfl) ?_;dsimp only));refine box_event ?hg (N:=4) ?hd (cs:=#[.string (⟨#[]⟩:ByteArray), .string (⟨#[]⟩:ByteArray), .int .i64 0, .int .i64 0, .int .i64 0, .int .i64 0, .int .i64 0, .int .i64 0, .int .i64 0, .int .i64 0, .int .i64 0, .int .i64 0]) (t:=31) ?hr ?_;(case hd=>rfl);(case hg=>rfl);(case hr=>first|(go_simp;done)|(go_simp;rfl));intro gb2 hg w18 hbox hb;have n0_:=am_ (below_step (zl0_ HB) hb);have n1_:=am_ (hbox);have n2_:=am_ ((zg0_ HB hg:w.heap.size≤gb2));have n3_:=am_ ((zg0_ HB hg:w.heap.size≤gb2));clear HB;have HB:=n0_;have BK2:=n1_;have GW2:=n2_;have GE2:=n3_;clear n0_ n1_ n2_ n3_;clear hb hbox hg;have hcz19_0:w18.cell? ⟨gb2,0,none⟩=some (.string (⟨#[]⟩:ByteArray)):=(blk_cell BK2.out 0).trans rfl;have hcz19_1:w18.cell? ⟨gb2,1,none⟩=some (.string (⟨#[]⟩:ByteArray)):=(blk_cell BK2.out 1).trans rfl;have hcz19_2:w18.cell? ⟨gb2,2,none⟩=some (.int .i64 0):=(blk_cell BK2.out 2).trans rfl;have hcz19_3:w18.cell? ⟨gb2,3,none⟩=some (.int .i64 0):=(blk_cell BK2.out 3).trans rfl;have hcz19_4:w18.cell? ⟨gb2,4,none⟩=some (.int .i64 0):=(blk_cell BK2.out 4).trans rfl;have hcz19_5:w18.cell? ⟨gb2,5,none⟩=some (.int .i64 0):=(blk_cell BK2.out 5).trans rfl;have hcz19_6:w18.cell? ⟨gb2,6,none⟩=some (.int .i64 0):=(blk_cell BK2.out 6).trans rfl;have hcz19_7:w18.cell? ⟨gb2,7,none⟩=some (.int .i64 0):=(blk_cell BK2.out 7).trans rfl;have hcz19_8:w18.cell? ⟨gb2,8,none⟩=some (.int .i64 0):=(blk_cell BK2.out 8).trans rfl;have hcz19_9:w18.cell? ⟨gb2,9,none⟩=some (.int .i64 0):=(blk_cell BK2.out 9).trans rfl;have hcz19_10:w18.cell? ⟨gb2,10,none⟩=some (.int .i64 0):=(blk_cell BK2.out 10).trans rfl;have hcz19_11:w18.cell? ⟨gb2,11,none⟩=some (.int .i64 0):=(blk_cell BK2.out 11).trans rfl;have hfz19_0:=blk_frozen BK2.out 0;have hfz19_1:=blk_frozen BK2.out 1;have hfz19_2:=blk_frozen BK2.out 2;have hfz19_3:=blk_frozen BK2.out 3;have hfz19_4:=blk_frozen BK2.out 4;have hfz19_5:=blk_frozen BK2.out 5;have hfz19_6:=blk_frozen BK2.out 6;have hfz19_7:=blk_frozen BK2.out 7;have hfz19_8:=blk_frozen BK2.out 8;have hfz19_9:=blk_frozen BK2.out 9;have hfz19_10:=blk_frozen BK2.out 10;have hfz19_11:=blk_frozen BK2.out 11))
      have n0_:Aside0 (((((((((((((w18.setCell ⟨gb2,0,none⟩ (.string ((rd_T31 l0 x3_1).f0))).setCell ⟨gb2,1,none⟩ (.string ((rd_T31 l0 x3_1).f1))).setCell ⟨gb2,2,none⟩ (.int .i64 ((rd_T31 l0 x3_1).f2.f0))).setCell ⟨gb2,3,none⟩ (.int .i64 ((rd_T31 l0 x3_1).f2.f1))).setCell ⟨gb2,4,none⟩ (.int .i64 ((rd_T31 l0 x3_1).f2.f2))).setCell ⟨gb2,5,none⟩ (.int .i64 ((rd_T31 l0 x3_1).f3.f0))).setCell ⟨gb2,6,none⟩ (.int .i64 ((rd_T31 l0 x3_1).f3.f1))).setCell ⟨gb2,7,none⟩ (.int .i64 ((rd_T31 l0 x3_1).f3.f2))).setCell ⟨gb2,8,none⟩ (.int .i64 ((rd_T31 l0 x3_1).f4.f0))).setCell ⟨gb2,9,none⟩ (.int .i64 ((rd_T31 l0 x3_1).f4.f1))).setCell ⟨gb2,10,none⟩ (.int .i64 ((rd_T31 l0 x3_1).f4.f2))).setCell ⟨gb2,11,none⟩ (.int .i64 ((rd_T31 l0 x3_1).f5))).heap[gb2]?=some (.cells #[.string ((rd_T31 l0 x3_1).f0), .string ((rd_T31 l0 x3_1).f1), .int .i64 ((rd_T31 l0 x3_1).f2.f0), .int .i64 ((rd_T31 l0 x3_1).f2.f1), .int .i64 ((rd_T31 l0 x3_1).f2.f2), .int .i64 ((rd_T31 l0 x3_1).f3.f0), .int .i64 ((rd_T31 l0 x3_1).f3.f1), .int .i64 ((rd_T31 l0 x3_1).f3.f2), .int .i64 ((rd_T31 l0 x3_1).f4.f0), .int .i64 ((rd_T31 l0 x3_1).f4.f1), .int .i64 ((rd_T31 l0 x3_1).f4.f2), .int .i64 ((rd_T31 l0 x3_1).f5)] 31 (0,0))):=⟨by refine zk_ ?_;refine blk_put (cs:=#[.string ((rd_T31 l0 x3_1).f0), .string ((rd_T31 l0 x3_1).f1), .int .i64 ((rd_T31 l0 x3_1).f2.f0), .int .i64 ((rd_T31 l0 x3_1).f2.f1), .int .i64 ((rd_T31 l0 x3_1).f2.f2), .int .i64 ((rd_T31 l0 x3_1).f3.f0), .int .i64 ((rd_T31 l0 x3_1).f3.f1), .int .i64 ((rd_T31 l0 x3_1).f3.f2), .int .i64 ((rd_T31 l0 x3_1).f4.f0), .int .i64 ((rd_T31 l0 x3_1).f4.f1), .int .i64 ((rd_T31 l0 x3_1).f4.f2), .int .i64 0]) ?_ 11 _ rfl;refine zk_ ?_;refine blk_put (cs:=#[.string ((rd_T31 l0 x3_1).f0), .string ((rd_T31 l0 x3_1).f1), .int .i64 ((rd_T31 l0 x3_1).f2.f0), .int .i64 ((rd_T31 l0 x3_1).f2.f1), .int .i64 ((rd_T31 l0 x3_1).f2.f2), .int .i64 ((rd_T31 l0 x3_1).f3.f0), .int .i64 ((rd_T31 l0 x3_1).f3.f1), .int .i64 ((rd_T31 l0 x3_1).f3.f2), .int .i64 ((rd_T31 l0 x3_1).f4.f0), .int .i64 ((rd_T31 l0 x3_1).f4.f1), .int .i64 0, .int .i64 0]) ?_ 10 _ rfl;refine zk_ ?_;refine blk_put (cs:=#[.string ((rd_T31 l0 x3_1).f0), .string ((rd_T31 l0 x3_1).f1), .int .i64 ((rd_T31 l0 x3_1).f2.f0), .int .i64 ((rd_T31 l0 x3_1).f2.f1), .int .i64 ((rd_T31 l0 x3_1).f2.f2), .int .i64 ((rd_T31 l0 x3_1).f3.f0), .int .i64 ((rd_T31 l0 x3_1).f3.f1), .int .i64 ((rd_T31 l0 x3_1).f3.f2), .int .i64 ((rd_T31 l0 x3_1).f4.f0), .int .i64 0, .int .i64 0, .int .i64 0]) ?_ 9 _ rfl;refine zk_ ?_;refine blk_put (cs:=#[.string ((rd_T31 l0 x3_1).f0), .string ((rd_T31 l0 x3_1).f1), .int .i64 ((rd_T31 l0 x3_1).f2.f0), .int .i64 ((rd_T31 l0 x3_1).f2.f1), .int .i64 ((rd_T31 l0 x3_1).f2.f2), .int .i64 ((rd_T31 l0 x3_1).f3.f0), .int .i64 ((rd_T31 l0 x3_1).f3.f1), .int .i64 ((rd_T31 l0 x3_1).f3.f2), .int .i64 0, .int .i64 0, .int .i64 0, .int .i64 0]) ?_ 8 _ rfl;refine zk_ ?_;refine blk_put (cs:=#[.string ((rd_T31 l0 x3_1).f0), .string ((rd_T31 l0 x3_1).f1), .int .i64 ((rd_T31 l0 x3_1).f2.f0), .int .i64 ((rd_T31 l0 x3_1).f2.f1), .int .i64 ((rd_T31 l0 x3_1).f2.f2), .int .i64 ((rd_T31 l0 x3_1).f3.f0), .int .i64 ((rd_T31 l0 x3_1).f3.f1), .int .i64 0, .int .i64 0, .int .i64 0, .int .i64 0, .int .i64 0]) ?_ 7 _ rfl;refine zk_ ?_;refine blk_put (cs:=#[.string ((rd_T31 l0 x3_1).f0), .string ((rd_T31 l0 x3_1).f1), .int .i64 ((rd_T31 l0 x3_1).f2.f0), .int .i64 ((rd_T31 l0 x3_1).f2.f1), .int .i64 ((rd_T31 l0 x3_1).f2.f2), .int .i64 ((rd_T31 l0 x3_1).f3.f0), .int .i64 0, .int .i64 0, .int .i64 0, .int .i64 0, .int .i64 0, .int .i64 0]) ?_ 6 _ rfl;refine zk_ ?_;refine blk_put (cs:=#[.string ((rd_T31 l0 x3_1).f0), .string ((rd_T31 l0 x3_1).f1), .int .i64 ((rd_T31 l0 x3_1).f2.f0), .int .i64 ((rd_T31 l0 x3_1).f2.f1), .int .i64 ((rd_T31 l0 x3_1).f2.f2), .int .i64 0, .int .i64 0, .int .i64 0, .int .i64 0, .int .i64 0, .int .i64 0, .int .i64 0]) ?_ 5 _ rfl;refine zk_ ?_;refine blk_put (cs:=#[.string ((rd_T31 l0 x3_1).f0), .string ((rd_T31 l0 x3_1).f1), .int .i64 ((rd_T31 l0 x3_1).f2.f0), .int .i64 ((rd_T31 l0 x3_1).f2.f1), .int .i64 0, .int .i64 0, .int .i64 0, .int .i64 0, .int .i64 0, .int .i64 0, .int .i64 0, .int .i64 0]) ?_ 4 _ rfl;refine zk_ ?_;refine blk_put (cs:=#[.string ((rd_T31 l0 x3_1).f0), .string ((rd_T31 l0 x3_1).f1), .int .i64 ((rd_T31 l0 x3_1).f2.f0), .int .i64 0, .int .i64 0, .int .i64 0, .int .i64 0, .int .i64 0, .int .i64 0, .int .i64 0, .int .i64 0, .int .i64 0]) ?_ 3 _ rfl;refine zk_ ?_;refine blk_put (cs:=#[.string ((rd_T31 l0 x3_1).f0), .string ((rd_T31 l0 x3_1).f1), .int .i64 0, .int .i64 0, .int .i64 0, .int .i64 0, .int .i64 0, .int .i64 0, .int .i64 0, .int .i64 0, .int .i64 0, .int .i64 0]) ?_ 2 _ rfl;refine zk_ ?_;refine blk_put (cs:=#[.string ((rd_T31 l0 x3_1).f0), .string (⟨#[]⟩:ByteArray), .int .i64 0, .int .i64 0, .int .i64 0, .int .i64 0, .int .i64 0, .int .i64 0, .int .i64 0, .int .i64 0, .int .i64 0, .int .i64 0]) ?_ 1 _ rfl;refine zk_ ?_;refine blk_put (cs:=#[.string (⟨#[]⟩:ByteArray), .string (⟨#[]⟩:ByteArray), .int .i64 0, .int .i64 0, .int .i64 0, .int .i64 0, .int .i64 0, .int .i64 0, .int .i64 0, .int .i64 0, .int .i64 0, .int .i64 0]) ?_ 0 _ rfl;refine zk_ ?_;exact BK2.out⟩
      have n1_:Aside0 (Below w.heap.size w ((((((((((((w18.setCell ⟨gb2,0,none⟩ (.string ((rd_T31 l0 x3_1).f0))).setCell ⟨gb2,1,none⟩ (.string ((rd_T31 l0 x3_1).f1))).setCell ⟨gb2,2,none⟩ (.int .i64 ((rd_T31 l0 x3_1).f2.f0))).setCell ⟨gb2,3,none⟩ (.int .i64 ((rd_T31 l0 x3_1).f2.f1))).setCell ⟨gb2,4,none⟩ (.int .i64 ((rd_T31 l0 x3_1).f2.f2))).setCell ⟨gb2,5,none⟩ (.int .i64 ((rd_T31 l0 x3_1).f3.f0))).setCell ⟨gb2,6,none⟩ (.int .i64 ((rd_T31 l0 x3_1).f3.f1))).setCell ⟨gb2,7,none⟩ (.int .i64 ((rd_T31 l0 x3_1).f3.f2))).setCell ⟨gb2,8,none⟩ (.int .i64 ((rd_T31 l0 x3_1).f4.f0))).setCell ⟨gb2,9,none⟩ (.int .i64 ((rd_T31 l0 x3_1).f4.f1))).setCell ⟨gb2,10,none⟩ (.int .i64 ((rd_T31 l0 x3_1).f4.f2))).setCell ⟨gb2,11,none⟩ (.int .i64 ((rd_T31 l0 x3_1).f5)))):=⟨zl1_ HB GE2⟩
      (try clear BK2)
      (try clear HB)
      generalize ((((((((((((w18.setCell ⟨gb2,0,none⟩ (.string ((rd_T31 l0 x3_1).f0))).setCell ⟨gb2,1,none⟩ (.string ((rd_T31 l0 x3_1).f1))).setCell ⟨gb2,2,none⟩ (.int .i64 ((rd_T31 l0 x3_1).f2.f0))).setCell ⟨gb2,3,none⟩ (.int .i64 ((rd_T31 l0 x3_1).f2.f1))).setCell ⟨gb2,4,none⟩ (.int .i64 ((rd_T31 l0 x3_1).f2.f2))).setCell ⟨gb2,5,none⟩ (.int .i64 ((rd_T31 l0 x3_1).f3.f0))).setCell ⟨gb2,6,none⟩ (.int .i64 ((rd_T31 l0 x3_1).f3.f1))).setCell ⟨gb2,7,none⟩ (.int .i64 ((rd_T31 l0 x3_1).f3.f2))).setCell ⟨gb2,8,none⟩ (.int .i64 ((rd_T31 l0 x3_1).f4.f0))).setCell ⟨gb2,9,none⟩ (.int .i64 ((rd_T31 l0 x3_1).f4.f1))).setCell ⟨gb2,10,none⟩ (.int .i64 ((rd_T31 l0 x3_1).f4.f2))).setCell ⟨gb2,11,none⟩ (.int .i64 ((rd_T31 l0 x3_1).f5)))=w20 at n0_ n1_ ⊢
      have BK2:=n0_
      have HB:=n1_
      clear n0_ n1_
      have b0:w20.cell? ⟨gb2,0,none⟩=some (.string ((rd_T31 l0 x3_1).f0)):=(blk_cell BK2.out 0).trans rfl
      have b1:w20.cell? ⟨gb2,1,none⟩=some (.string ((rd_T31 l0 x3_1).f1)):=(blk_cell BK2.out 1).trans rfl
      have b2:w20.cell? ⟨gb2,2,none⟩=some (.int .i64 ((rd_T31 l0 x3_1).f2.f0)):=(blk_cell BK2.out 2).trans rfl
      have b3:w20.cell? ⟨gb2,3,none⟩=some (.int .i64 ((rd_T31 l0 x3_1).f2.f1)):=(blk_cell BK2.out 3).trans rfl
      have b4:w20.cell? ⟨gb2,4,none⟩=some (.int .i64 ((rd_T31 l0 x3_1).f2.f2)):=(blk_cell BK2.out 4).trans rfl
      have b5:w20.cell? ⟨gb2,5,none⟩=some (.int .i64 ((rd_T31 l0 x3_1).f3.f0)):=(blk_cell BK2.out 5).trans rfl
      have b6:w20.cell? ⟨gb2,6,none⟩=some (.int .i64 ((rd_T31 l0 x3_1).f3.f1)):=(blk_cell BK2.out 6).trans rfl
      have b7:w20.cell? ⟨gb2,7,none⟩=some (.int .i64 ((rd_T31 l0 x3_1).f3.f2)):=(blk_cell BK2.out 7).trans rfl
      have b8:w20.cell? ⟨gb2,8,none⟩=some (.int .i64 ((rd_T31 l0 x3_1).f4.f0)):=(blk_cell BK2.out 8).trans rfl
      have b9:w20.cell? ⟨gb2,9,none⟩=some (.int .i64 ((rd_T31 l0 x3_1).f4.f1)):=(blk_cell BK2.out 9).trans rfl
      have b10:w20.cell? ⟨gb2,10,none⟩=some (.int .i64 ((rd_T31 l0 x3_1).f4.f2)):=(blk_cell BK2.out 10).trans rfl
      have b11:w20.cell? ⟨gb2,11,none⟩=some (.int .i64 ((rd_T31 l0 x3_1).f5)):=(blk_cell BK2.out 11).trans rfl
      obtain ⟨t3,A50,H⟩:=Option.bind_eq_some_iff.mp HC7.out
      have A5:=Aside0.mk A50
      have HC:=Aside0.mk H
      clear A50 H HC7
      have c9:0<x3_1→0≤wrap64 (x3_1 - 1)∧wrap64 (x3_1 - 1)<(l0.length:Int):=fun q=>by have:=of_eq_true p1;have:=of_eq_true q1;have:l0.length≤9223372036854775807:=HR0.out.2.1;unfold wrap64;omega
      by_cases c7:x3_1>0
      obtain ⟨c9,c10⟩:=c9 c7
      have c7b0:decide (0<x3_1)=true:=decide_eq_true c7
      obtain ⟨ji8,hji8⟩: ∃j_:Int,(wrap64 (x3_1 - 1))=j_:=⟨_,rfl⟩
      rw [hji8] at c9 c10
      have hji8w:(IntKind.i64.wrap (x3_1 - 1))=ji8:=(i64_w _).trans hji8
      obtain ⟨ad7,e7,hp, -⟩:=at_T31 HR0.out ji8 c9 c10
      obtain rfl:ad1=ad7:=(by injection e7)
      replace hp:=zx_ HB hp
      have p7:=eq_true c9
      have q7:=eq_true c10
      have C7:=Aside0.mk c7
      have C9:=Aside0.mk c9
      have C10:=Aside0.mk c10
      clear c7 c9 c10
      rotate_left
      have c7b0:decide (0<x3_1)=false:=decide_eq_false c7
      have N7:=Aside0.mk c7
      clear c7 c9
      all_goals (
        have HBc:=am_ (below_drew1 (Below.refl w20.heap.size w20))
        first|(refine start_ (n:=67) (S:=fun w'=>w'.cell? ⟨gb2,0,none⟩=some (.string ((rd_T31 l0 x3_1).f0))∧w'.cell? ⟨gb2,1,none⟩=some (.string ((rd_T31 l0 x3_1).f1))∧w'.cell? ⟨gb2,2,none⟩=some (.int .i64 ((rd_T31 l0 x3_1).f2.f0))∧w'.cell? ⟨gb2,3,none⟩=some (.int .i64 ((rd_T31 l0 x3_1).f2.f1))∧w'.cell? ⟨gb2,4,none⟩=some (.int .i64 ((rd_T31 l0 x3_1).f2.f2))∧w'.cell? ⟨gb2,5,none⟩=some (.int .i64 ((rd_T31 l0 x3_1).f3.f0))∧w'.cell? ⟨gb2,6,none⟩=some (.int .i64 ((rd_T31 l0 x3_1).f3.f1))∧w'.cell? ⟨gb2,7,none⟩=some (.int .i64 ((rd_T31 l0 x3_1).f3.f2))∧w'.cell? ⟨gb2,8,none⟩=some (.int .i64 ((rd_T31 l0 x3_1).f4.f0))∧w'.cell? ⟨gb2,9,none⟩=some (.int .i64 ((rd_T31 l0 x3_1).f4.f1))∧w'.cell? ⟨gb2,10,none⟩=some (.int .i64 ((rd_T31 l0 x3_1).f4.f2))∧w'.cell? ⟨gb2,11,none⟩=some (.int .i64 ((rd_T31 l0 x3_1).f5))∧w'.cell? (ad1.add (((ji8)).toNat*12))=some (.string ((rd_T31 l0 (ji8)).f0))) (ds:=[]) (bt_ 67 0) (by kernel_rfl) rfl rfl ?_ (fun hHeld=> ?_);(refine ⟨?_, ?_, ?_, ?_, ?_, ?_, ?_, ?_, ?_, ?_, ?_, ?_, ?_⟩<;>first|exact pw_cell_below HBc.out (by assumption)|(go_keep;done)))|(refine start_ (n:=67) (S:=fun w'=>w'.cell? ⟨gb2,0,none⟩=some (.string ((rd_T31 l0 x3_1).f0))∧w'.cell? ⟨gb2,1,none⟩=some (.string ((rd_T31 l0 x3_1).f1))∧w'.cell? ⟨gb2,2,none⟩=some (.int .i64 ((rd_T31 l0 x3_1).f2.f0))∧w'.cell? ⟨gb2,3,none⟩=some (.int .i64 ((rd_T31 l0 x3_1).f2.f1))∧w'.cell? ⟨gb2,4,none⟩=some (.int .i64 ((rd_T31 l0 x3_1).f2.f2))∧w'.cell? ⟨gb2,5,none⟩=some (.int .i64 ((rd_T31 l0 x3_1).f3.f0))∧w'.cell? ⟨gb2,6,none⟩=some (.int .i64 ((rd_T31 l0 x3_1).f3.f1))∧w'.cell? ⟨gb2,7,none⟩=some (.int .i64 ((rd_T31 l0 x3_1).f3.f2))∧w'.cell? ⟨gb2,8,none⟩=some (.int .i64 ((rd_T31 l0 x3_1).f4.f0))∧w'.cell? ⟨gb2,9,none⟩=some (.int .i64 ((rd_T31 l0 x3_1).f4.f1))∧w'.cell? ⟨gb2,10,none⟩=some (.int .i64 ((rd_T31 l0 x3_1).f4.f2))∧w'.cell? ⟨gb2,11,none⟩=some (.int .i64 ((rd_T31 l0 x3_1).f5))) (ds:=[]) (bt_ 67 0) (by kernel_rfl) rfl rfl ?_ (fun hHeld=> ?_);(refine ⟨?_, ?_, ?_, ?_, ?_, ?_, ?_, ?_, ?_, ?_, ?_, ?_⟩<;>first|exact pw_cell_below HBc.out (by assumption)|(go_keep;done)))
        refine with_tabW r10_Right.tab7 r10_Right.bits7 (fun HT_ HW_=> ?_)
        generalize w20.drew=wd at HBc hHeld ⊢)
      all_goals (refine pu_ (i:=0) (N:=some 21) (r10_Right.tk 1) HT_ ?_)
      all_goals (refine tk_ (i:=1) (N:=some 22) (r10_Right.tk 2) HT_ HW_ hHeld ?_)
      all_goals (refine one_ (i:=2) (N:=some 23) (r10_Right.tk 3) rfl rfl (one_of HT_.out (by kernel_rfl)) (by decide) (fun K hK=> ?_);refine goes_ Try.func105 (by kernel_rfl) rfl #[.string ((rd_T31 l0 x3_1).f0)] (by rfl) rfl rfl zs_ ?_;with_reducible refine (r10_MayName.calls _ _ _ A5.out).mono ?_;rintro e wx2 ⟨rfl,hd⟩;have hb:=hd.below;clear hd;refine ⟨_,rfl, ?_⟩;have HBn:=am_ (below_step HBc.out hb);clear HBc;have HBc:=HBn;clear HBn;refine hK.out _ _ (by first|exact ⟨pw_cell_below hb hHeld.1,pw_cell_below hb hHeld.2.1,pw_cell_below hb hHeld.2.2.1,pw_cell_below hb hHeld.2.2.2.1,pw_cell_below hb hHeld.2.2.2.2.1,pw_cell_below hb hHeld.2.2.2.2.2.1,pw_cell_below hb hHeld.2.2.2.2.2.2.1,pw_cell_below hb hHeld.2.2.2.2.2.2.2.1,pw_cell_below hb hHeld.2.2.2.2.2.2.2.2.1,pw_cell_below hb hHeld.2.2.2.2.2.2.2.2.2.1,pw_cell_below hb hHeld.2.2.2.2.2.2.2.2.2.2.1,pw_cell_below hb hHeld.2.2.2.2.2.2.2.2.2.2.2.1,pw_cell_below hb hHeld.2.2.2.2.2.2.2.2.2.2.2.2⟩|exact ⟨pw_cell_below hb hHeld.1,pw_cell_below hb hHeld.2.1,pw_cell_below hb hHeld.2.2.1,pw_cell_below hb hHeld.2.2.2.1,pw_cell_below hb hHeld.2.2.2.2.1,pw_cell_below hb hHeld.2.2.2.2.2.1,pw_cell_below hb hHeld.2.2.2.2.2.2.1,pw_cell_below hb hHeld.2.2.2.2.2.2.2.1,pw_cell_below hb hHeld.2.2.2.2.2.2.2.2.1,pw_cell_below hb hHeld.2.2.2.2.2.2.2.2.2.1,pw_cell_below hb hHeld.2.2.2.2.2.2.2.2.2.2.1,pw_cell_below hb hHeld.2.2.2.2.2.2.2.2.2.2.2⟩) (fun hHeld=> ?_);clear hK K hb;refine norm_ (a':= ?_) ?_ ?_;rotate_left;(show Act.put _ (some 23) _=_;simp only [Act.put,List.setIfInBounds_toArray,List.set_cons_zero,List.set_cons_succ,i64_w,i32_w];rfl))
      all_goals (try (have H:=HC.out;clear HC;by_cases c6:t3=true;(case' pos=>subst c6;rw [if_pos rfl] at H;have HC:=Aside0.mk H;clear H);(case' neg=>rw [if_neg c6] at H;have q_:t3=false:=Bool.eq_false_iff.mpr c6;subst q_;clear c6;have HC:=Aside0.mk H;clear H)))
      all_goals (refine pu_ (i:=3) (N:=some 24) (r10_Right.tk 4) HT_ ?_)
      all_goals (refine pu_ (i:=4) (N:=some 25) (r10_Right.tk 5) HT_ ?_)
      all_goals (first|(refine pu_ (i:=5) (N:=some 26) (r10_Right.tk 6) HT_ ?_)|(refine pn_ (i:=5) (N:=some 26) (r10_Right.tk 6) HT_ ?_))
      all_goals (first|(refine pu_ (i:=6) (N:=some 27) (r10_Right.tk 7) HT_ ?_)|(refine pn_ (i:=6) (N:=some 27) (r10_Right.tk 7) HT_ ?_))
      all_goals (first|(refine pu_ (i:=7) (N:=some 28) (r10_Right.tk 8) HT_ ?_)|(refine pn_ (i:=7) (N:=some 28) (r10_Right.tk 8) HT_ ?_))
      all_goals (first|(refine pu_ (i:=8) (N:=some 29) (r10_Right.tk 9) HT_ ?_)|(refine pn_ (i:=8) (N:=some 29) (r10_Right.tk 9) HT_ ?_))
      all_goals (first|(refine pu_ (i:=9) (N:=some 30) (r10_Right.tk 10) HT_ ?_)|(refine pn_ (i:=9) (N:=some 30) (r10_Right.tk 10) HT_ ?_))
      all_goals (first|(refine pu_ (i:=10) (N:=some 31) (r10_Right.tk 11) HT_ ?_)|(refine pn_ (i:=10) (N:=some 31) (r10_Right.tk 11) HT_ ?_))
      all_goals (first|(refine pu_ (i:=11) (N:=some 32) (r10_Right.tk 12) HT_ ?_)|(refine pn_ (i:=11) (N:=some 32) (r10_Right.tk 12) HT_ ?_))
      all_goals (first|(refine pu_ (i:=12) (N:=some 33) (r10_Right.tk 13) HT_ ?_)|(refine pn_ (i:=12) (N:=some 33) (r10_Right.tk 13) HT_ ?_))
      all_goals (try (have H:=HC.out;clear HC;rw [if_neg N7.out] at H;have HC:=Aside0.mk H;clear H))
      all_goals (try (have H:=HC.out;clear HC;rw [if_pos C7.out,hji8,if_pos C9.out,if_pos C10.out] at H;by_cases c11:((Op.bytesLess (((rd_T31 l0 ji8).f0).toList) (((rd_T31 l0 x3_1).f0).toList))=true);(case' pos=>rw [if_pos c11] at H;have c11b0:(Op.bytesLess (((rd_T31 l0 ji8).f0).toList) (((rd_T31 l0 x3_1).f0).toList))=true:=c11;clear c11;have HC:=Aside0.mk H;clear H);(case' neg=>rw [if_neg c11] at H;have c11b0:(Op.bytesLess (((rd_T31 l0 ji8).f0).toList) (((rd_T31 l0 x3_1).f0).toList))=false:=Bool.eq_false_iff.mpr c11;clear c11;have HC:=Aside0.mk H;clear H)))
      all_goals (first|(refine tk_ (i:=13) (N:=some 34) (r10_Right.tk 14) HT_ HW_ hHeld ?_)|(refine pn_ (i:=13) (N:=some 34) (r10_Right.tk 14) HT_ ?_))
      all_goals (first|(refine pu_ (i:=14) (N:=some 35) (r10_Right.tk 15) HT_ ?_)|(refine pn_ (i:=14) (N:=some 35) (r10_Right.tk 15) HT_ ?_))
      all_goals (first|(refine tk_ (i:=15) (N:=some 36) (r10_Right.tk 16) HT_ HW_ hHeld ?_)|(refine pn_ (i:=15) (N:=some 36) (r10_Right.tk 16) HT_ ?_))
      all_goals (first|(refine pu_ (i:=16) (N:=some 37) (r10_Right.tk 17) HT_ ?_)|(refine pn_ (i:=16) (N:=some 37) (r10_Right.tk 17) HT_ ?_))
      all_goals (first|(refine pu_ (i:=17) (N:=some 38) (r10_Right.tk 18) HT_ ?_)|(refine pn_ (i:=17) (N:=some 38) (r10_Right.tk 18) HT_ ?_))
      all_goals (refine pu_ (i:=18) (N:=some 39) (r10_Right.tk 19) HT_ ?_)
      all_goals (refine pu_ (i:=19) (N:=some 40) (r10_Right.tk 20) HT_ ?_)
      all_goals (try (have H:=HC.out;obtain ⟨t5,A120,H2⟩:=Option.bind_eq_some_iff.mp H;clear H HC;have A12:=Aside0.mk A120;clear A120;have HC:=Aside0.mk H2;clear H2))
      all_goals (first|(refine pu_ (i:=20) (N:=some 41) (r10_Right.tk 21) HT_ ?_)|(refine pn_ (i:=20) (N:=some 41) (r10_Right.tk 21) HT_ ?_))
      all_goals (first|(refine tk_ (i:=21) (N:=some 42) (r10_Right.tk 22) HT_ HW_ hHeld ?_)|(refine pn_ (i:=21) (N:=some 42) (r10_Right.tk 22) HT_ ?_))
      all_goals (first|(refine one_ (i:=22) (N:=some 43) (r10_Right.tk 23) rfl rfl (one_of HT_.out (by kernel_rfl)) (by decide) (fun K hK=> ?_);refine goes_ Try.func65 (by kernel_rfl) rfl #[.agg #[.int .i64 ((rd_T31 l0 x3_1).f2.f0), .int .i64 ((rd_T31 l0 x3_1).f2.f1), .int .i64 ((rd_T31 l0 x3_1).f2.f2)]] (by rfl) rfl rfl zs_ ?_;with_reducible refine (r10_MayVec.calls _ _ _ _ _ A12.out).mono ?_;rintro e wx22 ⟨rfl,hb⟩;refine ⟨_,rfl, ?_⟩;have HBn:=am_ (below_step HBc.out hb);clear HBc;have HBc:=HBn;clear HBn;refine hK.out _ _ (by first|exact ⟨pw_cell_below hb hHeld.1,pw_cell_below hb hHeld.2.1,pw_cell_below hb hHeld.2.2.1,pw_cell_below hb hHeld.2.2.2.1,pw_cell_below hb hHeld.2.2.2.2.1,pw_cell_below hb hHeld.2.2.2.2.2.1,pw_cell_below hb hHeld.2.2.2.2.2.2.1,pw_cell_below hb hHeld.2.2.2.2.2.2.2.1,pw_cell_below hb hHeld.2.2.2.2.2.2.2.2.1,pw_cell_below hb hHeld.2.2.2.2.2.2.2.2.2.1,pw_cell_below hb hHeld.2.2.2.2.2.2.2.2.2.2.1,pw_cell_below hb hHeld.2.2.2.2.2.2.2.2.2.2.2.1,pw_cell_below hb hHeld.2.2.2.2.2.2.2.2.2.2.2.2⟩|exact ⟨pw_cell_below hb hHeld.1,pw_cell_below hb hHeld.2.1,pw_cell_below hb hHeld.2.2.1,pw_cell_below hb hHeld.2.2.2.1,pw_cell_below hb hHeld.2.2.2.2.1,pw_cell_below hb hHeld.2.2.2.2.2.1,pw_cell_below hb hHeld.2.2.2.2.2.2.1,pw_cell_below hb hHeld.2.2.2.2.2.2.2.1,pw_cell_below hb hHeld.2.2.2.2.2.2.2.2.1,pw_cell_below hb hHeld.2.2.2.2.2.2.2.2.2.1,pw_cell_below hb hHeld.2.2.2.2.2.2.2.2.2.2.1,pw_cell_below hb hHeld.2.2.2.2.2.2.2.2.2.2.2⟩) (fun hHeld=> ?_);clear hK K hb;refine norm_ (a':= ?_) ?_ ?_;rotate_left;(show Act.put _ (some 43) _=_;simp only [Act.put,List.setIfInBounds_toArray,List.set_cons_zero,List.set_cons_succ,i64_w,i32_w];rfl))|(refine pn_ (i:=22) (N:=some 43) (r10_Right.tk 23) HT_ ?_))
      all_goals (try (have H:=HC.out;clear HC;by_cases c13:t5=true;(case' pos=>subst c13;rw [if_pos rfl] at H;have HC:=Aside0.mk H;clear H);(case' neg=>rw [if_neg c13] at H;have q_:t5=false:=Bool.eq_false_iff.mpr c13;subst q_;clear c13;have HC:=Aside0.mk H;clear H)))
      all_goals (first|(refine pu_ (i:=23) (N:=some 44) (r10_Right.tk 24) HT_ ?_)|(refine pn_ (i:=23) (N:=some 44) (r10_Right.tk 24) HT_ ?_))
      all_goals (refine pu_ (i:=24) (N:=some 45) (r10_Right.tk 25) HT_ ?_)
      all_goals (refine pu_ (i:=25) (N:=some 46) (r10_Right.tk 26) HT_ ?_)
      all_goals (try (have H:=HC.out;obtain ⟨t6,A140,H2⟩:=Option.bind_eq_some_iff.mp H;clear H HC;have A14:=Aside0.mk A140;clear A140;have HC:=Aside0.mk H2;clear H2))
      all_goals (first|(refine pu_ (i:=26) (N:=some 47) (r10_Right.tk 27) HT_ ?_)|(refine pn_ (i:=26) (N:=some 47) (r10_Right.tk 27) HT_ ?_))
      all_goals (first|(refine tk_ (i:=27) (N:=some 48) (r10_Right.tk 28) HT_ HW_ hHeld ?_)|(refine pn_ (i:=27) (N:=some 48) (r10_Right.tk 28) HT_ ?_))
      all_goals (first|(refine one_ (i:=28) (N:=some 49) (r10_Right.tk 29) rfl rfl (one_of HT_.out (by kernel_rfl)) (by decide) (fun K hK=> ?_);refine goes_ Try.func65 (by kernel_rfl) rfl #[.agg #[.int .i64 ((rd_T31 l0 x3_1).f3.f0), .int .i64 ((rd_T31 l0 x3_1).f3.f1), .int .i64 ((rd_T31 l0 x3_1).f3.f2)]] (by rfl) rfl rfl zs_ ?_;with_reducible refine (r10_MayVec.calls _ _ _ _ _ A14.out).mono ?_;rintro e wx28 ⟨rfl,hb⟩;refine ⟨_,rfl, ?_⟩;have HBn:=am_ (below_step HBc.out hb);clear HBc;have HBc:=HBn;clear HBn;refine hK.out _ _ (by first|exact ⟨pw_cell_below hb hHeld.1,pw_cell_below hb hHeld.2.1,pw_cell_below hb hHeld.2.2.1,pw_cell_below hb hHeld.2.2.2.1,pw_cell_below hb hHeld.2.2.2.2.1,pw_cell_below hb hHeld.2.2.2.2.2.1,pw_cell_below hb hHeld.2.2.2.2.2.2.1,pw_cell_below hb hHeld.2.2.2.2.2.2.2.1,pw_cell_below hb hHeld.2.2.2.2.2.2.2.2.1,pw_cell_below hb hHeld.2.2.2.2.2.2.2.2.2.1,pw_cell_below hb hHeld.2.2.2.2.2.2.2.2.2.2.1,pw_cell_below hb hHeld.2.2.2.2.2.2.2.2.2.2.2.1,pw_cell_below hb hHeld.2.2.2.2.2.2.2.2.2.2.2.2⟩|exact ⟨pw_cell_below hb hHeld.1,pw_cell_below hb hHeld.2.1,pw_cell_below hb hHeld.2.2.1,pw_cell_below hb hHeld.2.2.2.1,pw_cell_below hb hHeld.2.2.2.2.1,pw_cell_below hb hHeld.2.2.2.2.2.1,pw_cell_below hb hHeld.2.2.2.2.2.2.1,pw_cell_below hb hHeld.2.2.2.2.2.2.2.1,pw_cell_below hb hHeld.2.2.2.2.2.2.2.2.1,pw_cell_below hb hHeld.2.2.2.2.2.2.2.2.2.1,pw_cell_below hb hHeld.2.2.2.2.2.2.2.2.2.2.1,pw_cell_below hb hHeld.2.2.2.2.2.2.2.2.2.2.2⟩) (fun hHeld=> ?_);clear hK K hb;refine norm_ (a':= ?_) ?_ ?_;rotate_left;(show Act.put _ (some 49) _=_;simp only [Act.put,List.setIfInBounds_toArray,List.set_cons_zero,List.set_cons_succ,i64_w,i32_w];rfl))|(refine pn_ (i:=28) (N:=some 49) (r10_Right.tk 29) HT_ ?_))
      all_goals (try (have H:=HC.out;clear HC;by_cases c15:t6=true;(case' pos=>subst c15;rw [if_pos rfl] at H;have HC:=Aside0.mk H;clear H);(case' neg=>rw [if_neg c15] at H;have q_:t6=false:=Bool.eq_false_iff.mpr c15;subst q_;clear c15;have HC:=Aside0.mk H;clear H)))
      all_goals (first|(refine pu_ (i:=29) (N:=some 50) (r10_Right.tk 30) HT_ ?_)|(refine pn_ (i:=29) (N:=some 50) (r10_Right.tk 30) HT_ ?_))
      all_goals (refine pu_ (i:=30) (N:=some 51) (r10_Right.tk 31) HT_ ?_)
      all_goals (refine pu_ (i:=31) (N:=some 52) (r10_Right.tk 32) HT_ ?_)
      all_goals (first|(refine pu_ (i:=32) (N:=some 53) (r10_Right.tk 33) HT_ ?_)|(refine pn_ (i:=32) (N:=some 53) (r10_Right.tk 33) HT_ ?_))
      all_goals (first|(refine tk_ (i:=33) (N:=some 54) (r10_Right.tk 34) HT_ HW_ hHeld ?_)|(refine pn_ (i:=33) (N:=some 54) (r10_Right.tk 34) HT_ ?_))
      all_goals (try (have H:=HC.out;clear HC;by_cases c16:((rd_T31 l0 x3_1).f1).toList=([]:List UInt8);(case' pos=>rw [if_pos c16] at H;have c16b0:(((rd_T31 l0 x3_1).f1).toList==([]:List UInt8))=true:=beq_iff_eq.mpr c16;have c16b1:(((rd_T31 l0 x3_1).f1).toList !=([]:List UInt8))=false:=bne_eq_false_iff_eq.mpr c16;have c16b2:(((rd_T31 l0 x3_1).f1).toList).isEmpty=true:=by rw [c16];rfl);(case' neg=>rw [if_neg c16] at H;have c16b0:(((rd_T31 l0 x3_1).f1).toList==([]:List UInt8))=false:=beq_eq_false_iff_ne.mpr c16;have c16b1:(((rd_T31 l0 x3_1).f1).toList !=([]:List UInt8))=true:=bne_iff_ne.mpr c16;have c16b2:(((rd_T31 l0 x3_1).f1).toList).isEmpty=false:=by simpa using c16);all_goals (clear c16;have HC:=Aside0.mk H;clear H)))
      all_goals (first|(refine pu_ (i:=34) (N:=some 55) (r10_Right.tk 35) HT_ ?_)|(refine pn_ (i:=34) (N:=some 55) (r10_Right.tk 35) HT_ ?_))
      all_goals (first|(refine pu_ (i:=35) (N:=some 56) (r10_Right.tk 36) HT_ ?_)|(refine pn_ (i:=35) (N:=some 56) (r10_Right.tk 36) HT_ ?_))
      all_goals (try (have H:=HC.out;have _hf:=c16b1;obtain ⟨t9,A220,H2⟩:=Option.bind_eq_some_iff.mp H;clear H HC;have A22:=Aside0.mk A220;clear A220;have HC:=Aside0.mk H2;clear H2))
      all_goals (first|(refine pu_ (i:=36) (N:=some 57) (r10_Right.tk 37) HT_ ?_)|(refine pn_ (i:=36) (N:=some 57) (r10_Right.tk 37) HT_ ?_))
      all_goals (first|(refine pu_ (i:=37) (N:=some 58) (r10_Right.tk 38) HT_ ?_)|(refine pn_ (i:=37) (N:=some 58) (r10_Right.tk 38) HT_ ?_))
      all_goals (first|(refine tk_ (i:=38) (N:=some 59) (r10_Right.tk 39) HT_ HW_ hHeld ?_)|(refine pn_ (i:=38) (N:=some 59) (r10_Right.tk 39) HT_ ?_))
      all_goals (first|(refine one_ (i:=39) (N:=some 60) (r10_Right.tk 40) rfl rfl (one_of HT_.out (by kernel_rfl)) (by decide) (fun K hK=> ?_);refine goes_ Try.func50 (by kernel_rfl) rfl #[.slice (some ad1) l0.length c0, .string ((rd_T31 l0 x3_1).f1)] (by rfl) rfl rfl zs_ ?_;refine (r10_Find.calls k1 _ _ l0 _ _ _ (Kd.C_below (Kd.C_below HR0.out HB.out) HBc.out) HC0.out A22.out).mono ?_;rintro e wx39 ⟨rfl,hd⟩;have hb:=hd.below;clear hd;refine ⟨_,rfl, ?_⟩;have HBn:=am_ (below_step HBc.out hb);clear HBc;have HBc:=HBn;clear HBn;refine hK.out _ _ (by first|exact ⟨pw_cell_below hb hHeld.1,pw_cell_below hb hHeld.2.1,pw_cell_below hb hHeld.2.2.1,pw_cell_below hb hHeld.2.2.2.1,pw_cell_below hb hHeld.2.2.2.2.1,pw_cell_below hb hHeld.2.2.2.2.2.1,pw_cell_below hb hHeld.2.2.2.2.2.2.1,pw_cell_below hb hHeld.2.2.2.2.2.2.2.1,pw_cell_below hb hHeld.2.2.2.2.2.2.2.2.1,pw_cell_below hb hHeld.2.2.2.2.2.2.2.2.2.1,pw_cell_below hb hHeld.2.2.2.2.2.2.2.2.2.2.1,pw_cell_below hb hHeld.2.2.2.2.2.2.2.2.2.2.2.1,pw_cell_below hb hHeld.2.2.2.2.2.2.2.2.2.2.2.2⟩|exact ⟨pw_cell_below hb hHeld.1,pw_cell_below hb hHeld.2.1,pw_cell_below hb hHeld.2.2.1,pw_cell_below hb hHeld.2.2.2.1,pw_cell_below hb hHeld.2.2.2.2.1,pw_cell_below hb hHeld.2.2.2.2.2.1,pw_cell_below hb hHeld.2.2.2.2.2.2.1,pw_cell_below hb hHeld.2.2.2.2.2.2.2.1,pw_cell_below hb hHeld.2.2.2.2.2.2.2.2.1,pw_cell_below hb hHeld.2.2.2.2.2.2.2.2.2.1,pw_cell_below hb hHeld.2.2.2.2.2.2.2.2.2.2.1,pw_cell_below hb hHeld.2.2.2.2.2.2.2.2.2.2.2⟩) (fun hHeld=> ?_);clear hK K hb;refine norm_ (a':= ?_) ?_ ?_;rotate_left;(show Act.put _ (some 60) _=_;simp only [Act.put,List.setIfInBounds_toArray,List.set_cons_zero,List.set_cons_succ,i64_w,i32_w];rfl))|(refine pn_ (i:=39) (N:=some 60) (r10_Right.tk 40) HT_ ?_))
      all_goals (try (have H:=HC.out;clear HC;by_cases c23:t9<0;(case' pos=>rw [if_pos c23] at H;have c23b0:decide (t9<0)=true:=decide_eq_true c23;clear c23;have HC:=Aside0.mk H;clear H);(case' neg=>rw [if_neg c23] at H;have c23b0:decide (t9<0)=false:=decide_eq_false c23;clear c23;have HC:=Aside0.mk H;clear H)))
      all_goals (first|(refine pu_ (i:=40) (N:=some 61) (r10_Right.tk 41) HT_ ?_)|(refine pn_ (i:=40) (N:=some 61) (r10_Right.tk 41) HT_ ?_))
      all_goals (first|(refine pu_ (i:=41) (N:=some 62) (r10_Right.tk 42) HT_ ?_)|(refine pn_ (i:=41) (N:=some 62) (r10_Right.tk 42) HT_ ?_))
      all_goals (refine pu_ (i:=42) (N:=some 63) (r10_Right.tk 43) HT_ ?_)
      all_goals (refine pu_ (i:=43) (N:=some 64) (r10_Right.tk 44) HT_ ?_)
      all_goals (first|(refine pu_ (i:=44) (N:=some 65) (r10_Right.tk 45) HT_ ?_)|(refine pn_ (i:=44) (N:=some 65) (r10_Right.tk 45) HT_ ?_))
      all_goals (first|(refine tk_ (i:=45) (N:=some 66) (r10_Right.tk 46) HT_ HW_ hHeld ?_)|(refine pn_ (i:=45) (N:=some 66) (r10_Right.tk 46) HT_ ?_))
      all_goals (try (have H:=HC.out;clear HC;by_cases c17:(rd_T31 l0 x3_1).f5<1;(case' pos=>rw [if_pos c17] at H;have c17b0:decide ((rd_T31 l0 x3_1).f5<1)=true:=decide_eq_true c17;clear c17;have HC:=Aside0.mk H;clear H);(case' neg=>rw [if_neg c17] at H;have c17b0:decide ((rd_T31 l0 x3_1).f5<1)=false:=decide_eq_false c17;clear c17;have HC:=Aside0.mk H;clear H)))
      all_goals (first|(refine pu_ (i:=46) (N:=some 67) (r10_Right.tk 47) HT_ ?_)|(refine pn_ (i:=46) (N:=some 67) (r10_Right.tk 47) HT_ ?_))
      all_goals (refine pu_ (i:=47) (N:=some 68) (r10_Right.tk 48) HT_ ?_)
      all_goals (refine pu_ (i:=48) (N:=some 69) (r10_Right.tk 49) HT_ ?_)
      all_goals (first|(refine pu_ (i:=49) (N:=some 70) (r10_Right.tk 50) HT_ ?_)|(refine pn_ (i:=49) (N:=some 70) (r10_Right.tk 50) HT_ ?_))
      all_goals (first|(refine tk_ (i:=50) (N:=some 71) (r10_Right.tk 51) HT_ HW_ hHeld ?_)|(refine pn_ (i:=50) (N:=some 71) (r10_Right.tk 51) HT_ ?_))
      all_goals (try (have H:=HC.out;clear HC;by_cases c18:(rd_T31 l0 x3_1).f5>9007199254740992;(case' pos=>rw [if_pos c18] at H;have c18b0:decide (9007199254740992<(rd_T31 l0 x3_1).f5)=true:=decide_eq_true c18;clear c18;have HC:=Aside0.mk H;clear H);(case' neg=>rw [if_neg c18] at H;have c18b0:decide (9007199254740992<(rd_T31 l0 x3_1).f5)=false:=decide_eq_false c18;clear c18;have HC:=Aside0.mk H;clear H)))
      all_goals (first|(refine pu_ (i:=51) (N:=some 72) (r10_Right.tk 52) HT_ ?_)|(refine pn_ (i:=51) (N:=some 72) (r10_Right.tk 52) HT_ ?_))
      all_goals (refine pu_ (i:=52) (N:=some 73) (r10_Right.tk 53) HT_ ?_)
      all_goals (refine pu_ (i:=53) (N:=some 74) (r10_Right.tk 54) HT_ ?_)
      all_goals (try (have H:=HC.out;obtain ⟨t7,A390,H2⟩:=Option.bind_eq_some_iff.mp H;clear H HC;have A39:=Aside0.mk A390;clear A390;have HC:=Aside0.mk H2;clear H2))
      all_goals (first|(refine pu_ (i:=54) (N:=some 75) (r10_Right.tk 55) HT_ ?_)|(refine pn_ (i:=54) (N:=some 75) (r10_Right.tk 55) HT_ ?_))
      all_goals (first|(refine tk_ (i:=55) (N:=some 76) (r10_Right.tk 56) HT_ HW_ hHeld ?_)|(refine pn_ (i:=55) (N:=some 76) (r10_Right.tk 56) HT_ ?_))
      all_goals (first|(refine pu_ (i:=56) (N:=some 77) (r10_Right.tk 57) HT_ ?_)|(refine pn_ (i:=56) (N:=some 77) (r10_Right.tk 57) HT_ ?_))
      all_goals (first|(refine tk_ (i:=57) (N:=some 78) (r10_Right.tk 58) HT_ HW_ hHeld ?_)|(refine pn_ (i:=57) (N:=some 78) (r10_Right.tk 58) HT_ ?_))
      all_goals (first|(refine one_ (i:=58) (N:=some 79) (r10_Right.tk 59) rfl rfl (one_of HT_.out (by kernel_rfl)) (by decide) (fun K hK=> ?_);refine goes_ Try.func34 (by kernel_rfl) rfl #[.agg #[.int .i64 ((rd_T31 l0 x3_1).f4.f0), .int .i64 ((rd_T31 l0 x3_1).f4.f1), .int .i64 ((rd_T31 l0 x3_1).f4.f2)], .agg #[.int .i64 ((rd_T31 l0 x3_1).f2.f0), .int .i64 ((rd_T31 l0 x3_1).f2.f1), .int .i64 ((rd_T31 l0 x3_1).f2.f2)]] (by rfl) rfl rfl zs_ ?_;with_reducible refine (r10_Le.calls _ _ _ _ _ _ _ _ A39.out).mono ?_;rintro e wx58 ⟨rfl,hb⟩;refine ⟨_,rfl, ?_⟩;have HBn:=am_ (below_step HBc.out hb);clear HBc;have HBc:=HBn;clear HBn;refine hK.out _ _ (by first|exact ⟨pw_cell_below hb hHeld.1,pw_cell_below hb hHeld.2.1,pw_cell_below hb hHeld.2.2.1,pw_cell_below hb hHeld.2.2.2.1,pw_cell_below hb hHeld.2.2.2.2.1,pw_cell_below hb hHeld.2.2.2.2.2.1,pw_cell_below hb hHeld.2.2.2.2.2.2.1,pw_cell_below hb hHeld.2.2.2.2.2.2.2.1,pw_cell_below hb hHeld.2.2.2.2.2.2.2.2.1,pw_cell_below hb hHeld.2.2.2.2.2.2.2.2.2.1,pw_cell_below hb hHeld.2.2.2.2.2.2.2.2.2.2.1,pw_cell_below hb hHeld.2.2.2.2.2.2.2.2.2.2.2.1,pw_cell_below hb hHeld.2.2.2.2.2.2.2.2.2.2.2.2⟩|exact ⟨pw_cell_below hb hHeld.1,pw_cell_below hb hHeld.2.1,pw_cell_below hb hHeld.2.2.1,pw_cell_below hb hHeld.2.2.2.1,pw_cell_below hb hHeld.2.2.2.2.1,pw_cell_below hb hHeld.2.2.2.2.2.1,pw_cell_below hb hHeld.2.2.2.2.2.2.1,pw_cell_below hb hHeld.2.2.2.2.2.2.2.1,pw_cell_below hb hHeld.2.2.2.2.2.2.2.2.1,pw_cell_below hb hHeld.2.2.2.2.2.2.2.2.2.1,pw_cell_below hb hHeld.2.2.2.2.2.2.2.2.2.2.1,pw_cell_below hb hHeld.2.2.2.2.2.2.2.2.2.2.2⟩) (fun hHeld=> ?_);clear hK K hb;refine norm_ (a':= ?_) ?_ ?_;rotate_left;(show Act.put _ (some 79) _=_;simp only [Act.put,List.setIfInBounds_toArray,List.set_cons_zero,List.set_cons_succ,i64_w,i32_w];rfl))|(refine pn_ (i:=58) (N:=some 79) (r10_Right.tk 59) HT_ ?_))
      all_goals (try (have H:=HC.out;clear HC;by_cases c40:t7=true;(case' pos=>subst c40;rw [if_pos rfl] at H;have HC:=Aside0.mk H;clear H);(case' neg=>rw [if_neg c40] at H;have q_:t7=false:=Bool.eq_false_iff.mpr c40;subst q_;clear c40;have HC:=Aside0.mk H;clear H)))
      all_goals (first|(refine pu_ (i:=59) (N:=some 80) (r10_Right.tk 60) HT_ ?_)|(refine pn_ (i:=59) (N:=some 80) (r10_Right.tk 60) HT_ ?_))
      all_goals (refine pu_ (i:=60) (N:=some 81) (r10_Right.tk 61) HT_ ?_)
      all_goals (refine pu_ (i:=61) (N:=some 82) (r10_Right.tk 62) HT_ ?_)
      all_goals (try (have H:=HC.out;obtain ⟨t8,A580,H2⟩:=Option.bind_eq_some_iff.mp H;clear H HC;have A58:=Aside0.mk A580;clear A580;have HC:=Aside0.mk H2;clear H2))
      all_goals (first|(refine pu_ (i:=62) (N:=some 83) (r10_Right.tk 63) HT_ ?_)|(refine pn_ (i:=62) (N:=some 83) (r10_Right.tk 63) HT_ ?_))
      all_goals (first|(refine tk_ (i:=63) (N:=some 84) (r10_Right.tk 64) HT_ HW_ hHeld ?_)|(refine pn_ (i:=63) (N:=some 84) (r10_Right.tk 64) HT_ ?_))
      all_goals (first|(refine one_ (i:=64) (N:=some 85) (r10_Right.tk 65) rfl rfl (one_of HT_.out (by kernel_rfl)) (by decide) (fun K hK=> ?_);refine goes_ Try.func65 (by kernel_rfl) rfl #[.agg #[.int .i64 ((rd_T31 l0 x3_1).f4.f0), .int .i64 ((rd_T31 l0 x3_1).f4.f1), .int .i64 ((rd_T31 l0 x3_1).f4.f2)]] (by rfl) rfl rfl zs_ ?_;with_reducible refine (r10_MayVec.calls _ _ _ _ _ A58.out).mono ?_;rintro e wx64 ⟨rfl,hb⟩;refine ⟨_,rfl, ?_⟩;have HBn:=am_ (below_step HBc.out hb);clear HBc;have HBc:=HBn;clear HBn;refine hK.out _ _ (by first|exact ⟨pw_cell_below hb hHeld.1,pw_cell_below hb hHeld.2.1,pw_cell_below hb hHeld.2.2.1,pw_cell_below hb hHeld.2.2.2.1,pw_cell_below hb hHeld.2.2.2.2.1,pw_cell_below hb hHeld.2.2.2.2.2.1,pw_cell_below hb hHeld.2.2.2.2.2.2.1,pw_cell_below hb hHeld.2.2.2.2.2.2.2.1,pw_cell_below hb hHeld.2.2.2.2.2.2.2.2.1,pw_cell_below hb hHeld.2.2.2.2.2.2.2.2.2.1,pw_cell_below hb hHeld.2.2.2.2.2.2.2.2.2.2.1,pw_cell_below hb hHeld.2.2.2.2.2.2.2.2.2.2.2.1,pw_cell_below hb hHeld.2.2.2.2.2.2.2.2.2.2.2.2⟩|exact ⟨pw_cell_below hb hHeld.1,pw_cell_below hb hHeld.2.1,pw_cell_below hb hHeld.2.2.1,pw_cell_below hb hHeld.2.2.2.1,pw_cell_below hb hHeld.2.2.2.2.1,pw_cell_below hb hHeld.2.2.2.2.2.1,pw_cell_below hb hHeld.2.2.2.2.2.2.1,pw_cell_below hb hHeld.2.2.2.2.2.2.2.1,pw_cell_below hb hHeld.2.2.2.2.2.2.2.2.1,pw_cell_below hb hHeld.2.2.2.2.2.2.2.2.2.1,pw_cell_below hb hHeld.2.2.2.2.2.2.2.2.2.2.1,pw_cell_below hb hHeld.2.2.2.2.2.2.2.2.2.2.2⟩) (fun hHeld=> ?_);clear hK K hb;refine norm_ (a':= ?_) ?_ ?_;rotate_left;(show Act.put _ (some 85) _=_;simp only [Act.put,List.setIfInBounds_toArray,List.set_cons_zero,List.set_cons_succ,i64_w,i32_w];rfl))|(refine pn_ (i:=64) (N:=some 85) (r10_Right.tk 65) HT_ ?_))
      all_goals (try (have H:=HC.out;clear HC;by_cases c59:t8=true;(case' pos=>subst c59;rw [if_pos rfl] at H;have HC:=Aside0.mk H;clear H);(case' neg=>rw [if_neg c59] at H;have q_:t8=false:=Bool.eq_false_iff.mpr c59;subst q_;clear c59;have HC:=Aside0.mk H;clear H)))
      all_goals (first|(refine pu_ (i:=65) (N:=some 86) (r10_Right.tk 66) HT_ ?_)|(refine pn_ (i:=65) (N:=some 86) (r10_Right.tk 66) HT_ ?_))
      all_goals (refine pu_ (i:=66) (N:=some 87) (r10_Right.tk 67) HT_ ?_)
      all_goals (refine done_ (done_of HT_.out (by kernel_rfl)) ?_;try go_wp2)
      all_goals (first|(obtain rfl:=Option.some.inj HC.out;go_wp2;go_ret;exact ⟨rfl,below_step HB.out HBc.out⟩)|(go_roundg k1;(case measure=>have:=HK1.out;omega);(case rel=>exact ⟨(wrap64 (x3_1+1)),(by first|rfl|(simp;done)|(simp [*];done)),HC,⟨by have:=HK1.out;omega⟩,⟨below_step HB.out HBc.out⟩⟩)))
     ·rw [if_neg c4] at H
      exact absurd H (by simp)
    ·rw [if_neg c3] at H
     have c3b0:decide (x3_1<(l0.length:Int))=false:=decide_eq_false c3
     clear c3
     have H':=Aside0.mk H
     clear H
     go_wp2
     go_loopg [5] k1 (fun kq v5 w'=> ∃(x5_2:Int),v5= .int .i64 x5_2∧Aside0 (r10_Right.l1 kq l0 x5_2=some r)∧Aside0 (kq≤k1)∧Aside0 (Below w.heap.size w w'))
     case atStart=>exact ⟨(0),(by first|rfl|(simp;done)|(simp [*];done)),H',⟨Nat.le_refl _⟩,⟨zl0_ HB⟩⟩
     case round=>
      clear H'
      try clear c1
      try clear p1
      try clear q1
      try clear hx1
      try clear p2
      try clear c3
      try clear c3b0
      try clear c4
      try clear c6
      try clear c10
      try clear c105
      try clear hcz229_0
      try clear hcz229_1
      try clear hcz229_10
      try clear hcz229_11
      try clear hcz229_2
      try clear hcz229_3
      try clear hcz229_4
      try clear hcz229_5
      try clear hcz229_6
      try clear hcz229_7
      try clear hcz229_8
      try clear hcz229_9
      try clear hfz229_0
      try clear hfz229_1
      try clear hfz229_10
      try clear hfz229_11
      try clear hfz229_2
      try clear hfz229_3
      try clear hfz229_4
      try clear hfz229_5
      try clear hfz229_6
      try clear hfz229_7
      try clear hfz229_8
      try clear hfz229_9
      try clear hx1_0
      try clear hx1_1
      try clear hx1_10
      try clear hx1_11
      try clear hx1_2
      try clear hx1_3
      try clear hx1_4
      try clear hx1_5
      try clear hx1_6
      try clear hx1_7
      try clear hx1_8
      try clear hx1_9
      try clear p1
      try clear q1
      obtain ⟨x5_2,rfl,HA,HK2,HB⟩:=hrel
      cases gk with
      |zero=>exact absurd HA.out (by simp [r10_Right.l1])
      |succ k2=>
       have H:=HA.out
       clear HA
       simp only [r10_Right.l1] at H
       by_cases c232:x5_2<(l0.length:Int)
       ·rw [if_pos c232] at H
        have c232b0:decide (x5_2<(l0.length:Int))=true:=decide_eq_true c232
        clear c232
        by_cases c233:0≤x5_2
        ·rw [if_pos c233] at H
         have c233b0:decide (0≤x5_2)=true:=decide_eq_true c233
         clear c233
         have H':=Aside0.mk H
         clear H
         have p19:0≤(x5_2:Int):=of_decide_eq_true zq_
         have q19:x5_2<(l0.length:Int):=of_decide_eq_true zq_
         obtain ⟨ad19,e19,hx19_0,hx19_1,hx19_2,hx19_3,hx19_4,hx19_5,hx19_6,hx19_7,hx19_8,hx19_9,hx19_10,hx19_11⟩:=at_T31 HR0.out x5_2 p19 q19
         cases e19
         replace hx19_0:=zx_ HB hx19_0
         replace hx19_1:=zx_ HB hx19_1
         replace hx19_2:=zx_ HB hx19_2
         replace hx19_3:=zx_ HB hx19_3
         replace hx19_4:=zx_ HB hx19_4
         replace hx19_5:=zx_ HB hx19_5
         replace hx19_6:=zx_ HB hx19_6
         replace hx19_7:=zx_ HB hx19_7
         replace hx19_8:=zx_ HB hx19_8
         replace hx19_9:=zx_ HB hx19_9
         replace hx19_10:=zx_ HB hx19_10
         replace hx19_11:=zx_ HB hx19_11
         replace p19:=eq_true p19
         replace q19:=eq_true q19
         go_wp2_with (first|((with_reducible refine gate_dst (N:=6) rfl ?_);(try (refine gate_guard (by rfl) ?_;dsimp only));refine box_event ?hg (N:=6) ?hd (cs:=#[.int .i64 0, .int .i64 0, .int .i64 0]) (t:=27) ?hr ?_;(case hd=>rfl);(case hg=>rfl);(case hr=>first|(go_simp;done)|(go_simp;rfl));intro gb20 hg w234 hbox hb;have n0_:=am_ (below_step (zl0_ HB) hb);have n1_:=am_ (hbox);have n2_:=am_ ((zg0_ HB hg:w.heap.size≤gb20));have n3_:=am_ ((zg0_ HB hg:w.heap.size≤gb20));clear HB;have HB:=n0_;have BK20:=n1_;have GW20:=n2_;have GE20:=n3_;clear n0_ n1_ n2_ n3_;clear hb hbox hg;have hcz235_0:w234.cell? ⟨gb20,0,none⟩=some (.int .i64 0):=(blk_cell BK20.out 0).trans rfl;have hcz235_1:w234.cell? ⟨gb20,1,none⟩=some (.int .i64 0):=(blk_cell BK20.out 1).trans rfl;have hcz235_2:w234.cell? ⟨gb20,2,none⟩=some (.int .i64 0):=(blk_cell BK20.out 2).trans rfl;have hfz235_0:=blk_frozen BK20.out 0;have hfz235_1:=blk_frozen BK20.out 1;have hfz235_2:=blk_frozen BK20.out 2))
         go_loopg [7] k2 (fun kq v7 w'=> ∃(x7_3:Int) (x21000_3:Int) (x21001_3:Int) (x21002_3:Int),v7= .int .i64 x7_3∧Aside0 (r10_Right.l2 kq l0 x5_2 x7_3 x21000_3 x21001_3 x21002_3=some r)∧Aside0 (kq≤k2)∧Aside0 (w'.heap[gb20]?=some (.cells #[.int .i64 x21000_3, .int .i64 x21001_3, .int .i64 x21002_3] 27 (0,0)))∧Aside0 (Below w.heap.size w w'))
         case atStart=>exact ⟨(0),((rd_T31 l0 x5_2).f3.f0),((rd_T31 l0 x5_2).f3.f1),((rd_T31 l0 x5_2).f3.f2),(by first|rfl|(simp;done)|(simp [*];done)),H',⟨Nat.le_refl _⟩,⟨by refine zk_ ?_;refine blk_put (cs:=#[.int .i64 ((rd_T31 l0 x5_2).f3.f0), .int .i64 ((rd_T31 l0 x5_2).f3.f1), .int .i64 0]) ?_ 2 _ rfl;refine zk_ ?_;refine blk_put (cs:=#[.int .i64 ((rd_T31 l0 x5_2).f3.f0), .int .i64 0, .int .i64 0]) ?_ 1 _ rfl;refine zk_ ?_;refine blk_put (cs:=#[.int .i64 0, .int .i64 0, .int .i64 0]) ?_ 0 _ rfl;refine zk_ ?_;exact BK20.out⟩,⟨zl1_ HB GE20⟩⟩
         case round=>
          clear H'
          try clear c1
          try clear p1
          try clear q1
          try clear hx1
          try clear c2
          try clear p2
          try clear c3
          try clear c3b0
          try clear c4
          try clear c6
          try clear c10
          try clear p19
          try clear q19
          try clear hx19
          try clear c23
          try clear c105
          try clear c232
          try clear c232b0
          try clear c233
          try clear c233b0
          try clear hcz229_0
          try clear hcz229_1
          try clear hcz229_10
          try clear hcz229_11
          try clear hcz229_2
          try clear hcz229_3
          try clear hcz229_4
          try clear hcz229_5
          try clear hcz229_6
          try clear hcz229_7
          try clear hcz229_8
          try clear hcz229_9
          try clear hcz235_0
          try clear hcz235_1
          try clear hcz235_2
          try clear hfz229_0
          try clear hfz229_1
          try clear hfz229_10
          try clear hfz229_11
          try clear hfz229_2
          try clear hfz229_3
          try clear hfz229_4
          try clear hfz229_5
          try clear hfz229_6
          try clear hfz229_7
          try clear hfz229_8
          try clear hfz229_9
          try clear hfz235_0
          try clear hfz235_1
          try clear hfz235_2
          try clear hx19_0
          try clear hx19_1
          try clear hx19_10
          try clear hx19_11
          try clear hx19_2
          try clear hx19_3
          try clear hx19_4
          try clear hx19_5
          try clear hx19_6
          try clear hx19_7
          try clear hx19_8
          try clear hx19_9
          try clear hx1_0
          try clear hx1_1
          try clear hx1_10
          try clear hx1_11
          try clear hx1_2
          try clear hx1_3
          try clear hx1_4
          try clear hx1_5
          try clear hx1_6
          try clear hx1_7
          try clear hx1_8
          try clear hx1_9
          try clear p1
          try clear p19
          try clear p2
          try clear q1
          try clear q19
          obtain ⟨x7_3,x21000_3,x21001_3,x21002_3,rfl,HA,HK3,BK20,HB⟩:=hrel
          cases gk with
          |zero=>exact absurd HA.out (by simp [r10_Right.l2])
          |succ k3=>
           have H:=HA.out
           clear HA
           simp only [r10_Right.l2] at H
           by_cases c236:x7_3<(l0.length:Int)
           ·rw [if_pos c236] at H
            have c236b0:decide (x7_3<(l0.length:Int))=true:=decide_eq_true c236
            clear c236
            by_cases c237:0≤x7_3
            ·rw [if_pos c237] at H
             have c237b0:decide (0≤x7_3)=true:=decide_eq_true c237
             clear c237
             by_cases c238:0≤x5_2
             ·rw [if_pos c238] at H
              have c238b0:decide (0≤x5_2)=true:=decide_eq_true c238
              clear c238
              by_cases c239:x5_2<(l0.length:Int)
              ·rw [if_pos c239] at H
               have c239b0:decide (x5_2<(l0.length:Int))=true:=decide_eq_true c239
               clear c239
               by_cases c240:((rd_T31 l0 x7_3).f1).toList=((rd_T31 l0 x5_2).f0).toList
               ·rw [if_pos c240] at H
                have c240b0:(((rd_T31 l0 x7_3).f1).toList==((rd_T31 l0 x5_2).f0).toList)=true:=beq_iff_eq.mpr c240
                have c240b1:(((rd_T31 l0 x7_3).f1).toList !=((rd_T31 l0 x5_2).f0).toList)=false:=bne_eq_false_iff_eq.mpr c240
                clear c240
                replace H:=Option.bind_eq_some_iff.mp H
                obtain ⟨⟨t24,t25,t26⟩,A2410,H⟩:=H
                replace H:(r10_Right.l2 k3 l0 x5_2 (wrap64 (x7_3+1)) t24 t25 t26)=some r:=H
                have A241:=Aside0.mk A2410
                clear A2410
                have H':=Aside0.mk H
                clear H
                try go_wp2
                have n0_:=am_ (blk_drew BK20.out)
                have n1_:=am_ (below_drew1 HB.out)
                clear BK20
                clear HB
                have BK20:=n0_
                have HB:=n1_
                clear n0_ n1_
                have p21:0≤(x7_3:Int):=of_decide_eq_true zq_
                have q21:x7_3<(l0.length:Int):=of_decide_eq_true zq_
                obtain ⟨ad21,e21,hx21_0,hx21_1,hx21_2,hx21_3,hx21_4,hx21_5,hx21_6,hx21_7,hx21_8,hx21_9,hx21_10,hx21_11⟩:=at_T31 HR0.out x7_3 p21 q21
                have hw21_11:=hx21_11
                have hw21_10:=hx21_10
                have hw21_9:=hx21_9
                have hw21_8:=hx21_8
                have hw21_7:=hx21_7
                have hw21_6:=hx21_6
                have hw21_5:=hx21_5
                have hw21_4:=hx21_4
                have hw21_3:=hx21_3
                have hw21_2:=hx21_2
                have hw21_1:=hx21_1
                have hw21_0:=hx21_0
                obtain rfl:ad19=ad21:=(by injection e21)
                replace hx21_0:=zx_ HB hx21_0
                replace hx21_1:=zx_ HB hx21_1
                replace hx21_2:=zx_ HB hx21_2
                replace hx21_3:=zx_ HB hx21_3
                replace hx21_4:=zx_ HB hx21_4
                replace hx21_5:=zx_ HB hx21_5
                replace hx21_6:=zx_ HB hx21_6
                replace hx21_7:=zx_ HB hx21_7
                replace hx21_8:=zx_ HB hx21_8
                replace hx21_9:=zx_ HB hx21_9
                replace hx21_10:=zx_ HB hx21_10
                replace hx21_11:=zx_ HB hx21_11
                replace p21:=eq_true p21
                replace q21:=eq_true q21
                have p22:0≤(x5_2:Int):=of_decide_eq_true zq_
                have q22:x5_2<(l0.length:Int):=of_decide_eq_true zq_
                obtain ⟨ad22,e22,hx22_0,hx22_1,hx22_2,hx22_3,hx22_4,hx22_5,hx22_6,hx22_7,hx22_8,hx22_9,hx22_10,hx22_11⟩:=at_T31 HR0.out x5_2 p22 q22
                have hw22_11:=hx22_11
                have hw22_10:=hx22_10
                have hw22_9:=hx22_9
                have hw22_8:=hx22_8
                have hw22_7:=hx22_7
                have hw22_6:=hx22_6
                have hw22_5:=hx22_5
                have hw22_4:=hx22_4
                have hw22_3:=hx22_3
                have hw22_2:=hx22_2
                have hw22_1:=hx22_1
                have hw22_0:=hx22_0
                obtain rfl:ad19=ad22:=(by injection e22)
                replace hx22_0:=zx_ HB hx22_0
                replace hx22_1:=zx_ HB hx22_1
                replace hx22_2:=zx_ HB hx22_2
                replace hx22_3:=zx_ HB hx22_3
                replace hx22_4:=zx_ HB hx22_4
                replace hx22_5:=zx_ HB hx22_5
                replace hx22_6:=zx_ HB hx22_6
                replace hx22_7:=zx_ HB hx22_7
                replace hx22_8:=zx_ HB hx22_8
                replace hx22_9:=zx_ HB hx22_9
                replace hx22_10:=zx_ HB hx22_10
                replace hx22_11:=zx_ HB hx22_11
                replace p22:=eq_true p22
                replace q22:=eq_true q22
                refine start_ (n:=11) (S:=fun w'=>w'.cell? (ad19.add ((x7_3).toNat*12))=some (.string ((rd_T31 l0 x7_3).f0))∧w'.cell? ⟨(ad19.add ((x7_3).toNat*12)).block,(ad19.add ((x7_3).toNat*12)).off+1,none⟩=some (.string ((rd_T31 l0 x7_3).f1))∧w'.cell? ⟨(ad19.add ((x7_3).toNat*12)).block,(ad19.add ((x7_3).toNat*12)).off+2,none⟩=some (.int .i64 ((rd_T31 l0 x7_3).f2.f0))∧w'.cell? ⟨(ad19.add ((x7_3).toNat*12)).block,(ad19.add ((x7_3).toNat*12)).off+3,none⟩=some (.int .i64 ((rd_T31 l0 x7_3).f2.f1))∧w'.cell? ⟨(ad19.add ((x7_3).toNat*12)).block,(ad19.add ((x7_3).toNat*12)).off+4,none⟩=some (.int .i64 ((rd_T31 l0 x7_3).f2.f2))∧w'.cell? ⟨(ad19.add ((x7_3).toNat*12)).block,(ad19.add ((x7_3).toNat*12)).off+5,none⟩=some (.int .i64 ((rd_T31 l0 x7_3).f3.f0))∧w'.cell? ⟨(ad19.add ((x7_3).toNat*12)).block,(ad19.add ((x7_3).toNat*12)).off+6,none⟩=some (.int .i64 ((rd_T31 l0 x7_3).f3.f1))∧w'.cell? ⟨(ad19.add ((x7_3).toNat*12)).block,(ad19.add ((x7_3).toNat*12)).off+7,none⟩=some (.int .i64 ((rd_T31 l0 x7_3).f3.f2))∧w'.cell? ⟨(ad19.add ((x7_3).toNat*12)).block,(ad19.add ((x7_3).toNat*12)).off+8,none⟩=some (.int .i64 ((rd_T31 l0 x7_3).f4.f0))∧w'.cell? ⟨(ad19.add ((x7_3).toNat*12)).block,(ad19.add ((x7_3).toNat*12)).off+9,none⟩=some (.int .i64 ((rd_T31 l0 x7_3).f4.f1))∧w'.cell? ⟨(ad19.add ((x7_3).toNat*12)).block,(ad19.add ((x7_3).toNat*12)).off+10,none⟩=some (.int .i64 ((rd_T31 l0 x7_3).f4.f2))∧w'.cell? ⟨(ad19.add ((x7_3).toNat*12)).block,(ad19.add ((x7_3).toNat*12)).off+11,none⟩=some (.int .i64 ((rd_T31 l0 x7_3).f5))∧w'.cell? (ad19.add ((x5_2).toNat*12))=some (.string ((rd_T31 l0 x5_2).f0))∧w'.cell? ⟨(ad19.add ((x5_2).toNat*12)).block,(ad19.add ((x5_2).toNat*12)).off+1,none⟩=some (.string ((rd_T31 l0 x5_2).f1))∧w'.cell? ⟨(ad19.add ((x5_2).toNat*12)).block,(ad19.add ((x5_2).toNat*12)).off+2,none⟩=some (.int .i64 ((rd_T31 l0 x5_2).f2.f0))∧w'.cell? ⟨(ad19.add ((x5_2).toNat*12)).block,(ad19.add ((x5_2).toNat*12)).off+3,none⟩=some (.int .i64 ((rd_T31 l0 x5_2).f2.f1))∧w'.cell? ⟨(ad19.add ((x5_2).toNat*12)).block,(ad19.add ((x5_2).toNat*12)).off+4,none⟩=some (.int .i64 ((rd_T31 l0 x5_2).f2.f2))∧w'.cell? ⟨(ad19.add ((x5_2).toNat*12)).block,(ad19.add ((x5_2).toNat*12)).off+5,none⟩=some (.int .i64 ((rd_T31 l0 x5_2).f3.f0))∧w'.cell? ⟨(ad19.add ((x5_2).toNat*12)).block,(ad19.add ((x5_2).toNat*12)).off+6,none⟩=some (.int .i64 ((rd_T31 l0 x5_2).f3.f1))∧w'.cell? ⟨(ad19.add ((x5_2).toNat*12)).block,(ad19.add ((x5_2).toNat*12)).off+7,none⟩=some (.int .i64 ((rd_T31 l0 x5_2).f3.f2))∧w'.cell? ⟨(ad19.add ((x5_2).toNat*12)).block,(ad19.add ((x5_2).toNat*12)).off+8,none⟩=some (.int .i64 ((rd_T31 l0 x5_2).f4.f0))∧w'.cell? ⟨(ad19.add ((x5_2).toNat*12)).block,(ad19.add ((x5_2).toNat*12)).off+9,none⟩=some (.int .i64 ((rd_T31 l0 x5_2).f4.f1))∧w'.cell? ⟨(ad19.add ((x5_2).toNat*12)).block,(ad19.add ((x5_2).toNat*12)).off+10,none⟩=some (.int .i64 ((rd_T31 l0 x5_2).f4.f2))∧w'.cell? ⟨(ad19.add ((x5_2).toNat*12)).block,(ad19.add ((x5_2).toNat*12)).off+11,none⟩=some (.int .i64 ((rd_T31 l0 x5_2).f5))) (ds:=[]) (bt_ 11 0) (by kernel_rfl) rfl rfl ⟨(zx_ HB hw21_0),(zx_ HB hw21_1),(zx_ HB hw21_2),(zx_ HB hw21_3),(zx_ HB hw21_4),(zx_ HB hw21_5),(zx_ HB hw21_6),(zx_ HB hw21_7),(zx_ HB hw21_8),(zx_ HB hw21_9),(zx_ HB hw21_10),(zx_ HB hw21_11),(zx_ HB hw22_0),(zx_ HB hw22_1),(zx_ HB hw22_2),(zx_ HB hw22_3),(zx_ HB hw22_4),(zx_ HB hw22_5),(zx_ HB hw22_6),(zx_ HB hw22_7),(zx_ HB hw22_8),(zx_ HB hw22_9),(zx_ HB hw22_10),(zx_ HB hw22_11)⟩ (fun hHeld=> ?_);refine with_tabW r10_Right.tab16 r10_Right.bits16 (fun HT_ HW_=> ?_)
                generalize wr.drew=w242 at BK20 HB hx21_0 hx21_1 hx21_10 hx21_11 hx21_2 hx21_3 hx21_4 hx21_5 hx21_6 hx21_7 hx21_8 hx21_9 hx22_0 hx22_1 hx22_10 hx22_11 hx22_2 hx22_3 hx22_4 hx22_5 hx22_6 hx22_7 hx22_8 hx22_9 hHeld ⊢
                refine pu_ (i:=0) (N:=some 105) (bt_ 11 1) HT_ ?_
                refine pu_ (i:=1) (N:=some 106) (bt_ 11 3) HT_ ?_
                refine pu_ (i:=2) (N:=some 107) (bt_ 11 7) HT_ ?_
                refine pu_ (i:=3) (N:=some 108) (bt_ 11 15) HT_ ?_
                refine pu_ (i:=5) (N:=some 110) (bt_ 11 47) HT_ ?_
                refine pu_ (i:=6) (N:=some 111) (bt_ 11 111) HT_ ?_
                refine pu_ (i:=7) (N:=some 112) (bt_ 11 239) HT_ ?_
                refine pu_ (i:=8) (N:=some 113) (bt_ 11 495) HT_ ?_
                refine tk_ (i:=4) (N:=some 109) (bt_ 11 511) HT_ HW_ hHeld ?_
                refine tk_ (i:=9) (N:=some 114) (bt_ 11 1023) HT_ HW_ hHeld ?_
                refine pu_ (i:=10) (N:=some 115) (bt_ 11 2047) HT_ ?_
                refine done_ (done_of HT_.out (by kernel_rfl)) ?_
                try go_wp2
                have n0_:=am_ (blk_drew BK20.out)
                have n1_:=am_ (below_drew1 HB.out)
                clear BK20
                clear HB
                have BK20:=n0_
                have HB:=n1_
                clear n0_ n1_
                have p23:0≤(x7_3:Int):=of_decide_eq_true zq_
                have q23:x7_3<(l0.length:Int):=of_decide_eq_true zq_
                obtain ⟨ad23,e23,hx23_0,hx23_1,hx23_2,hx23_3,hx23_4,hx23_5,hx23_6,hx23_7,hx23_8,hx23_9,hx23_10,hx23_11⟩:=at_T31 HR0.out x7_3 p23 q23
                have hw23_11:=hx23_11
                have hw23_10:=hx23_10
                have hw23_9:=hx23_9
                have hw23_8:=hx23_8
                have hw23_7:=hx23_7
                have hw23_6:=hx23_6
                have hw23_5:=hx23_5
                have hw23_4:=hx23_4
                have hw23_3:=hx23_3
                have hw23_2:=hx23_2
                have hw23_1:=hx23_1
                have hw23_0:=hx23_0
                obtain rfl:ad19=ad23:=(by injection e23)
                replace hx23_0:=zx_ HB hx23_0
                replace hx23_1:=zx_ HB hx23_1
                replace hx23_2:=zx_ HB hx23_2
                replace hx23_3:=zx_ HB hx23_3
                replace hx23_4:=zx_ HB hx23_4
                replace hx23_5:=zx_ HB hx23_5
                replace hx23_6:=zx_ HB hx23_6
                replace hx23_7:=zx_ HB hx23_7
                replace hx23_8:=zx_ HB hx23_8
                replace hx23_9:=zx_ HB hx23_9
                replace hx23_10:=zx_ HB hx23_10
                replace hx23_11:=zx_ HB hx23_11
                replace p23:=eq_true p23
                replace q23:=eq_true q23
                refine start_ (n:=8) (S:=fun w'=>w'.cell? ⟨gb20,0,none⟩=some (.int .i64 x21000_3)∧w'.cell? ⟨gb20,1,none⟩=some (.int .i64 x21001_3)∧w'.cell? ⟨gb20,2,none⟩=some (.int .i64 x21002_3)∧w'.cell? (ad19.add ((x7_3).toNat*12))=some (.string ((rd_T31 l0 x7_3).f0))∧w'.cell? ⟨(ad19.add ((x7_3).toNat*12)).block,(ad19.add ((x7_3).toNat*12)).off+1,none⟩=some (.string ((rd_T31 l0 x7_3).f1))∧w'.cell? ⟨(ad19.add ((x7_3).toNat*12)).block,(ad19.add ((x7_3).toNat*12)).off+2,none⟩=some (.int .i64 ((rd_T31 l0 x7_3).f2.f0))∧w'.cell? ⟨(ad19.add ((x7_3).toNat*12)).block,(ad19.add ((x7_3).toNat*12)).off+3,none⟩=some (.int .i64 ((rd_T31 l0 x7_3).f2.f1))∧w'.cell? ⟨(ad19.add ((x7_3).toNat*12)).block,(ad19.add ((x7_3).toNat*12)).off+4,none⟩=some (.int .i64 ((rd_T31 l0 x7_3).f2.f2))∧w'.cell? ⟨(ad19.add ((x7_3).toNat*12)).block,(ad19.add ((x7_3).toNat*12)).off+5,none⟩=some (.int .i64 ((rd_T31 l0 x7_3).f3.f0))∧w'.cell? ⟨(ad19.add ((x7_3).toNat*12)).block,(ad19.add ((x7_3).toNat*12)).off+6,none⟩=some (.int .i64 ((rd_T31 l0 x7_3).f3.f1))∧w'.cell? ⟨(ad19.add ((x7_3).toNat*12)).block,(ad19.add ((x7_3).toNat*12)).off+7,none⟩=some (.int .i64 ((rd_T31 l0 x7_3).f3.f2))∧w'.cell? ⟨(ad19.add ((x7_3).toNat*12)).block,(ad19.add ((x7_3).toNat*12)).off+8,none⟩=some (.int .i64 ((rd_T31 l0 x7_3).f4.f0))∧w'.cell? ⟨(ad19.add ((x7_3).toNat*12)).block,(ad19.add ((x7_3).toNat*12)).off+9,none⟩=some (.int .i64 ((rd_T31 l0 x7_3).f4.f1))∧w'.cell? ⟨(ad19.add ((x7_3).toNat*12)).block,(ad19.add ((x7_3).toNat*12)).off+10,none⟩=some (.int .i64 ((rd_T31 l0 x7_3).f4.f2))∧w'.cell? ⟨(ad19.add ((x7_3).toNat*12)).block,(ad19.add ((x7_3).toNat*12)).off+11,none⟩=some (.int .i64 ((rd_T31 l0 x7_3).f5))) (ds:=[7]) (bt_ 8 0) (by kernel_rfl) rfl rfl ⟨(blk_cell BK20.out 0).trans rfl,(blk_cell BK20.out 1).trans rfl,(blk_cell BK20.out 2).trans rfl,(zx_ HB hw23_0),(zx_ HB hw23_1),(zx_ HB hw23_2),(zx_ HB hw23_3),(zx_ HB hw23_4),(zx_ HB hw23_5),(zx_ HB hw23_6),(zx_ HB hw23_7),(zx_ HB hw23_8),(zx_ HB hw23_9),(zx_ HB hw23_10),(zx_ HB hw23_11)⟩ (fun hHeld=> ?_);refine with_tabW r10_Right.tab17 r10_Right.bits17 (fun HT_ HW_=> ?_)
                generalize w242.drew=w243 at BK20 HB hx23_0 hx23_1 hx23_10 hx23_11 hx23_2 hx23_3 hx23_4 hx23_5 hx23_6 hx23_7 hx23_8 hx23_9 hHeld ⊢
                refine pu_ (i:=1) (N:=some 117) (bt_ 8 2) HT_ ?_
                refine pu_ (i:=2) (N:=some 118) (bt_ 8 6) HT_ ?_
                refine pu_ (i:=3) (N:=some 119) (bt_ 8 14) HT_ ?_
                refine pu_ (i:=4) (N:=some 120) (bt_ 8 30) HT_ ?_
                refine tk_ (i:=0) (N:=some 116) (bt_ 8 31) HT_ HW_ hHeld ?_
                refine tk_ (i:=5) (N:=some 121) (bt_ 8 63) HT_ HW_ hHeld ?_
                refine one_ (i:=6) (N:=some 122) (bt_ 8 127) rfl rfl (one_of HT_.out (by kernel_rfl)) (by decide) (fun K hK=> ?_)
                refine goes_ Try.func63 (by kernel_rfl) rfl #[.agg #[.int .i64 x21000_3, .int .i64 x21001_3, .int .i64 x21002_3], .agg #[.int .i64 ((rd_T31 l0 x7_3).f4.f0), .int .i64 ((rd_T31 l0 x7_3).f4.f1), .int .i64 ((rd_T31 l0 x7_3).f4.f2)]] (by rfl) rfl rfl zs_ ?_
                with_reducible refine (r10_Add.calls x21000_3 x21001_3 x21002_3 ((rd_T31 l0 x7_3).f4.f0) ((rd_T31 l0 x7_3).f4.f1) ((rd_T31 l0 x7_3).f4.f2) t24 t25 t26 _ A241.out).mono ?_
                rintro e w244 ⟨rfl,hb⟩
                refine ⟨_,rfl, ?_⟩
                have n0_:=am_ (blk_below (zb_ BK20) hb)
                have n1_:=am_ (below_step (zl1_ HB GE20) hb)
                clear BK20
                clear HB
                have BK20:=n0_
                have HB:=n1_
                clear n0_ n1_
                (try clear hb)
                (try clear hb2)
                (try clear hk)
                (try clear hi)
                refine hK.out _ _ ⟨(blk_cell BK20.out 0).trans rfl,(blk_cell BK20.out 1).trans rfl,(blk_cell BK20.out 2).trans rfl,(zx_ HB hw23_0),(zx_ HB hw23_1),(zx_ HB hw23_2),(zx_ HB hw23_3),(zx_ HB hw23_4),(zx_ HB hw23_5),(zx_ HB hw23_6),(zx_ HB hw23_7),(zx_ HB hw23_8),(zx_ HB hw23_9),(zx_ HB hw23_10),(zx_ HB hw23_11)⟩ (fun hHeld=> ?_)
                clear hK K
                refine no_ (N:=some 122) ?_
                refine last_ (i:=7) (N:=none) (bt_ 8 255) rfl rfl (one_of HT_.out (by kernel_rfl)) (by decide) (fun K hK=> ?_)
                have hs245:w244.cell? ⟨gb20,0,none⟩=some (.int .i64 x21000_3):=(blk_cell BK20.out 0).trans rfl
                have hfs245:=blk_frozen BK20.out 0
                have hs246:w244.cell? ⟨gb20,1,none⟩=some (.int .i64 x21001_3):=(blk_cell BK20.out 1).trans rfl
                have hfs246:=blk_frozen BK20.out 1
                have hs247:w244.cell? ⟨gb20,2,none⟩=some (.int .i64 x21002_3):=(blk_cell BK20.out 2).trans rfl
                have hfs247:=blk_frozen BK20.out 2
                refine skip_ (w1:= ?_) (by rfl) rfl ?_ ?_
                rotate_left
                ·go_simp
                 rfl
                refine hK.out _ _ ?_
                clear hK K
                refine done_ (done_of HT_.out (by kernel_rfl)) ?_
                try go_wp2
                go_roundg k3
                case measure=>have:=HK1.out;have:=HK2.out;have:=HK3.out;omega
                case rel=>exact ⟨(wrap64 (x7_3+1)),(t24),(t25),(t26),(by first|rfl|(simp;done)|(simp [*];done)),H',⟨by have:=HK1.out;have:=HK2.out;have:=HK3.out;omega⟩,⟨by refine zk_ ?_;refine blk_put (cs:=#[.int .i64 t24, .int .i64 t25, .int .i64 x21002_3]) ?_ 2 _ rfl;refine zk_ ?_;refine blk_put (cs:=#[.int .i64 t24, .int .i64 x21001_3, .int .i64 x21002_3]) ?_ 1 _ rfl;refine zk_ ?_;refine blk_put (cs:=#[.int .i64 x21000_3, .int .i64 x21001_3, .int .i64 x21002_3]) ?_ 0 _ rfl;refine zk_ ?_;exact BK20.out⟩,⟨zl1_ HB GE20⟩⟩
               ·rw [if_neg c240] at H
                have c240b0:(((rd_T31 l0 x7_3).f1).toList==((rd_T31 l0 x5_2).f0).toList)=false:=beq_eq_false_iff_ne.mpr c240
                have c240b1:(((rd_T31 l0 x7_3).f1).toList !=((rd_T31 l0 x5_2).f0).toList)=true:=bne_iff_ne.mpr c240
                have H':=Aside0.mk H
                clear H
                try go_wp2
                have n0_:=am_ (blk_drew BK20.out)
                have n1_:=am_ (below_drew1 HB.out)
                clear BK20
                clear HB
                have BK20:=n0_
                have HB:=n1_
                clear n0_ n1_
                have p21:0≤(x7_3:Int):=of_decide_eq_true zq_
                have q21:x7_3<(l0.length:Int):=of_decide_eq_true zq_
                obtain ⟨ad21,e21,hx21_0,hx21_1,hx21_2,hx21_3,hx21_4,hx21_5,hx21_6,hx21_7,hx21_8,hx21_9,hx21_10,hx21_11⟩:=at_T31 HR0.out x7_3 p21 q21
                have hw21_11:=hx21_11
                have hw21_10:=hx21_10
                have hw21_9:=hx21_9
                have hw21_8:=hx21_8
                have hw21_7:=hx21_7
                have hw21_6:=hx21_6
                have hw21_5:=hx21_5
                have hw21_4:=hx21_4
                have hw21_3:=hx21_3
                have hw21_2:=hx21_2
                have hw21_1:=hx21_1
                have hw21_0:=hx21_0
                obtain rfl:ad19=ad21:=(by injection e21)
                replace hx21_0:=zx_ HB hx21_0
                replace hx21_1:=zx_ HB hx21_1
                replace hx21_2:=zx_ HB hx21_2
                replace hx21_3:=zx_ HB hx21_3
                replace hx21_4:=zx_ HB hx21_4
                replace hx21_5:=zx_ HB hx21_5
                replace hx21_6:=zx_ HB hx21_6
                replace hx21_7:=zx_ HB hx21_7
                replace hx21_8:=zx_ HB hx21_8
                replace hx21_9:=zx_ HB hx21_9
                replace hx21_10:=zx_ HB hx21_10
                replace hx21_11:=zx_ HB hx21_11
                replace p21:=eq_true p21
                replace q21:=eq_true q21
                have p22:0≤(x5_2:Int):=of_decide_eq_true zq_
                have q22:x5_2<(l0.length:Int):=of_decide_eq_true zq_
                obtain ⟨ad22,e22,hx22_0,hx22_1,hx22_2,hx22_3,hx22_4,hx22_5,hx22_6,hx22_7,hx22_8,hx22_9,hx22_10,hx22_11⟩:=at_T31 HR0.out x5_2 p22 q22
                have hw22_11:=hx22_11
                have hw22_10:=hx22_10
                have hw22_9:=hx22_9
                have hw22_8:=hx22_8
                have hw22_7:=hx22_7
                have hw22_6:=hx22_6
                have hw22_5:=hx22_5
                have hw22_4:=hx22_4
                have hw22_3:=hx22_3
                have hw22_2:=hx22_2
                have hw22_1:=hx22_1
                have hw22_0:=hx22_0
                obtain rfl:ad19=ad22:=(by injection e22)
                replace hx22_0:=zx_ HB hx22_0
                replace hx22_1:=zx_ HB hx22_1
                replace hx22_2:=zx_ HB hx22_2
                replace hx22_3:=zx_ HB hx22_3
                replace hx22_4:=zx_ HB hx22_4
                replace hx22_5:=zx_ HB hx22_5
                replace hx22_6:=zx_ HB hx22_6
                replace hx22_7:=zx_ HB hx22_7
                replace hx22_8:=zx_ HB hx22_8
                replace hx22_9:=zx_ HB hx22_9
                replace hx22_10:=zx_ HB hx22_10
                replace hx22_11:=zx_ HB hx22_11
                replace p22:=eq_true p22
                replace q22:=eq_true q22
                refine start_ (n:=11) (S:=fun w'=>w'.cell? (ad19.add ((x7_3).toNat*12))=some (.string ((rd_T31 l0 x7_3).f0))∧w'.cell? ⟨(ad19.add ((x7_3).toNat*12)).block,(ad19.add ((x7_3).toNat*12)).off+1,none⟩=some (.string ((rd_T31 l0 x7_3).f1))∧w'.cell? ⟨(ad19.add ((x7_3).toNat*12)).block,(ad19.add ((x7_3).toNat*12)).off+2,none⟩=some (.int .i64 ((rd_T31 l0 x7_3).f2.f0))∧w'.cell? ⟨(ad19.add ((x7_3).toNat*12)).block,(ad19.add ((x7_3).toNat*12)).off+3,none⟩=some (.int .i64 ((rd_T31 l0 x7_3).f2.f1))∧w'.cell? ⟨(ad19.add ((x7_3).toNat*12)).block,(ad19.add ((x7_3).toNat*12)).off+4,none⟩=some (.int .i64 ((rd_T31 l0 x7_3).f2.f2))∧w'.cell? ⟨(ad19.add ((x7_3).toNat*12)).block,(ad19.add ((x7_3).toNat*12)).off+5,none⟩=some (.int .i64 ((rd_T31 l0 x7_3).f3.f0))∧w'.cell? ⟨(ad19.add ((x7_3).toNat*12)).block,(ad19.add ((x7_3).toNat*12)).off+6,none⟩=some (.int .i64 ((rd_T31 l0 x7_3).f3.f1))∧w'.cell? ⟨(ad19.add ((x7_3).toNat*12)).block,(ad19.add ((x7_3).toNat*12)).off+7,none⟩=some (.int .i64 ((rd_T31 l0 x7_3).f3.f2))∧w'.cell? ⟨(ad19.add ((x7_3).toNat*12)).block,(ad19.add ((x7_3).toNat*12)).off+8,none⟩=some (.int .i64 ((rd_T31 l0 x7_3).f4.f0))∧w'.cell? ⟨(ad19.add ((x7_3).toNat*12)).block,(ad19.add ((x7_3).toNat*12)).off+9,none⟩=some (.int .i64 ((rd_T31 l0 x7_3).f4.f1))∧w'.cell? ⟨(ad19.add ((x7_3).toNat*12)).block,(ad19.add ((x7_3).toNat*12)).off+10,none⟩=some (.int .i64 ((rd_T31 l0 x7_3).f4.f2))∧w'.cell? ⟨(ad19.add ((x7_3).toNat*12)).block,(ad19.add ((x7_3).toNat*12)).off+11,none⟩=some (.int .i64 ((rd_T31 l0 x7_3).f5))∧w'.cell? (ad19.add ((x5_2).toNat*12))=some (.string ((rd_T31 l0 x5_2).f0))∧w'.cell? ⟨(ad19.add ((x5_2).toNat*12)).block,(ad19.add ((x5_2).toNat*12)).off+1,none⟩=some (.string ((rd_T31 l0 x5_2).f1))∧w'.cell? ⟨(ad19.add ((x5_2).toNat*12)).block,(ad19.add ((x5_2).toNat*12)).off+2,none⟩=some (.int .i64 ((rd_T31 l0 x5_2).f2.f0))∧w'.cell? ⟨(ad19.add ((x5_2).toNat*12)).block,(ad19.add ((x5_2).toNat*12)).off+3,none⟩=some (.int .i64 ((rd_T31 l0 x5_2).f2.f1))∧w'.cell? ⟨(ad19.add ((x5_2).toNat*12)).block,(ad19.add ((x5_2).toNat*12)).off+4,none⟩=some (.int .i64 ((rd_T31 l0 x5_2).f2.f2))∧w'.cell? ⟨(ad19.add ((x5_2).toNat*12)).block,(ad19.add ((x5_2).toNat*12)).off+5,none⟩=some (.int .i64 ((rd_T31 l0 x5_2).f3.f0))∧w'.cell? ⟨(ad19.add ((x5_2).toNat*12)).block,(ad19.add ((x5_2).toNat*12)).off+6,none⟩=some (.int .i64 ((rd_T31 l0 x5_2).f3.f1))∧w'.cell? ⟨(ad19.add ((x5_2).toNat*12)).block,(ad19.add ((x5_2).toNat*12)).off+7,none⟩=some (.int .i64 ((rd_T31 l0 x5_2).f3.f2))∧w'.cell? ⟨(ad19.add ((x5_2).toNat*12)).block,(ad19.add ((x5_2).toNat*12)).off+8,none⟩=some (.int .i64 ((rd_T31 l0 x5_2).f4.f0))∧w'.cell? ⟨(ad19.add ((x5_2).toNat*12)).block,(ad19.add ((x5_2).toNat*12)).off+9,none⟩=some (.int .i64 ((rd_T31 l0 x5_2).f4.f1))∧w'.cell? ⟨(ad19.add ((x5_2).toNat*12)).block,(ad19.add ((x5_2).toNat*12)).off+10,none⟩=some (.int .i64 ((rd_T31 l0 x5_2).f4.f2))∧w'.cell? ⟨(ad19.add ((x5_2).toNat*12)).block,(ad19.add ((x5_2).toNat*12)).off+11,none⟩=some (.int .i64 ((rd_T31 l0 x5_2).f5))) (ds:=[]) (bt_ 11 0) (by kernel_rfl) rfl rfl ⟨(zx_ HB hw21_0),(zx_ HB hw21_1),(zx_ HB hw21_2),(zx_ HB hw21_3),(zx_ HB hw21_4),(zx_ HB hw21_5),(zx_ HB hw21_6),(zx_ HB hw21_7),(zx_ HB hw21_8),(zx_ HB hw21_9),(zx_ HB hw21_10),(zx_ HB hw21_11),(zx_ HB hw22_0),(zx_ HB hw22_1),(zx_ HB hw22_2),(zx_ HB hw22_3),(zx_ HB hw22_4),(zx_ HB hw22_5),(zx_ HB hw22_6),(zx_ HB hw22_7),(zx_ HB hw22_8),(zx_ HB hw22_9),(zx_ HB hw22_10),(zx_ HB hw22_11)⟩ (fun hHeld=> ?_);refine with_tabW r10_Right.tab16 r10_Right.bits16 (fun HT_ HW_=> ?_)
                generalize wr.drew=w248 at BK20 HB hx21_0 hx21_1 hx21_10 hx21_11 hx21_2 hx21_3 hx21_4 hx21_5 hx21_6 hx21_7 hx21_8 hx21_9 hx22_0 hx22_1 hx22_10 hx22_11 hx22_2 hx22_3 hx22_4 hx22_5 hx22_6 hx22_7 hx22_8 hx22_9 hHeld ⊢
                refine pu_ (i:=0) (N:=some 105) (bt_ 11 1) HT_ ?_
                refine pu_ (i:=1) (N:=some 106) (bt_ 11 3) HT_ ?_
                refine pu_ (i:=2) (N:=some 107) (bt_ 11 7) HT_ ?_
                refine pu_ (i:=3) (N:=some 108) (bt_ 11 15) HT_ ?_
                refine pu_ (i:=5) (N:=some 110) (bt_ 11 47) HT_ ?_
                refine pu_ (i:=6) (N:=some 111) (bt_ 11 111) HT_ ?_
                refine pu_ (i:=7) (N:=some 112) (bt_ 11 239) HT_ ?_
                refine pu_ (i:=8) (N:=some 113) (bt_ 11 495) HT_ ?_
                refine tk_ (i:=4) (N:=some 109) (bt_ 11 511) HT_ HW_ hHeld ?_
                refine tk_ (i:=9) (N:=some 114) (bt_ 11 1023) HT_ HW_ hHeld ?_
                refine pu_ (i:=10) (N:=some 115) (bt_ 11 2047) HT_ ?_
                refine done_ (done_of HT_.out (by kernel_rfl)) ?_
                try go_wp2
                go_roundg k3
                case measure=>have:=HK1.out;have:=HK2.out;have:=HK3.out;omega
                case rel=>exact ⟨(wrap64 (x7_3+1)),(x21000_3),(x21001_3),(x21002_3),(by first|rfl|(simp;done)|(simp [*];done)),H',⟨by have:=HK1.out;have:=HK2.out;have:=HK3.out;omega⟩,⟨by refine zk_ ?_;exact BK20.out⟩,⟨zl1_ HB GE20⟩⟩
              ·rw [if_neg c239] at H
               exact absurd H (by simp)
             ·rw [if_neg c238] at H
              exact absurd H (by simp)
            ·rw [if_neg c237] at H
             exact absurd H (by simp)
           ·rw [if_neg c236] at H
            have c236b0:decide (x7_3<(l0.length:Int))=false:=decide_eq_false c236
            clear c236
            by_cases c249:0≤x5_2
            ·rw [if_pos c249] at H
             have c249b0:decide (0≤x5_2)=true:=decide_eq_true c249
             clear c249
             by_cases c250:x5_2<(l0.length:Int)
             ·rw [if_pos c250] at H
              have c250b0:decide (x5_2<(l0.length:Int))=true:=decide_eq_true c250
              clear c250
              by_cases c251:(!(x21000_3==((rd_T31 l0 x5_2).f4.f0))||(!(x21001_3==((rd_T31 l0 x5_2).f4.f1))||(!(x21002_3==((rd_T31 l0 x5_2).f4.f2)))))=true
              ·rw [if_pos c251] at H
               have c251b0:(!(x21000_3==((rd_T31 l0 x5_2).f4.f0))||(!(x21001_3==((rd_T31 l0 x5_2).f4.f1))||(!(x21002_3==((rd_T31 l0 x5_2).f4.f2)))))=true:=c251
               clear c251
               obtain rfl:=Option.some.inj H
               try go_wp2
               have n0_:=am_ (blk_drew BK20.out)
               have n1_:=am_ (below_drew1 HB.out)
               clear BK20
               clear HB
               have BK20:=n0_
               have HB:=n1_
               clear n0_ n1_
               have p27:0≤(x5_2:Int):=of_decide_eq_true zq_
               have q27:x5_2<(l0.length:Int):=of_decide_eq_true zq_
               obtain ⟨ad27,e27,hx27_0,hx27_1,hx27_2,hx27_3,hx27_4,hx27_5,hx27_6,hx27_7,hx27_8,hx27_9,hx27_10,hx27_11⟩:=at_T31 HR0.out x5_2 p27 q27
               have hw27_11:=hx27_11
               have hw27_10:=hx27_10
               have hw27_9:=hx27_9
               have hw27_8:=hx27_8
               have hw27_7:=hx27_7
               have hw27_6:=hx27_6
               have hw27_5:=hx27_5
               have hw27_4:=hx27_4
               have hw27_3:=hx27_3
               have hw27_2:=hx27_2
               have hw27_1:=hx27_1
               have hw27_0:=hx27_0
               obtain rfl:ad19=ad27:=(by injection e27)
               replace hx27_0:=zx_ HB hx27_0
               replace hx27_1:=zx_ HB hx27_1
               replace hx27_2:=zx_ HB hx27_2
               replace hx27_3:=zx_ HB hx27_3
               replace hx27_4:=zx_ HB hx27_4
               replace hx27_5:=zx_ HB hx27_5
               replace hx27_6:=zx_ HB hx27_6
               replace hx27_7:=zx_ HB hx27_7
               replace hx27_8:=zx_ HB hx27_8
               replace hx27_9:=zx_ HB hx27_9
               replace hx27_10:=zx_ HB hx27_10
               replace hx27_11:=zx_ HB hx27_11
               replace p27:=eq_true p27
               replace q27:=eq_true q27
               refine start_ (n:=20) (S:=fun w'=>w'.cell? ⟨gb20,0,none⟩=some (.int .i64 x21000_3)∧w'.cell? ⟨gb20,1,none⟩=some (.int .i64 x21001_3)∧w'.cell? ⟨gb20,2,none⟩=some (.int .i64 x21002_3)∧w'.cell? (ad19.add ((x5_2).toNat*12))=some (.string ((rd_T31 l0 x5_2).f0))∧w'.cell? ⟨(ad19.add ((x5_2).toNat*12)).block,(ad19.add ((x5_2).toNat*12)).off+1,none⟩=some (.string ((rd_T31 l0 x5_2).f1))∧w'.cell? ⟨(ad19.add ((x5_2).toNat*12)).block,(ad19.add ((x5_2).toNat*12)).off+2,none⟩=some (.int .i64 ((rd_T31 l0 x5_2).f2.f0))∧w'.cell? ⟨(ad19.add ((x5_2).toNat*12)).block,(ad19.add ((x5_2).toNat*12)).off+3,none⟩=some (.int .i64 ((rd_T31 l0 x5_2).f2.f1))∧w'.cell? ⟨(ad19.add ((x5_2).toNat*12)).block,(ad19.add ((x5_2).toNat*12)).off+4,none⟩=some (.int .i64 ((rd_T31 l0 x5_2).f2.f2))∧w'.cell? ⟨(ad19.add ((x5_2).toNat*12)).block,(ad19.add ((x5_2).toNat*12)).off+5,none⟩=some (.int .i64 ((rd_T31 l0 x5_2).f3.f0))∧w'.cell? ⟨(ad19.add ((x5_2).toNat*12)).block,(ad19.add ((x5_2).toNat*12)).off+6,none⟩=some (.int .i64 ((rd_T31 l0 x5_2).f3.f1))∧w'.cell? ⟨(ad19.add ((x5_2).toNat*12)).block,(ad19.add ((x5_2).toNat*12)).off+7,none⟩=some (.int .i64 ((rd_T31 l0 x5_2).f3.f2))∧w'.cell? ⟨(ad19.add ((x5_2).toNat*12)).block,(ad19.add ((x5_2).toNat*12)).off+8,none⟩=some (.int .i64 ((rd_T31 l0 x5_2).f4.f0))∧w'.cell? ⟨(ad19.add ((x5_2).toNat*12)).block,(ad19.add ((x5_2).toNat*12)).off+9,none⟩=some (.int .i64 ((rd_T31 l0 x5_2).f4.f1))∧w'.cell? ⟨(ad19.add ((x5_2).toNat*12)).block,(ad19.add ((x5_2).toNat*12)).off+10,none⟩=some (.int .i64 ((rd_T31 l0 x5_2).f4.f2))∧w'.cell? ⟨(ad19.add ((x5_2).toNat*12)).block,(ad19.add ((x5_2).toNat*12)).off+11,none⟩=some (.int .i64 ((rd_T31 l0 x5_2).f5))) (ds:=[]) (bt_ 20 0) (by kernel_rfl) rfl rfl ⟨(blk_cell BK20.out 0).trans rfl,(blk_cell BK20.out 1).trans rfl,(blk_cell BK20.out 2).trans rfl,(zx_ HB hw27_0),(zx_ HB hw27_1),(zx_ HB hw27_2),(zx_ HB hw27_3),(zx_ HB hw27_4),(zx_ HB hw27_5),(zx_ HB hw27_6),(zx_ HB hw27_7),(zx_ HB hw27_8),(zx_ HB hw27_9),(zx_ HB hw27_10),(zx_ HB hw27_11)⟩ (fun hHeld=> ?_);refine with_tabW r10_Right.tab18 r10_Right.bits18 (fun HT_ HW_=> ?_)
               generalize wr.drew=w252 at BK20 HB hx27_0 hx27_1 hx27_10 hx27_11 hx27_2 hx27_3 hx27_4 hx27_5 hx27_6 hx27_7 hx27_8 hx27_9 hHeld ⊢
               refine pu_ (i:=1) (N:=some 124) (bt_ 20 2) HT_ ?_
               refine pu_ (i:=2) (N:=some 125) (bt_ 20 6) HT_ ?_
               refine pu_ (i:=3) (N:=some 126) (bt_ 20 14) HT_ ?_
               refine pu_ (i:=4) (N:=some 127) (bt_ 20 30) HT_ ?_
               refine tk_ (i:=0) (N:=some 123) (bt_ 20 31) HT_ HW_ hHeld ?_
               refine tk_ (i:=5) (N:=some 128) (bt_ 20 63) HT_ HW_ hHeld ?_
               refine pu_ (i:=6) (N:=some 129) (bt_ 20 127) HT_ ?_
               refine pu_ (i:=7) (N:=some 130) (bt_ 20 255) HT_ ?_
               refine pn_ (i:=8) (N:=some 131) (bt_ 20 511) HT_ ?_
               refine pn_ (i:=9) (N:=some 132) (bt_ 20 1023) HT_ ?_
               refine pn_ (i:=10) (N:=some 133) (bt_ 20 2047) HT_ ?_
               refine pn_ (i:=11) (N:=some 134) (bt_ 20 4095) HT_ ?_
               refine pn_ (i:=12) (N:=some 135) (bt_ 20 8191) HT_ ?_
               refine pn_ (i:=13) (N:=some 136) (bt_ 20 16383) HT_ ?_
               refine pn_ (i:=14) (N:=some 137) (bt_ 20 32767) HT_ ?_
               refine pn_ (i:=15) (N:=some 138) (bt_ 20 65535) HT_ ?_
               refine pn_ (i:=16) (N:=some 139) (bt_ 20 131071) HT_ ?_
               refine pn_ (i:=17) (N:=some 140) (bt_ 20 262143) HT_ ?_
               refine pn_ (i:=18) (N:=some 141) (bt_ 20 524287) HT_ ?_
               refine pu_ (i:=19) (N:=some 142) (bt_ 20 1048575) HT_ ?_
               refine done_ (done_of HT_.out (by kernel_rfl)) ?_
               try go_wp2
               go_ret
               exact ⟨by first|rfl|(simp [errW_none,errW_some]<;>rfl)|(simp [*,errW_none,errW_some]<;>rfl),zl1_ HB GE20⟩
              ·rw [if_neg c251] at H
               have c251b0:(!(x21000_3==((rd_T31 l0 x5_2).f4.f0))||(!(x21001_3==((rd_T31 l0 x5_2).f4.f1))||(!(x21002_3==((rd_T31 l0 x5_2).f4.f2)))))=false:=by simpa using c251
               clear c251
               replace H:=Option.bind_eq_some_iff.mp H
               obtain ⟨t29,A2530,H⟩:=H
               replace H:(if (t29.length:Int)>(l0.length:Int) then (some false) else (r10_Right.l1 k3 l0 (wrap64 (x5_2+1))))=some r:=H
               have A253:=Aside0.mk A2530
               clear A2530
               by_cases c254:(t29.length:Int)>(l0.length:Int)
               ·rw [if_pos c254] at H
                have c254b0:decide ((l0.length:Int)<(t29.length:Int))=true:=decide_eq_true c254
                have c254b1:decide (l0.length<t29.length)=true:=decide_eq_true (Int.ofNat_lt.mp c254)
                clear c254
                obtain rfl:=Option.some.inj H
                try go_wp2
                have n0_:=am_ (blk_drew BK20.out)
                have n1_:=am_ (below_drew1 HB.out)
                clear BK20
                clear HB
                have BK20:=n0_
                have HB:=n1_
                clear n0_ n1_
                have p27:0≤(x5_2:Int):=of_decide_eq_true zq_
                have q27:x5_2<(l0.length:Int):=of_decide_eq_true zq_
                obtain ⟨ad27,e27,hx27_0,hx27_1,hx27_2,hx27_3,hx27_4,hx27_5,hx27_6,hx27_7,hx27_8,hx27_9,hx27_10,hx27_11⟩:=at_T31 HR0.out x5_2 p27 q27
                have hw27_11:=hx27_11
                have hw27_10:=hx27_10
                have hw27_9:=hx27_9
                have hw27_8:=hx27_8
                have hw27_7:=hx27_7
                have hw27_6:=hx27_6
                have hw27_5:=hx27_5
                have hw27_4:=hx27_4
                have hw27_3:=hx27_3
                have hw27_2:=hx27_2
                have hw27_1:=hx27_1
                have hw27_0:=hx27_0
                obtain rfl:ad19=ad27:=(by injection e27)
                replace hx27_0:=zx_ HB hx27_0
                replace hx27_1:=zx_ HB hx27_1
                replace hx27_2:=zx_ HB hx27_2
                replace hx27_3:=zx_ HB hx27_3
                replace hx27_4:=zx_ HB hx27_4
                replace hx27_5:=zx_ HB hx27_5
                replace hx27_6:=zx_ HB hx27_6
                replace hx27_7:=zx_ HB hx27_7
                replace hx27_8:=zx_ HB hx27_8
                replace hx27_9:=zx_ HB hx27_9
                replace hx27_10:=zx_ HB hx27_10
                replace hx27_11:=zx_ HB hx27_11
                replace p27:=eq_true p27
                replace q27:=eq_true q27
                have p28:0≤(x5_2:Int):=of_decide_eq_true zq_
                have q28:x5_2<(l0.length:Int):=of_decide_eq_true zq_
                obtain ⟨ad28,e28,hx28_0,hx28_1,hx28_2,hx28_3,hx28_4,hx28_5,hx28_6,hx28_7,hx28_8,hx28_9,hx28_10,hx28_11⟩:=at_T31 HR0.out x5_2 p28 q28
                have hw28_11:=hx28_11
                have hw28_10:=hx28_10
                have hw28_9:=hx28_9
                have hw28_8:=hx28_8
                have hw28_7:=hx28_7
                have hw28_6:=hx28_6
                have hw28_5:=hx28_5
                have hw28_4:=hx28_4
                have hw28_3:=hx28_3
                have hw28_2:=hx28_2
                have hw28_1:=hx28_1
                have hw28_0:=hx28_0
                obtain rfl:ad19=ad28:=(by injection e28)
                replace hx28_0:=zx_ HB hx28_0
                replace hx28_1:=zx_ HB hx28_1
                replace hx28_2:=zx_ HB hx28_2
                replace hx28_3:=zx_ HB hx28_3
                replace hx28_4:=zx_ HB hx28_4
                replace hx28_5:=zx_ HB hx28_5
                replace hx28_6:=zx_ HB hx28_6
                replace hx28_7:=zx_ HB hx28_7
                replace hx28_8:=zx_ HB hx28_8
                replace hx28_9:=zx_ HB hx28_9
                replace hx28_10:=zx_ HB hx28_10
                replace hx28_11:=zx_ HB hx28_11
                replace p28:=eq_true p28
                replace q28:=eq_true q28
                refine start_ (n:=20) (S:=fun w'=>w'.cell? ⟨gb20,0,none⟩=some (.int .i64 x21000_3)∧w'.cell? ⟨gb20,1,none⟩=some (.int .i64 x21001_3)∧w'.cell? ⟨gb20,2,none⟩=some (.int .i64 x21002_3)∧w'.cell? (ad19.add ((x5_2).toNat*12))=some (.string ((rd_T31 l0 x5_2).f0))∧w'.cell? ⟨(ad19.add ((x5_2).toNat*12)).block,(ad19.add ((x5_2).toNat*12)).off+1,none⟩=some (.string ((rd_T31 l0 x5_2).f1))∧w'.cell? ⟨(ad19.add ((x5_2).toNat*12)).block,(ad19.add ((x5_2).toNat*12)).off+2,none⟩=some (.int .i64 ((rd_T31 l0 x5_2).f2.f0))∧w'.cell? ⟨(ad19.add ((x5_2).toNat*12)).block,(ad19.add ((x5_2).toNat*12)).off+3,none⟩=some (.int .i64 ((rd_T31 l0 x5_2).f2.f1))∧w'.cell? ⟨(ad19.add ((x5_2).toNat*12)).block,(ad19.add ((x5_2).toNat*12)).off+4,none⟩=some (.int .i64 ((rd_T31 l0 x5_2).f2.f2))∧w'.cell? ⟨(ad19.add ((x5_2).toNat*12)).block,(ad19.add ((x5_2).toNat*12)).off+5,none⟩=some (.int .i64 ((rd_T31 l0 x5_2).f3.f0))∧w'.cell? ⟨(ad19.add ((x5_2).toNat*12)).block,(ad19.add ((x5_2).toNat*12)).off+6,none⟩=some (.int .i64 ((rd_T31 l0 x5_2).f3.f1))∧w'.cell? ⟨(ad19.add ((x5_2).toNat*12)).block,(ad19.add ((x5_2).toNat*12)).off+7,none⟩=some (.int .i64 ((rd_T31 l0 x5_2).f3.f2))∧w'.cell? ⟨(ad19.add ((x5_2).toNat*12)).block,(ad19.add ((x5_2).toNat*12)).off+8,none⟩=some (.int .i64 ((rd_T31 l0 x5_2).f4.f0))∧w'.cell? ⟨(ad19.add ((x5_2).toNat*12)).block,(ad19.add ((x5_2).toNat*12)).off+9,none⟩=some (.int .i64 ((rd_T31 l0 x5_2).f4.f1))∧w'.cell? ⟨(ad19.add ((x5_2).toNat*12)).block,(ad19.add ((x5_2).toNat*12)).off+10,none⟩=some (.int .i64 ((rd_T31 l0 x5_2).f4.f2))∧w'.cell? ⟨(ad19.add ((x5_2).toNat*12)).block,(ad19.add ((x5_2).toNat*12)).off+11,none⟩=some (.int .i64 ((rd_T31 l0 x5_2).f5))∧w'.cell? (ad19.add ((x5_2).toNat*12))=some (.string ((rd_T31 l0 x5_2).f0))∧w'.cell? ⟨(ad19.add ((x5_2).toNat*12)).block,(ad19.add ((x5_2).toNat*12)).off+1,none⟩=some (.string ((rd_T31 l0 x5_2).f1))∧w'.cell? ⟨(ad19.add ((x5_2).toNat*12)).block,(ad19.add ((x5_2).toNat*12)).off+2,none⟩=some (.int .i64 ((rd_T31 l0 x5_2).f2.f0))∧w'.cell? ⟨(ad19.add ((x5_2).toNat*12)).block,(ad19.add ((x5_2).toNat*12)).off+3,none⟩=some (.int .i64 ((rd_T31 l0 x5_2).f2.f1))∧w'.cell? ⟨(ad19.add ((x5_2).toNat*12)).block,(ad19.add ((x5_2).toNat*12)).off+4,none⟩=some (.int .i64 ((rd_T31 l0 x5_2).f2.f2))∧w'.cell? ⟨(ad19.add ((x5_2).toNat*12)).block,(ad19.add ((x5_2).toNat*12)).off+5,none⟩=some (.int .i64 ((rd_T31 l0 x5_2).f3.f0))∧w'.cell? ⟨(ad19.add ((x5_2).toNat*12)).block,(ad19.add ((x5_2).toNat*12)).off+6,none⟩=some (.int .i64 ((rd_T31 l0 x5_2).f3.f1))∧w'.cell? ⟨(ad19.add ((x5_2).toNat*12)).block,(ad19.add ((x5_2).toNat*12)).off+7,none⟩=some (.int .i64 ((rd_T31 l0 x5_2).f3.f2))∧w'.cell? ⟨(ad19.add ((x5_2).toNat*12)).block,(ad19.add ((x5_2).toNat*12)).off+8,none⟩=some (.int .i64 ((rd_T31 l0 x5_2).f4.f0))∧w'.cell? ⟨(ad19.add ((x5_2).toNat*12)).block,(ad19.add ((x5_2).toNat*12)).off+9,none⟩=some (.int .i64 ((rd_T31 l0 x5_2).f4.f1))∧w'.cell? ⟨(ad19.add ((x5_2).toNat*12)).block,(ad19.add ((x5_2).toNat*12)).off+10,none⟩=some (.int .i64 ((rd_T31 l0 x5_2).f4.f2))∧w'.cell? ⟨(ad19.add ((x5_2).toNat*12)).block,(ad19.add ((x5_2).toNat*12)).off+11,none⟩=some (.int .i64 ((rd_T31 l0 x5_2).f5))) (ds:=[]) (bt_ 20 0) (by kernel_rfl) rfl rfl ⟨(blk_cell BK20.out 0).trans rfl,(blk_cell BK20.out 1).trans rfl,(blk_cell BK20.out 2).trans rfl,(zx_ HB hw27_0),(zx_ HB hw27_1),(zx_ HB hw27_2),(zx_ HB hw27_3),(zx_ HB hw27_4),(zx_ HB hw27_5),(zx_ HB hw27_6),(zx_ HB hw27_7),(zx_ HB hw27_8),(zx_ HB hw27_9),(zx_ HB hw27_10),(zx_ HB hw27_11),(zx_ HB hw28_0),(zx_ HB hw28_1),(zx_ HB hw28_2),(zx_ HB hw28_3),(zx_ HB hw28_4),(zx_ HB hw28_5),(zx_ HB hw28_6),(zx_ HB hw28_7),(zx_ HB hw28_8),(zx_ HB hw28_9),(zx_ HB hw28_10),(zx_ HB hw28_11)⟩ (fun hHeld=> ?_);refine with_tabW r10_Right.tab18 r10_Right.bits18 (fun HT_ HW_=> ?_)
                generalize wr.drew=w255 at BK20 HB hx27_0 hx27_1 hx27_10 hx27_11 hx27_2 hx27_3 hx27_4 hx27_5 hx27_6 hx27_7 hx27_8 hx27_9 hx28_0 hx28_1 hx28_10 hx28_11 hx28_2 hx28_3 hx28_4 hx28_5 hx28_6 hx28_7 hx28_8 hx28_9 hHeld ⊢
                refine pu_ (i:=1) (N:=some 124) (bt_ 20 2) HT_ ?_
                refine pu_ (i:=2) (N:=some 125) (bt_ 20 6) HT_ ?_
                refine pu_ (i:=3) (N:=some 126) (bt_ 20 14) HT_ ?_
                refine pu_ (i:=4) (N:=some 127) (bt_ 20 30) HT_ ?_
                refine tk_ (i:=0) (N:=some 123) (bt_ 20 31) HT_ HW_ hHeld ?_
                refine tk_ (i:=5) (N:=some 128) (bt_ 20 63) HT_ HW_ hHeld ?_
                refine pu_ (i:=6) (N:=some 129) (bt_ 20 127) HT_ ?_
                refine pu_ (i:=7) (N:=some 130) (bt_ 20 255) HT_ ?_
                refine pu_ (i:=8) (N:=some 131) (bt_ 20 511) HT_ ?_
                refine pu_ (i:=9) (N:=some 132) (bt_ 20 1023) HT_ ?_
                refine pu_ (i:=10) (N:=some 133) (bt_ 20 2047) HT_ ?_
                refine pu_ (i:=11) (N:=some 134) (bt_ 20 4095) HT_ ?_
                refine pu_ (i:=12) (N:=some 135) (bt_ 20 8191) HT_ ?_
                refine pu_ (i:=16) (N:=some 139) (bt_ 20 73727) HT_ ?_
                refine pu_ (i:=17) (N:=some 140) (bt_ 20 204799) HT_ ?_
                refine tk_ (i:=13) (N:=some 136) (bt_ 20 212991) HT_ HW_ hHeld ?_
                refine one_ (i:=14) (N:=some 137) (bt_ 20 229375) rfl rfl (one_of HT_.out (by kernel_rfl)) (by decide) (fun K hK=> ?_)
                refine goes_ Try.func106 (by kernel_rfl) rfl #[.slice (some ad19) l0.length c0, .string ((rd_T31 l0 x5_2).f0)] (by rfl) rfl rfl zs_ ?_
                with_reducible refine (r10_Up.calls k3 _ _ l0 ((rd_T31 l0 x5_2).f0) t29 _ ?side1 ?side2 A253.out).mono ?_
                (case side1=>exact zc_ (Kd.C_below HR0.out HB.out))
                (case side2=>exact HC0.out)
                rintro e w256 ⟨v30,rfl,ho0,hb⟩
                refine ⟨_,rfl, ?_⟩
                have n0_:=am_ (Kd.R_lower ho0 (below_size (zl1_ HB GE20)))
                have n1_:=am_ (blk_below (zb_ BK20) hb)
                have n2_:=am_ (below_step (zl1_ HB GE20) hb)
                clear BK20
                clear HB
                have HO31:=n0_
                have BK20:=n1_
                have HB:=n2_
                clear n0_ n1_ n2_
                (try clear hb)
                (try clear hb2)
                (try clear hk)
                (try clear hi)
                (try clear ho0)
                obtain ⟨Ao257,co257,eo257⟩:=Kd.R_slice HO31.out
                (first|subst eo257|(injection eo257 with f1_ f2_ f3_;have f4_:=f1_.symm;have f5_:=f3_.symm;clear f1_ f2_ f3_;subst f4_;subst f5_))
                refine hK.out _ _ ⟨(blk_cell BK20.out 0).trans rfl,(blk_cell BK20.out 1).trans rfl,(blk_cell BK20.out 2).trans rfl,(zx_ HB hw27_0),(zx_ HB hw27_1),(zx_ HB hw27_2),(zx_ HB hw27_3),(zx_ HB hw27_4),(zx_ HB hw27_5),(zx_ HB hw27_6),(zx_ HB hw27_7),(zx_ HB hw27_8),(zx_ HB hw27_9),(zx_ HB hw27_10),(zx_ HB hw27_11),(zx_ HB hw28_0),(zx_ HB hw28_1),(zx_ HB hw28_2),(zx_ HB hw28_3),(zx_ HB hw28_4),(zx_ HB hw28_5),(zx_ HB hw28_6),(zx_ HB hw28_7),(zx_ HB hw28_8),(zx_ HB hw28_9),(zx_ HB hw28_10),(zx_ HB hw28_11)⟩ (fun hHeld=> ?_)
                clear hK K
                refine no_ (N:=some 137) ?_
                refine pu_ (i:=15) (N:=some 138) (bt_ 20 262143) HT_ ?_
                refine pu_ (i:=18) (N:=some 141) (bt_ 20 524287) HT_ ?_
                refine pu_ (i:=19) (N:=some 142) (bt_ 20 1048575) HT_ ?_
                refine done_ (done_of HT_.out (by kernel_rfl)) ?_
                try go_wp2
                go_ret
                exact ⟨by first|rfl|(simp [errW_none,errW_some]<;>rfl)|(simp [*,errW_none,errW_some]<;>rfl),zl1_ HB GE20⟩
               ·rw [if_neg c254] at H
                have c254b0:decide ((l0.length:Int)<(t29.length:Int))=false:=decide_eq_false c254
                have c254b1:decide (l0.length<t29.length)=false:=decide_eq_false (fun h=>c254 (Int.ofNat_lt.mpr h))
                clear c254
                have H':=Aside0.mk H
                clear H
                try go_wp2
                have n0_:=am_ (blk_drew BK20.out)
                have n1_:=am_ (below_drew1 HB.out)
                clear BK20
                clear HB
                have BK20:=n0_
                have HB:=n1_
                clear n0_ n1_
                have p27:0≤(x5_2:Int):=of_decide_eq_true zq_
                have q27:x5_2<(l0.length:Int):=of_decide_eq_true zq_
                obtain ⟨ad27,e27,hx27_0,hx27_1,hx27_2,hx27_3,hx27_4,hx27_5,hx27_6,hx27_7,hx27_8,hx27_9,hx27_10,hx27_11⟩:=at_T31 HR0.out x5_2 p27 q27
                have hw27_11:=hx27_11
                have hw27_10:=hx27_10
                have hw27_9:=hx27_9
                have hw27_8:=hx27_8
                have hw27_7:=hx27_7
                have hw27_6:=hx27_6
                have hw27_5:=hx27_5
                have hw27_4:=hx27_4
                have hw27_3:=hx27_3
                have hw27_2:=hx27_2
                have hw27_1:=hx27_1
                have hw27_0:=hx27_0
                obtain rfl:ad19=ad27:=(by injection e27)
                replace hx27_0:=zx_ HB hx27_0
                replace hx27_1:=zx_ HB hx27_1
                replace hx27_2:=zx_ HB hx27_2
                replace hx27_3:=zx_ HB hx27_3
                replace hx27_4:=zx_ HB hx27_4
                replace hx27_5:=zx_ HB hx27_5
                replace hx27_6:=zx_ HB hx27_6
                replace hx27_7:=zx_ HB hx27_7
                replace hx27_8:=zx_ HB hx27_8
                replace hx27_9:=zx_ HB hx27_9
                replace hx27_10:=zx_ HB hx27_10
                replace hx27_11:=zx_ HB hx27_11
                replace p27:=eq_true p27
                replace q27:=eq_true q27
                have p28:0≤(x5_2:Int):=of_decide_eq_true zq_
                have q28:x5_2<(l0.length:Int):=of_decide_eq_true zq_
                obtain ⟨ad28,e28,hx28_0,hx28_1,hx28_2,hx28_3,hx28_4,hx28_5,hx28_6,hx28_7,hx28_8,hx28_9,hx28_10,hx28_11⟩:=at_T31 HR0.out x5_2 p28 q28
                have hw28_11:=hx28_11
                have hw28_10:=hx28_10
                have hw28_9:=hx28_9
                have hw28_8:=hx28_8
                have hw28_7:=hx28_7
                have hw28_6:=hx28_6
                have hw28_5:=hx28_5
                have hw28_4:=hx28_4
                have hw28_3:=hx28_3
                have hw28_2:=hx28_2
                have hw28_1:=hx28_1
                have hw28_0:=hx28_0
                obtain rfl:ad19=ad28:=(by injection e28)
                replace hx28_0:=zx_ HB hx28_0
                replace hx28_1:=zx_ HB hx28_1
                replace hx28_2:=zx_ HB hx28_2
                replace hx28_3:=zx_ HB hx28_3
                replace hx28_4:=zx_ HB hx28_4
                replace hx28_5:=zx_ HB hx28_5
                replace hx28_6:=zx_ HB hx28_6
                replace hx28_7:=zx_ HB hx28_7
                replace hx28_8:=zx_ HB hx28_8
                replace hx28_9:=zx_ HB hx28_9
                replace hx28_10:=zx_ HB hx28_10
                replace hx28_11:=zx_ HB hx28_11
                replace p28:=eq_true p28
                replace q28:=eq_true q28
                refine start_ (n:=20) (S:=fun w'=>w'.cell? ⟨gb20,0,none⟩=some (.int .i64 x21000_3)∧w'.cell? ⟨gb20,1,none⟩=some (.int .i64 x21001_3)∧w'.cell? ⟨gb20,2,none⟩=some (.int .i64 x21002_3)∧w'.cell? (ad19.add ((x5_2).toNat*12))=some (.string ((rd_T31 l0 x5_2).f0))∧w'.cell? ⟨(ad19.add ((x5_2).toNat*12)).block,(ad19.add ((x5_2).toNat*12)).off+1,none⟩=some (.string ((rd_T31 l0 x5_2).f1))∧w'.cell? ⟨(ad19.add ((x5_2).toNat*12)).block,(ad19.add ((x5_2).toNat*12)).off+2,none⟩=some (.int .i64 ((rd_T31 l0 x5_2).f2.f0))∧w'.cell? ⟨(ad19.add ((x5_2).toNat*12)).block,(ad19.add ((x5_2).toNat*12)).off+3,none⟩=some (.int .i64 ((rd_T31 l0 x5_2).f2.f1))∧w'.cell? ⟨(ad19.add ((x5_2).toNat*12)).block,(ad19.add ((x5_2).toNat*12)).off+4,none⟩=some (.int .i64 ((rd_T31 l0 x5_2).f2.f2))∧w'.cell? ⟨(ad19.add ((x5_2).toNat*12)).block,(ad19.add ((x5_2).toNat*12)).off+5,none⟩=some (.int .i64 ((rd_T31 l0 x5_2).f3.f0))∧w'.cell? ⟨(ad19.add ((x5_2).toNat*12)).block,(ad19.add ((x5_2).toNat*12)).off+6,none⟩=some (.int .i64 ((rd_T31 l0 x5_2).f3.f1))∧w'.cell? ⟨(ad19.add ((x5_2).toNat*12)).block,(ad19.add ((x5_2).toNat*12)).off+7,none⟩=some (.int .i64 ((rd_T31 l0 x5_2).f3.f2))∧w'.cell? ⟨(ad19.add ((x5_2).toNat*12)).block,(ad19.add ((x5_2).toNat*12)).off+8,none⟩=some (.int .i64 ((rd_T31 l0 x5_2).f4.f0))∧w'.cell? ⟨(ad19.add ((x5_2).toNat*12)).block,(ad19.add ((x5_2).toNat*12)).off+9,none⟩=some (.int .i64 ((rd_T31 l0 x5_2).f4.f1))∧w'.cell? ⟨(ad19.add ((x5_2).toNat*12)).block,(ad19.add ((x5_2).toNat*12)).off+10,none⟩=some (.int .i64 ((rd_T31 l0 x5_2).f4.f2))∧w'.cell? ⟨(ad19.add ((x5_2).toNat*12)).block,(ad19.add ((x5_2).toNat*12)).off+11,none⟩=some (.int .i64 ((rd_T31 l0 x5_2).f5))∧w'.cell? (ad19.add ((x5_2).toNat*12))=some (.string ((rd_T31 l0 x5_2).f0))∧w'.cell? ⟨(ad19.add ((x5_2).toNat*12)).block,(ad19.add ((x5_2).toNat*12)).off+1,none⟩=some (.string ((rd_T31 l0 x5_2).f1))∧w'.cell? ⟨(ad19.add ((x5_2).toNat*12)).block,(ad19.add ((x5_2).toNat*12)).off+2,none⟩=some (.int .i64 ((rd_T31 l0 x5_2).f2.f0))∧w'.cell? ⟨(ad19.add ((x5_2).toNat*12)).block,(ad19.add ((x5_2).toNat*12)).off+3,none⟩=some (.int .i64 ((rd_T31 l0 x5_2).f2.f1))∧w'.cell? ⟨(ad19.add ((x5_2).toNat*12)).block,(ad19.add ((x5_2).toNat*12)).off+4,none⟩=some (.int .i64 ((rd_T31 l0 x5_2).f2.f2))∧w'.cell? ⟨(ad19.add ((x5_2).toNat*12)).block,(ad19.add ((x5_2).toNat*12)).off+5,none⟩=some (.int .i64 ((rd_T31 l0 x5_2).f3.f0))∧w'.cell? ⟨(ad19.add ((x5_2).toNat*12)).block,(ad19.add ((x5_2).toNat*12)).off+6,none⟩=some (.int .i64 ((rd_T31 l0 x5_2).f3.f1))∧w'.cell? ⟨(ad19.add ((x5_2).toNat*12)).block,(ad19.add ((x5_2).toNat*12)).off+7,none⟩=some (.int .i64 ((rd_T31 l0 x5_2).f3.f2))∧w'.cell? ⟨(ad19.add ((x5_2).toNat*12)).block,(ad19.add ((x5_2).toNat*12)).off+8,none⟩=some (.int .i64 ((rd_T31 l0 x5_2).f4.f0))∧w'.cell? ⟨(ad19.add ((x5_2).toNat*12)).block,(ad19.add ((x5_2).toNat*12)).off+9,none⟩=some (.int .i64 ((rd_T31 l0 x5_2).f4.f1))∧w'.cell? ⟨(ad19.add ((x5_2).toNat*12)).block,(ad19.add ((x5_2).toNat*12)).off+10,none⟩=some (.int .i64 ((rd_T31 l0 x5_2).f4.f2))∧w'.cell? ⟨(ad19.add ((x5_2).toNat*12)).block,(ad19.add ((x5_2).toNat*12)).off+11,none⟩=some (.int .i64 ((rd_T31 l0 x5_2).f5))) (ds:=[]) (bt_ 20 0) (by kernel_rfl) rfl rfl ⟨(blk_cell BK20.out 0).trans rfl,(blk_cell BK20.out 1).trans rfl,(blk_cell BK20.out 2).trans rfl,(zx_ HB hw27_0),(zx_ HB hw27_1),(zx_ HB hw27_2),(zx_ HB hw27_3),(zx_ HB hw27_4),(zx_ HB hw27_5),(zx_ HB hw27_6),(zx_ HB hw27_7),(zx_ HB hw27_8),(zx_ HB hw27_9),(zx_ HB hw27_10),(zx_ HB hw27_11),(zx_ HB hw28_0),(zx_ HB hw28_1),(zx_ HB hw28_2),(zx_ HB hw28_3),(zx_ HB hw28_4),(zx_ HB hw28_5),(zx_ HB hw28_6),(zx_ HB hw28_7),(zx_ HB hw28_8),(zx_ HB hw28_9),(zx_ HB hw28_10),(zx_ HB hw28_11)⟩ (fun hHeld=> ?_);refine with_tabW r10_Right.tab18 r10_Right.bits18 (fun HT_ HW_=> ?_)
                generalize wr.drew=w258 at BK20 HB hx27_0 hx27_1 hx27_10 hx27_11 hx27_2 hx27_3 hx27_4 hx27_5 hx27_6 hx27_7 hx27_8 hx27_9 hx28_0 hx28_1 hx28_10 hx28_11 hx28_2 hx28_3 hx28_4 hx28_5 hx28_6 hx28_7 hx28_8 hx28_9 hHeld ⊢
                refine pu_ (i:=1) (N:=some 124) (bt_ 20 2) HT_ ?_
                refine pu_ (i:=2) (N:=some 125) (bt_ 20 6) HT_ ?_
                refine pu_ (i:=3) (N:=some 126) (bt_ 20 14) HT_ ?_
                refine pu_ (i:=4) (N:=some 127) (bt_ 20 30) HT_ ?_
                refine tk_ (i:=0) (N:=some 123) (bt_ 20 31) HT_ HW_ hHeld ?_
                refine tk_ (i:=5) (N:=some 128) (bt_ 20 63) HT_ HW_ hHeld ?_
                refine pu_ (i:=6) (N:=some 129) (bt_ 20 127) HT_ ?_
                refine pu_ (i:=7) (N:=some 130) (bt_ 20 255) HT_ ?_
                refine pu_ (i:=8) (N:=some 131) (bt_ 20 511) HT_ ?_
                refine pu_ (i:=9) (N:=some 132) (bt_ 20 1023) HT_ ?_
                refine pu_ (i:=10) (N:=some 133) (bt_ 20 2047) HT_ ?_
                refine pu_ (i:=11) (N:=some 134) (bt_ 20 4095) HT_ ?_
                refine pu_ (i:=12) (N:=some 135) (bt_ 20 8191) HT_ ?_
                refine pu_ (i:=16) (N:=some 139) (bt_ 20 73727) HT_ ?_
                refine pu_ (i:=17) (N:=some 140) (bt_ 20 204799) HT_ ?_
                refine tk_ (i:=13) (N:=some 136) (bt_ 20 212991) HT_ HW_ hHeld ?_
                refine one_ (i:=14) (N:=some 137) (bt_ 20 229375) rfl rfl (one_of HT_.out (by kernel_rfl)) (by decide) (fun K hK=> ?_)
                refine goes_ Try.func106 (by kernel_rfl) rfl #[.slice (some ad19) l0.length c0, .string ((rd_T31 l0 x5_2).f0)] (by rfl) rfl rfl zs_ ?_
                with_reducible refine (r10_Up.calls k3 _ _ l0 ((rd_T31 l0 x5_2).f0) t29 _ ?side1 ?side2 A253.out).mono ?_
                (case side1=>exact zc_ (Kd.C_below HR0.out HB.out))
                (case side2=>exact HC0.out)
                rintro e w259 ⟨v30,rfl,ho0,hb⟩
                refine ⟨_,rfl, ?_⟩
                have n0_:=am_ (Kd.R_lower ho0 (below_size (zl1_ HB GE20)))
                have n1_:=am_ (blk_below (zb_ BK20) hb)
                have n2_:=am_ (below_step (zl1_ HB GE20) hb)
                clear BK20
                clear HB
                have HO31:=n0_
                have BK20:=n1_
                have HB:=n2_
                clear n0_ n1_ n2_
                (try clear hb)
                (try clear hb2)
                (try clear hk)
                (try clear hi)
                (try clear ho0)
                obtain ⟨Ao260,co260,eo260⟩:=Kd.R_slice HO31.out
                (first|subst eo260|(injection eo260 with f1_ f2_ f3_;have f4_:=f1_.symm;have f5_:=f3_.symm;clear f1_ f2_ f3_;subst f4_;subst f5_))
                refine hK.out _ _ ⟨(blk_cell BK20.out 0).trans rfl,(blk_cell BK20.out 1).trans rfl,(blk_cell BK20.out 2).trans rfl,(zx_ HB hw27_0),(zx_ HB hw27_1),(zx_ HB hw27_2),(zx_ HB hw27_3),(zx_ HB hw27_4),(zx_ HB hw27_5),(zx_ HB hw27_6),(zx_ HB hw27_7),(zx_ HB hw27_8),(zx_ HB hw27_9),(zx_ HB hw27_10),(zx_ HB hw27_11),(zx_ HB hw28_0),(zx_ HB hw28_1),(zx_ HB hw28_2),(zx_ HB hw28_3),(zx_ HB hw28_4),(zx_ HB hw28_5),(zx_ HB hw28_6),(zx_ HB hw28_7),(zx_ HB hw28_8),(zx_ HB hw28_9),(zx_ HB hw28_10),(zx_ HB hw28_11)⟩ (fun hHeld=> ?_)
                clear hK K
                refine no_ (N:=some 137) ?_
                refine pu_ (i:=15) (N:=some 138) (bt_ 20 262143) HT_ ?_
                refine pu_ (i:=18) (N:=some 141) (bt_ 20 524287) HT_ ?_
                refine pu_ (i:=19) (N:=some 142) (bt_ 20 1048575) HT_ ?_
                refine done_ (done_of HT_.out (by kernel_rfl)) ?_
                try go_wp2
                go_roundg k3
                case measure=>have:=HK1.out;have:=HK2.out;have:=HK3.out;omega
                case rel=>exact ⟨(wrap64 (x5_2+1)),(by first|rfl|(simp;done)|(simp [*];done)),H',⟨by have:=HK1.out;have:=HK2.out;have:=HK3.out;omega⟩,⟨zl1_ HB GE20⟩⟩
             ·rw [if_neg c250] at H
              exact absurd H (by simp)
            ·rw [if_neg c249] at H
             exact absurd H (by simp)
        ·rw [if_neg c233] at H
         exact absurd H (by simp)
       ·rw [if_neg c232] at H
        have c232b0:decide (x5_2<(l0.length:Int))=false:=decide_eq_false c232
        clear c232
        obtain rfl:=Option.some.inj H
        go_wp2
        go_ret
        exact ⟨by first|rfl|(simp [errW_none,errW_some]<;>rfl)|(simp [*,errW_none,errW_some]<;>rfl),zl0_ HB⟩

end Go.Proofs.Ytcgefpklljclgaa.Print

namespace Go.Proofs.Ytcgefpklljclgaa.Print
open Go.RowKit Go.Proofs.YtcgefpklljclgaaW.PrintWords Go.Proofs.YtcgefpklljclgaaW.PrintLast Go.Proofs.YtcgefpklljclgaaW.PrintMore
attribute [local go_sem] max2_int min2_int max_two min_two max_three min_three max_four min_four   -- for this text's walks alone
set_option linter.unusedVariables false
set_option linter.unusedSimpArgs false

/-! ### r10_no: function 113 -/
def r10_no.f (a0:Int):Option ((List (S31))×Int):=some (([]:List (S31)),a0)
set_option maxHeartbeats 8000000 in
set_option maxRecDepth 100000 in
theorem r10_no.calls (a0:Int) (r1:List (S31)) (r2:Int) (w:World) (h:r10_no.f a0=some (r1,r2)):
  Calls Try.prog 113 #[.int .i64 a0] w fun e w'=> ∃v0_:Value,e= .returned (.agg #[v0_, .int .i64 r2])∧Kd.R k31 31 w' w.heap.size (fun _=>True) v0_ r1∧Below w.heap.size w w':=by
 have hu67:=Try.underlying67
 have HB:=am_ (Below.refl w.heap.size w)
 have H:(some (([]:List (S31)),a0))=some (r1,r2):=h
 clear h
 simp only [Option.some.injEq,Prod.mk.injEq] at H
 obtain ⟨rfl,rfl⟩:=H
 go_enter Try.func113,Try.ntmps113
 go_wp2_with (first|((with_reducible refine gate_dst (N:=2) rfl ?_);refine box_event ?hg (N:=2) ?hd (cs:=#[.slice none 0 0, .int .i64 0]) (t:=67) ?hr ?_;(case hd=>rfl);(case hg=>rfl);(case hr=>first|(go_simp;done)|(go_simp;rfl));intro gb1 hg w2 hbox hb;have n0_:=am_ (below_step (zl0_ HB) hb);have n1_:=am_ (hbox);have n2_:=am_ ((zg0_ HB hg:w.heap.size≤gb1));have n3_:=am_ ((zg0_ HB hg:w.heap.size≤gb1));clear HB;have HB:=n0_;have BK1:=n1_;have GW1:=n2_;have GE1:=n3_;clear n0_ n1_ n2_ n3_;clear hb hbox hg;have hcz3_0:w2.cell? ⟨gb1,0,none⟩=some (.slice none 0 0):=(blk_cell BK1.out 0).trans rfl;have hcz3_1:w2.cell? ⟨gb1,1,none⟩=some (.int .i64 0):=(blk_cell BK1.out 1).trans rfl;have hfz3_0:=blk_frozen BK1.out 0;have hfz3_1:=blk_frozen BK1.out 1))
 refine bodyPost_ret (results_cell_row rfl _ _ gb1 67 #[.slice none 0 0, .int .i64 a0] (0,0) _ rfl (by refine zk_ ?_;refine blk_put (cs:=#[.slice none 0 0, .int .i64 0]) ?_ 1 _ rfl;refine zk_ ?_;refine blk_put (cs:=#[.slice none 0 0, .int .i64 0]) ?_ 0 _ rfl;refine zk_ ?_;exact BK1.out) Try.underlying67 rfl (by kernel_rfl)) rfl ?_
 exact ⟨_,by first|rfl|(simp [errW_none,errW_some]<;>rfl)|(simp [*,errW_none,errW_some]<;>rfl),by first|exact Kd.R_nil _ _ _ _ _|exact Kd.N_nil _ _ _ _ _|exact Kd.V_nil _ _ _ _ _|exact Kd.Q_nil _ _ _ _ _|exact Kd.S_nil _ _ _ _ _,zl1_ HB GE1⟩

end Go.Proofs.Ytcgefpklljclgaa.Print

namespace Go.Proofs.Ytcgefpklljclgaa.Print
open Go.RowKit Go.Proofs.YtcgefpklljclgaaW.PrintWords Go.Proofs.YtcgefpklljclgaaW.PrintLast Go.Proofs.YtcgefpklljclgaaW.PrintMore
attribute [local go_sem] max2_int min2_int max_two min_two max_three min_three max_four min_four   -- for this text's walks alone
set_option linter.unusedVariables false
set_option linter.unusedSimpArgs false

/-! ### r10_copied: function 124 -/
def r10_copied.f (l0:List (S31)):Option ((List (S31))):=(some (([]:List (S31)):List (S31))).bind fun y1=>(if y1.length+l0.length<1256584717458 then (some (y1++l0)) else (none))
set_option maxHeartbeats 8000000 in
set_option maxRecDepth 100000 in
theorem r10_copied.calls (A0:Option Addr) (c0:Nat) (l0:List (S31)) (r:List (S31)) (w:World) (hr0:Kd.C k31 w A0 l0.length l0) (hc0:l0.length≤c0) (h:r10_copied.f l0=some r):
  Calls Try.prog 124 #[.slice A0 l0.length c0] w fun e w'=> ∃v0_:Value,e= .returned (v0_)∧Kd.R k31 31 w' w.heap.size (fun _=>True) v0_ r∧Below w.heap.size w w':=by
 have HR0:=Aside0.mk hr0
 have HC0:=Aside0.mk hc0
 clear hr0 hc0
 have HB:=am_ (Below.refl w.heap.size w)
 have H:((some (([]:List (S31)):List (S31))).bind fun y1=>(if y1.length+l0.length<1256584717458 then (some (y1++l0)) else (none)))=some r:=h
 clear h
 obtain ⟨y1,hy1⟩: ∃y_:List (S31),y_=(([]:List (S31))):=⟨_,rfl⟩
 replace H:(if y1.length+l0.length<1256584717458 then (some (y1++l0)) else (none))=some r:=by first|(rw [hy1];with_reducible exact H)|(have H2_:=(Option.bind_some _ _).symm.trans H;rw [hy1];with_reducible exact H2_)|(have H2_:=(Option.bind_some _ _).symm.trans H;with_reducible exact H2_)|with_reducible exact H|(rw [hy1];exact H)|exact H
 have Ny1:=Aside0.mk hy1
 clear hy1
 by_cases c2:y1.length+l0.length<1256584717458
 ·rw [if_pos c2] at H
  have LMc2:=Aside0.mk c2
  clear c2
  obtain ⟨y4,hy4⟩: ∃y_:List (S31),y_=(y1++l0):=⟨_,rfl⟩
  replace H:(some y4)=some r:=by first|(rw [hy4];with_reducible exact H)|(have H2_:=(Option.bind_some _ _).symm.trans H;rw [hy4];with_reducible exact H2_)|(have H2_:=(Option.bind_some _ _).symm.trans H;with_reducible exact H2_)|with_reducible exact H|(rw [hy4];exact H)|exact H
  have Ny4:=Aside0.mk hy4
  clear hy4
  obtain rfl:=Option.some.inj H
  go_enter Try.func124,Try.ntmps124
  go_wp2_with (first|((with_reducible refine gate_dst (N:=3) rfl ?_);refine Kd.R_lit k31 _ 31 ?hg (N:=3) ?hd (xs:=([]:List (S31))) (inner:=[]) (ok:=fun _=>True) (okp:=fun _=>True) ?hr ?hp (fun _ hk=>hk) trivial (Below.refl _ _) (Nat.le_refl _) (by simp) ?_;(case hd=>rfl);(case hg=>rfl);(case hr=>first|(go_simp;done)|(go_simp;rfl));(case hp=>exact (Reps.none _ _));intro v2 w3 ho4 hb hg_ hnew_;clear hg_ hnew_;(first|rw [←Ny1.out] at ho4|(simp only [Int.reduceToNat] at ho4;rw [←Ny1.out] at ho4));have n0_:=am_ (Kd.R_lower ho4 (below_size (zl0_ HB)));have n1_:=am_ (below_step (zl0_ HB) hb);clear HB;have HO3:=n0_;have HB:=n1_;clear n0_ n1_;clear hb ho4)|((with_reducible refine gate_builtin (b:= .append) (xs:=#[.tmp 3, .tmp 4]) rfl ?_);at_builtin;refine Kd.R_append_rows k31 (w0:=w) w.heap.size rfl (.tmp 3) (.tmp 4) 24 31 (.agg #[(.string ⟨#[]⟩),(.string ⟨#[]⟩),(.int .i64 0),(.int .i64 0),(.int .i64 0),(.int .i64 0),(.int .i64 0),(.int .i64 0),(.int .i64 0),(.int .i64 0),(.int .i64 0),(.int .i64 0)]) 112 rfl Try.underlying24 info31 rfl (by decide) (by omega) v2 y1 l0 _ _ _ (fun _=>True) (fun _=>False) rfl rfl ?aO ?aR (fun _ _ h=>h) (fun _ h=>h.elim) ?aF ?aB ?aS ?aL ?_;(case aR=>repeat (first|exact (Kd.C_below HR0.out HB.out)|(with_reducible refine Kd.C_alloc ?_ _)|(with_reducible refine Kd.C_drewN ?_ _)|(with_reducible refine Kd.C_drew ?_)));(case aB=>exact (zl0_ HB));(case aF=>exact (fun _ _=>trivial));(case aO=>exact (zr_ HO3));(case aS=>exact (below_size (zl0_ HB)));(case aL=>have:=LMc2.out;omega);intro v5 w5 ho hb hg hat;rw [←Ny4.out] at ho;have n0_:=am_ (hb);have n1_:=am_ (ho);clear HB;clear HO3;have HB:=n0_;have HO6:=n1_;clear n0_ n1_;clear ho hb hg hat))
  go_ret
  exact ⟨_,by first|rfl|(simp [errW_none,errW_some]<;>rfl)|(simp [*,errW_none,errW_some]<;>rfl),by (with_reducible repeat (first|apply Kd.R_alloc|apply Kd.R_drewN|apply Kd.R_drew));exact HO6.out,zl0_ HB⟩
 ·rw [if_neg c2] at H
  exact absurd H (by simp)

end Go.Proofs.Ytcgefpklljclgaa.Print

namespace Go.Proofs.Ytcgefpklljclgaa.Print
open Go.RowKit Go.Proofs.YtcgefpklljclgaaW.PrintWords Go.Proofs.YtcgefpklljclgaaW.PrintLast Go.Proofs.YtcgefpklljclgaaW.PrintMore
attribute [local go_sem] max2_int min2_int max_two min_two max_three min_three max_four min_four   -- for this text's walks alone
set_option linter.unusedVariables false
set_option linter.unusedSimpArgs false

mutual
def r10_Create.j0:Nat→List (S31)→ByteArray→ByteArray→Bool→Int→Int→Int→Option ((List (S31))×Int)
 |0,_,_,_,_,_,_,_=>none
 |k+1,x0,x1,x2,x11,x2000,x2001,x2002=>if x11=true then ((r10_no.f 1).bind fun bt5=>(some (bt5.1,bt5.2))) else ((r10_Find.f k x0 x1).bind fun t9=>(if t9≥0 then ((r10_no.f 3).bind fun bt10=>(some (bt10.1,bt10.2))) else (if x2.toList=([]:List UInt8) then (r10_Create.j1 k x0 x1 x2 false x2000 x2001 x2002) else ((r10_Find.f k x0 x2).bind fun t14=>(r10_Create.j1 k x0 x1 x2 (decide (t14<0)) x2000 x2001 x2002)))))
def r10_Create.j1:Nat→List (S31)→ByteArray→ByteArray→Bool→Int→Int→Int→Option ((List (S31))×Int)
 |0,_,_,_,_,_,_,_=>none
 |k+1,x0,x1,x2,x27,x2000,x2001,x2002=>if x27=true then ((r10_no.f 2).bind fun bt15=>(some (bt15.1,bt15.2))) else (if (x0.length:Int)≥120 then ((r10_no.f 4).bind fun bt19=>(some (bt19.1,bt19.2))) else (r10_Create.l0 k x0 x1 x2 0 x2000 x2001 x2002))
def r10_Create.l0:Nat→List (S31)→ByteArray→ByteArray→Int→Int→Int→Int→Option ((List (S31))×Int)
 |0,_,_,_,_,_,_,_=>none
 |k+1,x0,x1,x2,x9,x2000,x2001,x2002=>if x9<(x0.length:Int) then (if 0≤x9 then (if (Op.bytesLess (((rd_T31 x0 x9).f0).toList) x1.toList)=true then (r10_Create.l0 k x0 x1 x2 (wrap64 (x9+1)) x2000 x2001 x2002) else (if x9≤(x0.length:Int) then ((r10_copied.f (x0.take (x9:Int).toNat)).bind fun t28=>(if t28.length<1256584717458 then ((some (t28++ [(⟨x1,x2,(⟨x2000,x2001,x2002⟩:S27),(⟨0,0,0⟩:S27),(⟨0,0,0⟩:S27),1⟩:S31)]:List (S31))).bind fun y31=>((some (x0.drop (x9:Int).toNat:List (S31))).bind fun y34=>(if y31.length+y34.length<1256584717458 then (some ((y31++y34),0)) else (none)))) else (none))) else (none))) else (none)) else (if 0≤x9 then (if x9≤(x0.length:Int) then ((r10_copied.f (x0.take (x9:Int).toNat)).bind fun t45=>(if t45.length<1256584717458 then ((some (t45++ [(⟨x1,x2,(⟨x2000,x2001,x2002⟩:S27),(⟨0,0,0⟩:S27),(⟨0,0,0⟩:S27),1⟩:S31)]:List (S31))).bind fun y48=>((some (x0.drop (x9:Int).toNat:List (S31))).bind fun y51=>(if y48.length+y51.length<1256584717458 then (some ((y48++y51),0)) else (none)))) else (none))) else (none)) else (none))
end
def r10_Create.f (k:Nat) (l0:List (S31)) (a1:ByteArray) (a2:ByteArray) (a3_0:Int) (a3_1:Int) (a3_2:Int):Option ((List (S31))×Int):=(r10_MayName.f a1).bind fun t3=>(if t3=true then ((r10_MayVec.f a3_0 a3_1 a3_2).bind fun t4=>(r10_Create.j0 k l0 a1 a2 (!t4) a3_0 a3_1 a3_2)) else (r10_Create.j0 k l0 a1 a2 true a3_0 a3_1 a3_2))
theorem r10_Create.mono_l: ∀k,(∀y0 y1 y2 y3 y4 y5 y6,LeO (r10_Create.j0 k y0 y1 y2 y3 y4 y5 y6) (r10_Create.j0 (k+1) y0 y1 y2 y3 y4 y5 y6))∧(∀y0 y1 y2 y3 y4 y5 y6,LeO (r10_Create.j1 k y0 y1 y2 y3 y4 y5 y6) (r10_Create.j1 (k+1) y0 y1 y2 y3 y4 y5 y6))∧(∀y0 y1 y2 y3 y4 y5 y6,LeO (r10_Create.l0 k y0 y1 y2 y3 y4 y5 y6) (r10_Create.l0 (k+1) y0 y1 y2 y3 y4 y5 y6))
 |0=>⟨fun _ _ _ _ _ _ _ r h=>by simp [r10_Create.j0] at h,fun _ _ _ _ _ _ _ r h=>by simp [r10_Create.j1] at h,fun _ _ _ _ _ _ _ r h=>by simp [r10_Create.l0] at h⟩
 |k+1=>by
  obtain ⟨ih0,ih1,ih2⟩:=r10_Create.mono_l k
  refine ⟨?_, ?_, ?_⟩
  ·intro y0 y1 y2 y3 y4 y5 y6
   unfold r10_Create.j0
   repeat' first
   |(with_reducible exact ih0 _ _ _ _ _ _ _)
   |(with_reducible exact ih1 _ _ _ _ _ _ _)
   |(with_reducible exact ih2 _ _ _ _ _ _ _)
   |(with_reducible exact r10_Find.mono _ _ _)
   |(with_reducible exact LeO.refl _)
   |(with_reducible exact LeO.none _)
   |(with_reducible refine LeO.ite ?_ ?_)
   |(with_reducible refine LeO.bind ?_ (fun _=> ?_))
   |exact ih0 _ _ _ _ _ _ _
   |exact ih1 _ _ _ _ _ _ _
   |exact ih2 _ _ _ _ _ _ _
   |exact r10_Find.mono _ _ _
   |exact LeO.none _
   |refine LeO.ite ?_ ?_
   |refine LeO.bind ?_ (fun _=> ?_)
  ·intro y0 y1 y2 y3 y4 y5 y6
   unfold r10_Create.j1
   repeat' first
   |(with_reducible exact ih0 _ _ _ _ _ _ _)
   |(with_reducible exact ih1 _ _ _ _ _ _ _)
   |(with_reducible exact ih2 _ _ _ _ _ _ _)
   |(with_reducible exact r10_Find.mono _ _ _)
   |(with_reducible exact LeO.refl _)
   |(with_reducible exact LeO.none _)
   |(with_reducible refine LeO.ite ?_ ?_)
   |(with_reducible refine LeO.bind ?_ (fun _=> ?_))
   |exact ih0 _ _ _ _ _ _ _
   |exact ih1 _ _ _ _ _ _ _
   |exact ih2 _ _ _ _ _ _ _
   |exact r10_Find.mono _ _ _
   |exact LeO.none _
   |refine LeO.ite ?_ ?_
   |refine LeO.bind ?_ (fun _=> ?_)
  ·intro y0 y1 y2 y3 y4 y5 y6
   unfold r10_Create.l0
   repeat' first
   |(with_reducible exact ih0 _ _ _ _ _ _ _)
   |(with_reducible exact ih1 _ _ _ _ _ _ _)
   |(with_reducible exact ih2 _ _ _ _ _ _ _)
   |(with_reducible exact r10_Find.mono _ _ _)
   |(with_reducible exact LeO.refl _)
   |(with_reducible exact LeO.none _)
   |(with_reducible refine LeO.ite ?_ ?_)
   |(with_reducible refine LeO.bind ?_ (fun _=> ?_))
   |exact ih0 _ _ _ _ _ _ _
   |exact ih1 _ _ _ _ _ _ _
   |exact ih2 _ _ _ _ _ _ _
   |exact r10_Find.mono _ _ _
   |exact LeO.none _
   |refine LeO.ite ?_ ?_
   |refine LeO.bind ?_ (fun _=> ?_)
theorem r10_Create.mono: ∀a0 a1 a2 a3 a4 a5 k,LeO (r10_Create.f k a0 a1 a2 a3 a4 a5) (r10_Create.f (k+1) a0 a1 a2 a3 a4 a5):=by
 intro a0 a1 a2 a3 a4 a5 k
 obtain ⟨ih0,ih1,ih2⟩:=r10_Create.mono_l k
 unfold r10_Create.f
 repeat' first
  |(with_reducible exact ih0 _ _ _ _ _ _ _)
  |(with_reducible exact ih1 _ _ _ _ _ _ _)
  |(with_reducible exact ih2 _ _ _ _ _ _ _)
  |(with_reducible exact r10_Find.mono _ _ _)
  |(with_reducible exact LeO.refl _)
  |(with_reducible exact LeO.none _)
  |(with_reducible refine LeO.ite ?_ ?_)
  |(with_reducible refine LeO.bind ?_ (fun _=> ?_))
  |exact ih0 _ _ _ _ _ _ _
  |exact ih1 _ _ _ _ _ _ _
  |exact ih2 _ _ _ _ _ _ _
  |exact r10_Find.mono _ _ _
  |exact LeO.none _
  |refine LeO.ite ?_ ?_
  |refine LeO.bind ?_ (fun _=> ?_)
set_option maxHeartbeats 8000000 in
set_option maxRecDepth 100000 in
theorem r10_Create.calls (k:Nat) (A0:Option Addr) (c0:Nat) (l0:List (S31)) (a1:ByteArray) (a2:ByteArray) (a3_0:Int) (a3_1:Int) (a3_2:Int) (r1:List (S31)) (r2:Int) (w:World) (hr0:Kd.C k31 w A0 l0.length l0) (hc0:l0.length≤c0) (h:r10_Create.f k l0 a1 a2 a3_0 a3_1 a3_2=some (r1,r2)):
  Calls Try.prog 83 #[.slice A0 l0.length c0, .string a1, .string a2, .agg #[.int .i64 a3_0, .int .i64 a3_1, .int .i64 a3_2]] w fun e w'=> ∃v0_:Value,e= .returned (.agg #[v0_, .int .i64 r2])∧Kd.R k31 31 w' w.heap.size (fun _=>True) v0_ r1∧Below w.heap.size w w':=by
 have hu27:=Try.underlying27
 have hu67:=Try.underlying67
 have hu31:=Try.underlying31
 have HR0:=Aside0.mk hr0
 have HC0:=Aside0.mk hc0
 clear hr0 hc0
 have HB:=am_ (Below.refl w.heap.size w)
 have H:((r10_MayName.f a1).bind fun t3=>(if t3=true then ((r10_MayVec.f a3_0 a3_1 a3_2).bind fun t4=>(r10_Create.j0 k l0 a1 a2 (!t4) a3_0 a3_1 a3_2)) else (r10_Create.j0 k l0 a1 a2 true a3_0 a3_1 a3_2)))=some (r1,r2):=h
 clear h
 have HC5:=Aside0.mk H
 clear H
 go_enter Try.func83,Try.ntmps83
 go_upto_region 1 with (first|((with_reducible refine gate_dst (N:=7) rfl ?_);refine box_event ?hg (N:=7) ?hd (cs:=#[.int .i64 a3_0, .int .i64 a3_1, .int .i64 a3_2]) (t:=27) ?hr ?_;(case hd=>rfl);(case hg=>rfl);(case hr=>first|(go_simp;done)|(go_simp;rfl));intro gb1 hg w6 hbox hb;have n0_:=am_ (below_step (zl0_ HB) hb);have n1_:=am_ (hbox);have n2_:=am_ ((zg0_ HB hg:w.heap.size≤gb1));have n3_:=am_ ((zg0_ HB hg:w.heap.size≤gb1));clear HB;have HB:=n0_;have BK1:=n1_;have GW1:=n2_;have GE1:=n3_;clear n0_ n1_ n2_ n3_;clear hb hbox hg)|((with_reducible refine gate_dst (N:=8) rfl ?_);refine box_event ?hg (N:=8) ?hd (cs:=#[.slice none 0 0, .int .i64 0]) (t:=67) ?hr ?_;(case hd=>rfl);(case hg=>rfl);(case hr=>first|(go_simp;done)|(go_simp;rfl));intro gb2 hg w7 hbox hb;have n0_:=am_ (blk_below (zb_ BK1) hb);have n1_:=am_ (below_step (zl1_ HB GE1) hb);have n2_:=am_ (hbox);have n3_:=am_ ((zg1_ HB GE1 hg:w.heap.size≤gb2));have n4_:=am_ ((zg1_ HB GE1 hg:w.heap.size≤gb2));have n5_:=am_ ((zn_ BK1 hg:gb1≠gb2));have n6_:=am_ ((zm_ BK1 hg:gb2≠gb1));clear BK1;clear HB;have BK1:=n0_;have HB:=n1_;have BK2:=n2_;have GW2:=n3_;have GE2:=n4_;have NB1_2:=n5_;have NB2_1:=n6_;clear n0_ n1_ n2_ n3_ n4_ n5_ n6_;clear hb hbox hg))
 (try simp only [Act.put,List.setIfInBounds_toArray,List.set_cons_zero,List.set_cons_succ])
 go_cut [11] (fun v11 wc=> ∃(kq:Nat) (x11_4:Bool),v11= .bool x11_4∧Aside0 (r10_Create.j0 kq l0 a1 a2 x11_4 a3_0 a3_1 a3_2=some (r1,r2))∧Aside0 (kq≤k)∧Aside0 (wc.heap[gb1]?=some (.cells #[.int .i64 a3_0, .int .i64 a3_1, .int .i64 a3_2] 27 (0,0)))∧Aside0 (wc.heap[gb2]?=some (.cells #[(.slice none 0 0), .int .i64 0] 67 (0,0)))∧Aside0 (Below w.heap.size w wc))
 case first=>
  have H:=HC5.out
  clear HC5
  replace H:=Option.bind_eq_some_iff.mp H
  obtain ⟨t3,A80,H⟩:=H
  replace H:(if t3=true then ((r10_MayVec.f a3_0 a3_1 a3_2).bind fun t4=>(r10_Create.j0 k l0 a1 a2 (!t4) a3_0 a3_1 a3_2)) else (r10_Create.j0 k l0 a1 a2 true a3_0 a3_1 a3_2))=some (r1,r2):=H
  have A8:=Aside0.mk A80
  clear A80
  by_cases c9:t3=true
  ·subst c9
   have H1:((r10_MayVec.f a3_0 a3_1 a3_2).bind fun t4=>(r10_Create.j0 k l0 a1 a2 (!t4) a3_0 a3_1 a3_2))=some (r1,r2):=by rw [if_pos rfl] at H;exact H
   clear H
   have H:=H1
   clear H1
   replace H:=Option.bind_eq_some_iff.mp H
   obtain ⟨t4,A100,H⟩:=H
   replace H:(r10_Create.j0 k l0 a1 a2 (!t4) a3_0 a3_1 a3_2)=some (r1,r2):=H
   have A10:=Aside0.mk A100
   clear A100
   have H':=Aside0.mk H
   clear H
   go_wp2_with (first|((with_reducible refine gate_callee (f:=105) rfl ?_);refine goesL_ (some 13) rfl rfl Try.func105 (by kernel_rfl) rfl #[.string a1] rfl zs_ ?_;(with_reducible refine (r10_MayName.calls a1 true _ A8.out).mono ?_);rintro e w' ⟨rfl,⟨nd,rfl⟩⟩;refine ⟨_,rfl, ?_⟩;have hnb11:=NB1_2.out;have hnc11:=NB2_1.out;have hcz12_0:w7.cell? ⟨gb1,0,none⟩=some (.int .i64 a3_0):=(blk_cell BK1.out 0).trans rfl;have hcz12_1:w7.cell? ⟨gb1,1,none⟩=some (.int .i64 a3_1):=(blk_cell BK1.out 1).trans rfl;have hcz12_2:w7.cell? ⟨gb1,2,none⟩=some (.int .i64 a3_2):=(blk_cell BK1.out 2).trans rfl;have hfz12_0:=blk_frozen BK1.out 0;have hfz12_1:=blk_frozen BK1.out 1;have hfz12_2:=blk_frozen BK1.out 2)|(go_at_call 65;(with_reducible refine (r10_MayVec.calls a3_0 a3_1 a3_2 t4 _ A10.out).mono ?_);rintro e w13 ⟨rfl,hb⟩;have n0_:=am_ (blk_below (zb_ BK1) hb);have n1_:=am_ (blk_below (zb_ BK2) hb);have n2_:=am_ (below_step (zl2_ HB GE1 GE2) hb);clear BK1;clear BK2;clear HB;have BK1:=n0_;have BK2:=n1_;have HB:=n2_;clear n0_ n1_ n2_;(try clear hb);(try clear hb2);(try clear hk);(try clear hi)))
   go_meet
   case rel=>exact ⟨_,(!t4),(by first|rfl|(simp;done)|(simp [*];done)),H',⟨by first|omega|exact Nat.le_refl _⟩,⟨by refine zk_ ?_;exact BK1.out⟩,⟨by refine zk_ ?_;exact BK2.out⟩,⟨zl2_ HB GE1 GE2⟩⟩
  ·replace c9:=Bool.eq_false_iff.mpr c9
   subst c9
   have H1:(r10_Create.j0 k l0 a1 a2 true a3_0 a3_1 a3_2)=some (r1,r2):=by rw [if_neg (show¬(false=true) by decide)] at H;exact H
   clear H
   have H:=H1
   clear H1
   have H':=Aside0.mk H
   clear H
   go_wp2_with ((with_reducible refine gate_callee (f:=105) rfl ?_);refine goesL_ (some 13) rfl rfl Try.func105 (by kernel_rfl) rfl #[.string a1] rfl zs_ ?_;(with_reducible refine (r10_MayName.calls a1 false _ A8.out).mono ?_);rintro e w' ⟨rfl,⟨nd,rfl⟩⟩;refine ⟨_,rfl, ?_⟩)
   go_meet
   case rel=>exact ⟨_,(true),(by first|rfl|(simp;done)|(simp [*];done)),H',⟨by first|omega|exact Nat.le_refl _⟩,⟨by refine zk_ ?_;exact BK1.out⟩,⟨by refine zk_ ?_;exact BK2.out⟩,⟨zl2_ HB GE1 GE2⟩⟩
 case rest=>
  clear HC5
  try clear c1
  try clear p2
  try clear c8
  try clear c9
  try clear c10
  try clear c11
  try clear hcz12_0
  try clear hcz12_1
  try clear hcz12_2
  try clear hfz12_0
  try clear hfz12_1
  try clear hfz12_2
  obtain ⟨kq,x11_4,rfl,HA,HJ4,BK1,BK2,HB⟩:=hcut
  cases kq with
  |zero=>exact absurd HA.out (by simp [r10_Create.j0])
  |succ kj4=>
   have H:=HA.out
   clear HA
   simp only [r10_Create.j0] at H
   by_cases c14:x11_4=true
   ·subst c14
    have H1:((r10_no.f 1).bind fun bt5=>(some (bt5.1,bt5.2)))=some (r1,r2):=by rw [if_pos rfl] at H;exact H
    clear H
    have H:=H1
    clear H1
    replace H:=Option.bind_eq_some_iff.mp H
    obtain ⟨⟨t5,t8⟩,A150,H⟩:=H
    replace H:(some (t5,t8))=some (r1,r2):=H
    have A15:=Aside0.mk A150
    clear A150
    simp only [Option.some.injEq,Prod.mk.injEq] at H
    obtain ⟨rfl,rfl⟩:=H
    go_wp2_with ((with_reducible refine gate_callee (f:=113) rfl ?_);refine goesL_ (some 20) rfl rfl Try.func113 (by kernel_rfl) rfl #[.int .i64 1] rfl zs_ ?_;(with_reducible refine (r10_no.calls 1 t5 t8 _ A15.out).mono ?_);rintro e w16 ⟨v6,rfl,ho0,hb⟩;refine ⟨_,rfl, ?_⟩;have n0_:=am_ (Kd.R_lower ho0 (below_size (zl2_ HB GE1 GE2)));have n1_:=am_ (blk_below (zb_ BK1) hb);have n2_:=am_ (blk_below (zb_ BK2) hb);have n3_:=am_ (below_step (zl2_ HB GE1 GE2) hb);clear BK1;clear BK2;clear HB;have HO7:=n0_;have BK1:=n1_;have BK2:=n2_;have HB:=n3_;clear n0_ n1_ n2_ n3_;(try clear hb);(try clear hb2);(try clear hk);(try clear hi);(try clear ho0);obtain ⟨Ao17,co17,eo17⟩:=Kd.R_slice HO7.out;subst eo17;have hnb18:=NB2_1.out;have hnc18:=NB1_2.out;have hcz19_0:w16.cell? ⟨gb2,0,none⟩=some (.slice none 0 0):=(blk_cell BK2.out 0).trans rfl;have hcz19_1:w16.cell? ⟨gb2,1,none⟩=some (.int .i64 0):=(blk_cell BK2.out 1).trans rfl;have hfz19_0:=blk_frozen BK2.out 0;have hfz19_1:=blk_frozen BK2.out 1)
    refine bodyPost_ret (results_cell_row rfl _ _ gb2 67 #[.slice Ao17 t5.length co17, .int .i64 t8] (0,0) _ rfl (by refine zk_ ?_;refine blk_put (cs:=#[.slice Ao17 t5.length co17, .int .i64 0]) ?_ 1 _ rfl;refine zk_ ?_;refine blk_put (cs:=#[.slice none 0 0, .int .i64 0]) ?_ 0 _ rfl;refine zk_ ?_;exact BK2.out) Try.underlying67 rfl (by kernel_rfl)) rfl ?_
    exact ⟨_,by first|rfl|(simp [errW_none,errW_some]<;>rfl)|(simp [*,errW_none,errW_some]<;>rfl),by (with_reducible repeat (first|apply Kd.R_alloc|apply Kd.R_drewN|apply Kd.R_drew));exact Kd.R_mono (Kd.R_far (p:=⟨gb2,1,none⟩) (Kd.R_far (p:=⟨gb2,0,none⟩) (Kd.R_types HO7.out BK2.out (by decide)) (fun _ hk=>hk.2) (.slice Ao17 t5.length co17)) (fun _ hk=>hk.2) (.int .i64 t8)) (fun _ hk=>trivial),zl2_ HB GE1 GE2⟩
   ·replace c14:=Bool.eq_false_iff.mpr c14
    subst c14
    have H1:((r10_Find.f kj4 l0 a1).bind fun t9=>(if t9≥0 then ((r10_no.f 3).bind fun bt10=>(some (bt10.1,bt10.2))) else (if a2.toList=([]:List UInt8) then (r10_Create.j1 kj4 l0 a1 a2 false a3_0 a3_1 a3_2) else ((r10_Find.f kj4 l0 a2).bind fun t14=>(r10_Create.j1 kj4 l0 a1 a2 (decide (t14<0)) a3_0 a3_1 a3_2)))))=some (r1,r2):=by rw [if_neg (show¬(false=true) by decide)] at H;exact H
    clear H
    have H:=H1
    clear H1
    replace H:=Option.bind_eq_some_iff.mp H
    obtain ⟨t9,A200,H⟩:=H
    replace H:(if t9≥0 then ((r10_no.f 3).bind fun bt10=>(some (bt10.1,bt10.2))) else (if a2.toList=([]:List UInt8) then (r10_Create.j1 kj4 l0 a1 a2 false a3_0 a3_1 a3_2) else ((r10_Find.f kj4 l0 a2).bind fun t14=>(r10_Create.j1 kj4 l0 a1 a2 (decide (t14<0)) a3_0 a3_1 a3_2))))=some (r1,r2):=H
    have A20:=Aside0.mk A200
    clear A200
    by_cases c21:t9≥0
    ·rw [if_pos c21] at H
     have c21b0:decide (0≤t9)=true:=decide_eq_true c21
     clear c21
     replace H:=Option.bind_eq_some_iff.mp H
     obtain ⟨⟨t10,t13⟩,A220,H⟩:=H
     replace H:(some (t10,t13))=some (r1,r2):=H
     have A22:=Aside0.mk A220
     clear A220
     simp only [Option.some.injEq,Prod.mk.injEq] at H
     obtain ⟨rfl,rfl⟩:=H
     go_wp2_with (first|((with_reducible refine gate_callee (f:=50) rfl ?_);refine goesL_ (some 24) rfl rfl Try.func50 (by kernel_rfl) rfl #[.slice A0 l0.length c0, .string a1] rfl zs_ ?_;(with_reducible refine (r10_Find.calls kj4 _ _ l0 a1 t9 _ ?side1 ?side2 A20.out).mono ?_);(case side1=>exact zc_ (Kd.C_below HR0.out HB.out));(case side2=>exact HC0.out);rintro e w' ⟨rfl,⟨nd,rfl⟩⟩;refine ⟨_,rfl, ?_⟩;(try (rw [drewN_self wc];generalize hq_:World.drewN wc _=wc;have n0_:Aside0 (wc.heap[gb1]?=some (.cells #[.int .i64 a3_0, .int .i64 a3_1, .int .i64 a3_2] 27 (0,0))):=⟨by rw [←hq_];exact (zb_ BK1)⟩;have n1_:Aside0 (wc.heap[gb2]?=some (.cells #[.slice none 0 0, .int .i64 0] 67 (0,0))):=⟨by rw [←hq_];exact (zb_ BK2)⟩;have n2_:Aside0 (Below w.heap.size w wc):=⟨by rw [←hq_];exact (zl2_ HB GE1 GE2)⟩;clear BK1 BK2 HB hq_;have BK1:=n0_;have BK2:=n1_;have HB:=n2_;clear n0_ n1_ n2_)))|((with_reducible refine gate_callee (f:=113) rfl ?_);refine goesL_ (some 26) rfl rfl Try.func113 (by kernel_rfl) rfl #[.int .i64 3] rfl zs_ ?_;(with_reducible refine (r10_no.calls 3 t10 t13 _ A22.out).mono ?_);rintro e w23 ⟨v11,rfl,ho0,hb⟩;refine ⟨_,rfl, ?_⟩;have n0_:=am_ (Kd.R_lower ho0 (below_size (zl2_ HB GE1 GE2)));have n1_:=am_ (blk_below (zb_ BK1) hb);have n2_:=am_ (blk_below (zb_ BK2) hb);have n3_:=am_ (below_step (zl2_ HB GE1 GE2) hb);clear BK1;clear BK2;clear HB;have HO12:=n0_;have BK1:=n1_;have BK2:=n2_;have HB:=n3_;clear n0_ n1_ n2_ n3_;(try clear hb);(try clear hb2);(try clear hk);(try clear hi);(try clear ho0);obtain ⟨Ao24,co24,eo24⟩:=Kd.R_slice HO12.out;subst eo24;have hnb25:=NB2_1.out;have hnc25:=NB1_2.out;have hcz26_0:w23.cell? ⟨gb2,0,none⟩=some (.slice none 0 0):=(blk_cell BK2.out 0).trans rfl;have hcz26_1:w23.cell? ⟨gb2,1,none⟩=some (.int .i64 0):=(blk_cell BK2.out 1).trans rfl;have hfz26_0:=blk_frozen BK2.out 0;have hfz26_1:=blk_frozen BK2.out 1))
     refine bodyPost_ret (results_cell_row rfl _ _ gb2 67 #[.slice Ao24 t10.length co24, .int .i64 t13] (0,0) _ rfl (by refine zk_ ?_;refine blk_put (cs:=#[.slice Ao24 t10.length co24, .int .i64 0]) ?_ 1 _ rfl;refine zk_ ?_;refine blk_put (cs:=#[.slice none 0 0, .int .i64 0]) ?_ 0 _ rfl;refine zk_ ?_;exact BK2.out) Try.underlying67 rfl (by kernel_rfl)) rfl ?_
     exact ⟨_,by first|rfl|(simp [errW_none,errW_some]<;>rfl)|(simp [*,errW_none,errW_some]<;>rfl),by (with_reducible repeat (first|apply Kd.R_alloc|apply Kd.R_drewN|apply Kd.R_drew));exact Kd.R_mono (Kd.R_far (p:=⟨gb2,1,none⟩) (Kd.R_far (p:=⟨gb2,0,none⟩) (Kd.R_types HO12.out BK2.out (by decide)) (fun _ hk=>hk.2) (.slice Ao24 t10.length co24)) (fun _ hk=>hk.2) (.int .i64 t13)) (fun _ hk=>trivial),zl2_ HB GE1 GE2⟩
    ·rw [if_neg c21] at H
     have c21b0:decide (0≤t9)=false:=decide_eq_false c21
     clear c21
     have HC27:=Aside0.mk H
     clear H
     go_upto_region 5 with (first|((with_reducible refine gate_callee (f:=50) rfl ?_);refine goesL_ (some 24) rfl rfl Try.func50 (by kernel_rfl) rfl #[.slice A0 l0.length c0, .string a1] rfl zs_ ?_;(with_reducible refine (r10_Find.calls kj4 _ _ l0 a1 t9 _ ?side1 ?side2 A20.out).mono ?_);(case side1=>exact zc_ (Kd.C_below HR0.out HB.out));(case side2=>exact HC0.out);rintro e w' ⟨rfl,⟨nd,rfl⟩⟩;refine ⟨_,rfl, ?_⟩))
     (try simp only [Act.put,List.setIfInBounds_toArray,List.set_cons_zero,List.set_cons_succ])
     go_cut [27] (fun v27 wc=> ∃(kq:Nat) (x27_26:Bool),v27= .bool x27_26∧Aside0 (r10_Create.j1 kq l0 a1 a2 x27_26 a3_0 a3_1 a3_2=some (r1,r2))∧Aside0 (kq≤kj4)∧Aside0 (wc.heap[gb1]?=some (.cells #[.int .i64 a3_0, .int .i64 a3_1, .int .i64 a3_2] 27 (0,0)))∧Aside0 (wc.heap[gb2]?=some (.cells #[(.slice none 0 0), .int .i64 0] 67 (0,0)))∧Aside0 (Below w.heap.size w wc))
     case first=>
      have H:=HC27.out
      clear HC27
      by_cases c28:a2.toList=([]:List UInt8)
      ·rw [if_pos c28] at H
       have c28b0:(a2.toList==([]:List UInt8))=true:=beq_iff_eq.mpr c28
       have c28b1:(a2.toList !=([]:List UInt8))=false:=bne_eq_false_iff_eq.mpr c28
       clear c28
       (first|rw [c28b0]|(simp only [i64_w,i32_w];rw [c28b0])|skip)
       have H':=Aside0.mk H
       clear H
       go_wp2
       go_meet
       case rel=>exact ⟨_,(false),(by first|rfl|(simp;done)|(simp [*];done)),H',⟨by have:=HJ4.out;first|omega|exact Nat.le_refl _⟩,⟨by refine zk_ ?_;exact BK1.out⟩,⟨by refine zk_ ?_;exact BK2.out⟩,⟨zl2_ HB GE1 GE2⟩⟩
      ·rw [if_neg c28] at H
       have c28b0:(a2.toList==([]:List UInt8))=false:=beq_eq_false_iff_ne.mpr c28
       have c28b1:(a2.toList !=([]:List UInt8))=true:=bne_iff_ne.mpr c28
       (first|rw [c28b0]|(simp only [i64_w,i32_w];rw [c28b0])|skip)
       replace H:=Option.bind_eq_some_iff.mp H
       obtain ⟨t14,A290,H⟩:=H
       replace H:(r10_Create.j1 kj4 l0 a1 a2 (decide (t14<0)) a3_0 a3_1 a3_2)=some (r1,r2):=H
       have A29:=Aside0.mk A290
       clear A290
       have H':=Aside0.mk H
       clear H
       go_wp2_with (go_at_call 50;(with_reducible refine (r10_Find.calls kj4 _ _ l0 a2 t14 _ ?side1 ?side2 A29.out).mono ?_);(case side1=>exact zc_ (Kd.C_below HR0.out HB.out));(case side2=>exact HC0.out);rintro e w' ⟨rfl,⟨nd,rfl⟩⟩)
       go_meet
       case rel=>exact ⟨_,(decide (t14<0)),(by first|rfl|(simp;done)|(simp [*];done)),H',⟨by have:=HJ4.out;first|omega|exact Nat.le_refl _⟩,⟨by refine zk_ ?_;exact BK1.out⟩,⟨by refine zk_ ?_;exact BK2.out⟩,⟨zl2_ HB GE1 GE2⟩⟩
     case rest=>
      clear HC27
      try clear c1
      try clear c2
      try clear p2
      try clear c5
      try clear c8
      try clear c9
      try clear c10
      try clear c11
      try clear c14
      try clear c18
      try clear c21
      try clear c21b0
      try clear c25
      try clear c28
      try clear c28b0
      try clear c28b1
      try clear hcz12_0
      try clear hcz12_1
      try clear hcz12_2
      try clear hcz19_0
      try clear hcz19_1
      try clear hcz26_0
      try clear hcz26_1
      try clear hfz12_0
      try clear hfz12_1
      try clear hfz12_2
      try clear hfz19_0
      try clear hfz19_1
      try clear hfz26_0
      try clear hfz26_1
      try clear p2
      obtain ⟨kq,x27_26,rfl,HA,HJ26,BK1,BK2,HB⟩:=hcut
      cases kq with
      |zero=>exact absurd HA.out (by simp [r10_Create.j1])
      |succ kj26=>
       have H:=HA.out
       clear HA
       simp only [r10_Create.j1] at H
       by_cases c30:x27_26=true
       ·subst c30
        have H1:((r10_no.f 2).bind fun bt15=>(some (bt15.1,bt15.2)))=some (r1,r2):=by rw [if_pos rfl] at H;exact H
        clear H
        have H:=H1
        clear H1
        replace H:=Option.bind_eq_some_iff.mp H
        obtain ⟨⟨t15,t18⟩,A310,H⟩:=H
        replace H:(some (t15,t18))=some (r1,r2):=H
        have A31:=Aside0.mk A310
        clear A310
        simp only [Option.some.injEq,Prod.mk.injEq] at H
        obtain ⟨rfl,rfl⟩:=H
        go_wp2_with ((with_reducible refine gate_callee (f:=113) rfl ?_);refine goesL_ (some 36) rfl rfl Try.func113 (by kernel_rfl) rfl #[.int .i64 2] rfl zs_ ?_;(with_reducible refine (r10_no.calls 2 t15 t18 _ A31.out).mono ?_);rintro e w32 ⟨v16,rfl,ho0,hb⟩;refine ⟨_,rfl, ?_⟩;have n0_:=am_ (Kd.R_lower ho0 (below_size (zl2_ HB GE1 GE2)));have n1_:=am_ (blk_below (zb_ BK1) hb);have n2_:=am_ (blk_below (zb_ BK2) hb);have n3_:=am_ (below_step (zl2_ HB GE1 GE2) hb);clear BK1;clear BK2;clear HB;have HO17:=n0_;have BK1:=n1_;have BK2:=n2_;have HB:=n3_;clear n0_ n1_ n2_ n3_;(try clear hb);(try clear hb2);(try clear hk);(try clear hi);(try clear ho0);obtain ⟨Ao33,co33,eo33⟩:=Kd.R_slice HO17.out;subst eo33;have hnb34:=NB2_1.out;have hnc34:=NB1_2.out;have hcz35_0:w32.cell? ⟨gb2,0,none⟩=some (.slice none 0 0):=(blk_cell BK2.out 0).trans rfl;have hcz35_1:w32.cell? ⟨gb2,1,none⟩=some (.int .i64 0):=(blk_cell BK2.out 1).trans rfl;have hfz35_0:=blk_frozen BK2.out 0;have hfz35_1:=blk_frozen BK2.out 1)
        refine bodyPost_ret (results_cell_row rfl _ _ gb2 67 #[.slice Ao33 t15.length co33, .int .i64 t18] (0,0) _ rfl (by refine zk_ ?_;refine blk_put (cs:=#[.slice Ao33 t15.length co33, .int .i64 0]) ?_ 1 _ rfl;refine zk_ ?_;refine blk_put (cs:=#[.slice none 0 0, .int .i64 0]) ?_ 0 _ rfl;refine zk_ ?_;exact BK2.out) Try.underlying67 rfl (by kernel_rfl)) rfl ?_
        exact ⟨_,by first|rfl|(simp [errW_none,errW_some]<;>rfl)|(simp [*,errW_none,errW_some]<;>rfl),by (with_reducible repeat (first|apply Kd.R_alloc|apply Kd.R_drewN|apply Kd.R_drew));exact Kd.R_mono (Kd.R_far (p:=⟨gb2,1,none⟩) (Kd.R_far (p:=⟨gb2,0,none⟩) (Kd.R_types HO17.out BK2.out (by decide)) (fun _ hk=>hk.2) (.slice Ao33 t15.length co33)) (fun _ hk=>hk.2) (.int .i64 t18)) (fun _ hk=>trivial),zl2_ HB GE1 GE2⟩
       ·replace c30:=Bool.eq_false_iff.mpr c30
        subst c30
        have H1:(if (l0.length:Int)≥120 then ((r10_no.f 4).bind fun bt19=>(some (bt19.1,bt19.2))) else (r10_Create.l0 kj26 l0 a1 a2 0 a3_0 a3_1 a3_2))=some (r1,r2):=by rw [if_neg (show¬(false=true) by decide)] at H;exact H
        clear H
        have H:=H1
        clear H1
        by_cases c36:(l0.length:Int)≥120
        ·rw [if_pos c36] at H
         have c36b0:decide (120≤(l0.length:Int))=true:=decide_eq_true c36
         have c36b1:decide (120≤l0.length)=true:=decide_eq_true (by omega)
         clear c36
         replace H:=Option.bind_eq_some_iff.mp H
         obtain ⟨⟨t19,t22⟩,A370,H⟩:=H
         replace H:(some (t19,t22))=some (r1,r2):=H
         have A37:=Aside0.mk A370
         clear A370
         simp only [Option.some.injEq,Prod.mk.injEq] at H
         obtain ⟨rfl,rfl⟩:=H
         go_wp2_with ((with_reducible refine gate_callee (f:=113) rfl ?_);refine goesL_ (some 41) rfl rfl Try.func113 (by kernel_rfl) rfl #[.int .i64 4] rfl zs_ ?_;(with_reducible refine (r10_no.calls 4 t19 t22 _ A37.out).mono ?_);rintro e w38 ⟨v20,rfl,ho0,hb⟩;refine ⟨_,rfl, ?_⟩;have n0_:=am_ (Kd.R_lower ho0 (below_size (zl2_ HB GE1 GE2)));have n1_:=am_ (blk_below (zb_ BK1) hb);have n2_:=am_ (blk_below (zb_ BK2) hb);have n3_:=am_ (below_step (zl2_ HB GE1 GE2) hb);clear BK1;clear BK2;clear HB;have HO21:=n0_;have BK1:=n1_;have BK2:=n2_;have HB:=n3_;clear n0_ n1_ n2_ n3_;(try clear hb);(try clear hb2);(try clear hk);(try clear hi);(try clear ho0);obtain ⟨Ao39,co39,eo39⟩:=Kd.R_slice HO21.out;subst eo39;have hnb40:=NB2_1.out;have hnc40:=NB1_2.out;have hcz41_0:w38.cell? ⟨gb2,0,none⟩=some (.slice none 0 0):=(blk_cell BK2.out 0).trans rfl;have hcz41_1:w38.cell? ⟨gb2,1,none⟩=some (.int .i64 0):=(blk_cell BK2.out 1).trans rfl;have hfz41_0:=blk_frozen BK2.out 0;have hfz41_1:=blk_frozen BK2.out 1)
         refine bodyPost_ret (results_cell_row rfl _ _ gb2 67 #[.slice Ao39 t19.length co39, .int .i64 t22] (0,0) _ rfl (by refine zk_ ?_;refine blk_put (cs:=#[.slice Ao39 t19.length co39, .int .i64 0]) ?_ 1 _ rfl;refine zk_ ?_;refine blk_put (cs:=#[.slice none 0 0, .int .i64 0]) ?_ 0 _ rfl;refine zk_ ?_;exact BK2.out) Try.underlying67 rfl (by kernel_rfl)) rfl ?_
         exact ⟨_,by first|rfl|(simp [errW_none,errW_some]<;>rfl)|(simp [*,errW_none,errW_some]<;>rfl),by (with_reducible repeat (first|apply Kd.R_alloc|apply Kd.R_drewN|apply Kd.R_drew));exact Kd.R_mono (Kd.R_far (p:=⟨gb2,1,none⟩) (Kd.R_far (p:=⟨gb2,0,none⟩) (Kd.R_types HO21.out BK2.out (by decide)) (fun _ hk=>hk.2) (.slice Ao39 t19.length co39)) (fun _ hk=>hk.2) (.int .i64 t22)) (fun _ hk=>trivial),zl2_ HB GE1 GE2⟩
        ·rw [if_neg c36] at H
         have c36b0:decide (120≤(l0.length:Int))=false:=decide_eq_false c36
         have c36b1:decide (120≤l0.length)=false:=decide_eq_false (by omega)
         clear c36
         have H':=Aside0.mk H
         clear H
         go_wp2
         go_loopg [9] kj26 (fun kq v9 w'=> ∃(x9_3:Int),v9= .int .i64 x9_3∧Aside0 (r10_Create.l0 kq l0 a1 a2 x9_3 a3_0 a3_1 a3_2=some (r1,r2))∧Aside0 (kq≤kj26)∧Aside0 (w'.heap[gb1]?=some (.cells #[.int .i64 a3_0, .int .i64 a3_1, .int .i64 a3_2] 27 (0,0)))∧Aside0 (w'.heap[gb2]?=some (.cells #[(.slice none 0 0), .int .i64 0] 67 (0,0)))∧Aside0 (Below w.heap.size w w'))
         case atStart=>exact ⟨(0),(by first|rfl|(simp;done)|(simp [*];done)),H',⟨Nat.le_refl _⟩,⟨by refine zk_ ?_;exact BK1.out⟩,⟨by refine zk_ ?_;exact BK2.out⟩,⟨zl2_ HB GE1 GE2⟩⟩
         case round=>
          clear H'
          try clear c1
          try clear c2
          try clear p2
          try clear c3
          try clear c4
          try clear c5
          try clear c8
          try clear c9
          try clear c10
          try clear c11
          try clear c14
          try clear c18
          try clear c21
          try clear c21b0
          try clear c25
          try clear c28
          try clear c28b0
          try clear c28b1
          try clear c30
          try clear c34
          try clear c36
          try clear c36b0
          try clear c36b1
          try clear c40
          try clear hcz12_0
          try clear hcz12_1
          try clear hcz12_2
          try clear hcz19_0
          try clear hcz19_1
          try clear hcz26_0
          try clear hcz26_1
          try clear hcz35_0
          try clear hcz35_1
          try clear hcz41_0
          try clear hcz41_1
          try clear hfz12_0
          try clear hfz12_1
          try clear hfz12_2
          try clear hfz19_0
          try clear hfz19_1
          try clear hfz26_0
          try clear hfz26_1
          try clear hfz35_0
          try clear hfz35_1
          try clear hfz41_0
          try clear hfz41_1
          try clear p2
          obtain ⟨x9_3,rfl,HA,HK3,BK1,BK2,HB⟩:=hrel
          cases gk with
          |zero=>exact absurd HA.out (by simp [r10_Create.l0])
          |succ k3=>
           have H:=HA.out
           clear HA
           simp only [r10_Create.l0] at H
           by_cases c42:x9_3<(l0.length:Int)
           ·rw [if_pos c42] at H
            have c42b0:decide (x9_3<(l0.length:Int))=true:=decide_eq_true c42
            clear c42
            by_cases c43:0≤x9_3
            ·rw [if_pos c43] at H
             have c43b0:decide (0≤x9_3)=true:=decide_eq_true c43
             clear c43
             by_cases c44:(Op.bytesLess (((rd_T31 l0 x9_3).f0).toList) a1.toList)=true
             ·rw [if_pos c44] at H
              have c44b0:(Op.bytesLess (((rd_T31 l0 x9_3).f0).toList) a1.toList)=true:=c44
              clear c44
              have H':=Aside0.mk H
              clear H
              have p23:0≤(x9_3:Int):=of_decide_eq_true zq_
              have q23:x9_3<(l0.length:Int):=of_decide_eq_true zq_
              obtain ⟨ad23,e23,hx23_0,hx23_1,hx23_2,hx23_3,hx23_4,hx23_5,hx23_6,hx23_7,hx23_8,hx23_9,hx23_10,hx23_11⟩:=at_T31 HR0.out x9_3 p23 q23
              cases e23
              replace hx23_0:=zx_ HB hx23_0
              replace hx23_1:=zx_ HB hx23_1
              replace hx23_2:=zx_ HB hx23_2
              replace hx23_3:=zx_ HB hx23_3
              replace hx23_4:=zx_ HB hx23_4
              replace hx23_5:=zx_ HB hx23_5
              replace hx23_6:=zx_ HB hx23_6
              replace hx23_7:=zx_ HB hx23_7
              replace hx23_8:=zx_ HB hx23_8
              replace hx23_9:=zx_ HB hx23_9
              replace hx23_10:=zx_ HB hx23_10
              replace hx23_11:=zx_ HB hx23_11
              replace p23:=eq_true p23
              replace q23:=eq_true q23
              go_wp2
              go_roundg k3
              case measure=>have:=HJ4.out;have:=HJ26.out;have:=HK3.out;omega
              case rel=>exact ⟨(wrap64 (x9_3+1)),(by first|rfl|(simp;done)|(simp [*];done)),H',⟨by have:=HJ4.out;have:=HJ26.out;have:=HK3.out;omega⟩,⟨by refine zk_ ?_;exact BK1.out⟩,⟨by refine zk_ ?_;exact BK2.out⟩,⟨zl2_ HB GE1 GE2⟩⟩
             ·rw [if_neg c44] at H
              have c44b0:(Op.bytesLess (((rd_T31 l0 x9_3).f0).toList) a1.toList)=false:=by simpa using c44
              clear c44
              have c45b0:=eq_true (of_decide_eq_true zq_:0≤x9_3)
              by_cases c46:x9_3≤(l0.length:Int)
              ·rw [if_pos c46] at H
               have c46b0:=eq_true c46
               have c46b1:decide (x9_3≤(l0.length:Int))=true:=decide_eq_true c46
               clear c46
               obtain ⟨y24,hy24⟩: ∃y_:List (S31),y_=(l0.take (x9_3:Int).toNat):=⟨_,rfl⟩
               replace H:((r10_copied.f y24).bind fun t28=>(if t28.length<1256584717458 then ((some (t28++ [(⟨a1,a2,(⟨a3_0,a3_1,a3_2⟩:S27),(⟨0,0,0⟩:S27),(⟨0,0,0⟩:S27),1⟩:S31)]:List (S31))).bind fun y31=>((some (l0.drop (x9_3:Int).toNat:List (S31))).bind fun y34=>(if y31.length+y34.length<1256584717458 then (some ((y31++y34),0)) else (none)))) else (none)))=some (r1,r2):=by first|(rw [hy24];with_reducible exact H)|(have H2_:=(Option.bind_some _ _).symm.trans H;rw [hy24];with_reducible exact H2_)|(have H2_:=(Option.bind_some _ _).symm.trans H;with_reducible exact H2_)|with_reducible exact H|(rw [hy24];exact H)|exact H
               have Ny24:=Aside0.mk hy24
               clear hy24
               replace H:=Option.bind_eq_some_iff.mp H
               obtain ⟨t28,A470,H⟩:=H
               replace H:(if t28.length<1256584717458 then ((some (t28++ [(⟨a1,a2,(⟨a3_0,a3_1,a3_2⟩:S27),(⟨0,0,0⟩:S27),(⟨0,0,0⟩:S27),1⟩:S31)]:List (S31))).bind fun y31=>((some (l0.drop (x9_3:Int).toNat:List (S31))).bind fun y34=>(if y31.length+y34.length<1256584717458 then (some ((y31++y34),0)) else (none)))) else (none))=some (r1,r2):=H
               have A47:=Aside0.mk A470
               clear A470
               by_cases c48:t28.length<1256584717458
               ·rw [if_pos c48] at H
                have LMc48:=Aside0.mk c48
                clear c48
                obtain ⟨y31,hy31⟩: ∃y_:List (S31),y_=(t28++ [(⟨a1,a2,(⟨a3_0,a3_1,a3_2⟩:S27),(⟨0,0,0⟩:S27),(⟨0,0,0⟩:S27),1⟩:S31)]):=⟨_,rfl⟩
                replace H:((some (l0.drop (x9_3:Int).toNat:List (S31))).bind fun y34=>(if y31.length+y34.length<1256584717458 then (some ((y31++y34),0)) else (none)))=some (r1,r2):=by first|(rw [hy31];with_reducible exact H)|(have H2_:=(Option.bind_some _ _).symm.trans H;rw [hy31];with_reducible exact H2_)|(have H2_:=(Option.bind_some _ _).symm.trans H;with_reducible exact H2_)|with_reducible exact H|(rw [hy31];exact H)|exact H
                have Ny31:=Aside0.mk hy31
                clear hy31
                have c49b0:=eq_true (of_decide_eq_true zq_:0≤x9_3)
                have c50b0:=eq_true (of_decide_eq_true zq_:x9_3≤(l0.length:Int))
                obtain ⟨y34,hy34⟩: ∃y_:List (S31),y_=(l0.drop (x9_3:Int).toNat):=⟨_,rfl⟩
                replace H:(if y31.length+y34.length<1256584717458 then (some ((y31++y34),0)) else (none))=some (r1,r2):=by first|(rw [hy34];with_reducible exact H)|(have H2_:=(Option.bind_some _ _).symm.trans H;rw [hy34];with_reducible exact H2_)|(have H2_:=(Option.bind_some _ _).symm.trans H;with_reducible exact H2_)|with_reducible exact H|(rw [hy34];exact H)|exact H
                have Ny34:=Aside0.mk hy34
                clear hy34
                by_cases c51:y31.length+y34.length<1256584717458
                ·rw [if_pos c51] at H
                 have LMc51:=Aside0.mk c51
                 clear c51
                 obtain ⟨y38,hy38⟩: ∃y_:List (S31),y_=(y31++y34):=⟨_,rfl⟩
                 replace H:(some (y38,0))=some (r1,r2):=by first|(rw [hy38];with_reducible exact H)|(have H2_:=(Option.bind_some _ _).symm.trans H;rw [hy38];with_reducible exact H2_)|(have H2_:=(Option.bind_some _ _).symm.trans H;with_reducible exact H2_)|with_reducible exact H|(rw [hy38];exact H)|exact H
                 have Ny38:=Aside0.mk hy38
                 clear hy38
                 simp only [Option.some.injEq,Prod.mk.injEq] at H
                 obtain ⟨rfl,rfl⟩:=H
                 have p23:0≤(x9_3:Int):=of_decide_eq_true zq_
                 have q23:x9_3<(l0.length:Int):=of_decide_eq_true zq_
                 obtain ⟨ad23,e23,hx23_0,hx23_1,hx23_2,hx23_3,hx23_4,hx23_5,hx23_6,hx23_7,hx23_8,hx23_9,hx23_10,hx23_11⟩:=at_T31 HR0.out x9_3 p23 q23
                 cases e23
                 replace hx23_0:=zx_ HB hx23_0
                 replace hx23_1:=zx_ HB hx23_1
                 replace hx23_2:=zx_ HB hx23_2
                 replace hx23_3:=zx_ HB hx23_3
                 replace hx23_4:=zx_ HB hx23_4
                 replace hx23_5:=zx_ HB hx23_5
                 replace hx23_6:=zx_ HB hx23_6
                 replace hx23_7:=zx_ HB hx23_7
                 replace hx23_8:=zx_ HB hx23_8
                 replace hx23_9:=zx_ HB hx23_9
                 replace hx23_10:=zx_ HB hx23_10
                 replace hx23_11:=zx_ HB hx23_11
                 replace p23:=eq_true p23
                 replace q23:=eq_true q23
                 have q52:(x9_3:Int)≤((l0.length:Int):Int):=of_decide_eq_true zq_
                 obtain ⟨i052,hi052,_,hsz52,_⟩:=info_parts info31
                 have hroom52:l0.length≤c0:=HC0.out
                 have hC52:Kd.C k31 _ (some ad23) l0.length l0:=HR0.out
                 have hcut52:=cut_to (P:=Try.prog) 24 31 .i64 Try.underlying24 hi052 (some ad23) l0.length c0 x9_3 (of_decide_eq_true zq_) q52 hroom52
                 have hr52:=Kd.C_take (m:=(x9_3:Int).toNat) hC52 (by omega)
                 have hy52:y24.length=(x9_3:Int).toNat:=(by rw [Ny24.out,List.length_take];omega)
                 rw [←Ny24.out] at hr52
                 rw [←hy52] at hcut52
                 have HR27:=Aside0.mk hr52
                 have HC27:=am_ (show y24.length≤c0 from by omega)
                 clear hr52 hC52 hroom52 hi052 hsz52
                 have KY52:=Aside0.mk hy52
                 clear hy52
                 replace q52:=eq_true q52
                 go_wp2_with (first|((with_reducible refine gate_callee (f:=124) rfl ?_);refine goesL_ (some 60) rfl rfl Try.func124 (by kernel_rfl) rfl #[.slice (some ad23) y24.length c0] rfl zs_ ?_;(with_reducible refine (r10_copied.calls _ _ y24 t28 _ ?side1 ?side2 A47.out).mono ?_);(case side1=>exact zc_ (Kd.C_below HR27.out HB.out));(case side2=>exact HC27.out);rintro e w53 ⟨v29,rfl,ho0,hb⟩;refine ⟨_,rfl, ?_⟩;have n0_:=am_ (Kd.R_lower ho0 (below_size (zl2_ HB GE1 GE2)));have n1_:=am_ (blk_below (zb_ BK1) hb);have n2_:=am_ (blk_below (zb_ BK2) hb);have n3_:=am_ (below_step (zl2_ HB GE1 GE2) hb);clear BK1;clear BK2;clear HB;have HO30:=n0_;have BK1:=n1_;have BK2:=n2_;have HB:=n3_;clear n0_ n1_ n2_ n3_;(try clear hb);(try clear hb2);(try clear hk);(try clear hi);(try clear ho0);have hnb54:=NB1_2.out;have hnc54:=NB2_1.out;have hcz55_0:w53.cell? ⟨gb1,0,none⟩=some (.int .i64 a3_0):=(blk_cell BK1.out 0).trans rfl;have hcz55_1:w53.cell? ⟨gb1,1,none⟩=some (.int .i64 a3_1):=(blk_cell BK1.out 1).trans rfl;have hcz55_2:w53.cell? ⟨gb1,2,none⟩=some (.int .i64 a3_2):=(blk_cell BK1.out 2).trans rfl;have hfz55_0:=blk_frozen BK1.out 0;have hfz55_1:=blk_frozen BK1.out 1;have hfz55_2:=blk_frozen BK1.out 2)|((with_reducible refine gate_builtin (b:= .append) (xs:=#[.tmp 61, .tmp 66]) rfl ?_);at_builtin;refine Kd.R_append k31 (w0:=w) w.heap.size rfl (.tmp 61) (.tmp 66) 24 31 (.agg #[(.string ⟨#[]⟩),(.string ⟨#[]⟩),(.int .i64 0),(.int .i64 0),(.int .i64 0),(.int .i64 0),(.int .i64 0),(.int .i64 0),(.int .i64 0),(.int .i64 0),(.int .i64 0),(.int .i64 0)]) 112 rfl Try.underlying24 info31 rfl (by decide) (by omega) v29 t28 (⟨a1,a2,(⟨a3_0,a3_1,a3_2⟩:S27),(⟨0,0,0⟩:S27),(⟨0,0,0⟩:S27),1⟩:S31) [.string a1, .string a2, .int .i64 a3_0, .int .i64 a3_1, .int .i64 a3_2, .int .i64 0, .int .i64 0, .int .i64 0, .int .i64 0, .int .i64 0, .int .i64 0, .int .i64 1] (fun _=>True) (fun _=>False) rfl rfl ?aP (fun _ hk=>hk.elim) ?aF ?aO ?aB ?aS ?aL ?_;(case aP=>exact k31_mkM _ _ _ (⟨a1,a2,(⟨a3_0,a3_1,a3_2⟩:S27),(⟨0,0,0⟩:S27),(⟨0,0,0⟩:S27),1⟩:S31));(case aB=>exact (zl2_ HB GE1 GE2));(case aF=>exact (fun _ _=>trivial));(case aO=>exact (zr_ HO30));(case aS=>exact (below_size (zl2_ HB GE1 GE2)));(case aL=>have:=LMc48.out;omega);intro v32 w56 ho hb hg hat;rw [←Ny31.out] at ho;have n0_:=am_ (blk_grown (zb_ BK1) hg (Kd.R_ne HO30.out BK1.out (by decide)));have n1_:=am_ (blk_grown (zb_ BK2) hg (Kd.R_ne HO30.out BK2.out (by decide)));have n2_:=am_ (hb);have n3_:=am_ (ho);clear BK1;clear BK2;clear HB;clear HO30;have BK1:=n0_;have BK2:=n1_;have HB:=n2_;have HO33:=n3_;clear n0_ n1_ n2_ n3_;clear ho hb hg hat;have q57:(x9_3:Int)≤((l0.length:Int):Int):=of_decide_eq_true zq_;obtain ⟨i057,hi057,_,hsz57,_⟩:=info_parts info31;have hroom57:l0.length≤c0:=HC0.out;have hC57:Kd.C k31 _ (some ad23) l0.length l0:=HR0.out;have q057:(0:Int)≤(x9_3:Int):=of_decide_eq_true zq_;have hcut57:=cut_from (P:=Try.prog) 24 31 .i64 Try.underlying24 hi057 12 hsz57 (some ad23) l0.length c0 x9_3 q057 q57;have hr57:=Kd.C_drop (m:=(x9_3:Int).toNat) (c:=c0) hC57 (by omega) hroom57;obtain ⟨A57,hA57⟩: ∃A1,A1=(if c0=(x9_3:Int).toNat then (some ad23) else ((some ad23):Option Addr).map (·.add ((x9_3:Int).toNat*12))):=⟨_,rfl⟩;obtain ⟨c57,hc57⟩: ∃c1,c1=c0 - (x9_3:Int).toNat:=⟨_,rfl⟩;have hy57:y34.length=l0.length - (x9_3:Int).toNat:=(by rw [Ny34.out,List.length_drop]<;>omega);rw [show (l0).drop (x9_3:Int).toNat=y34 from Ny34.out.symm] at hr57;replace hr57:Kd.C k31 _ A57 y34.length y34:=(by rw [hA57];exact hr57);rw [←hy57,←hA57,←hc57] at hcut57;have HR37:=Aside0.mk hr57;have HC37:=am_ (show y34.length≤c57 from by rw [hy57,hc57];exact Nat.sub_le_sub_right hroom57 _);clear hr57 hC57 hroom57 hi057 hsz57 hc57;have KY57:=Aside0.mk hy57;have KA57:=Aside0.mk hA57;clear hy57 hA57;replace q57:=eq_true q57)|((with_reducible refine gate_builtin (b:= .append) (xs:=#[.tmp 68, .tmp 71]) rfl ?_);at_builtin;refine Kd.R_append_rows k31 (w0:=w) w.heap.size rfl (.tmp 68) (.tmp 71) 24 31 (.agg #[(.string ⟨#[]⟩),(.string ⟨#[]⟩),(.int .i64 0),(.int .i64 0),(.int .i64 0),(.int .i64 0),(.int .i64 0),(.int .i64 0),(.int .i64 0),(.int .i64 0),(.int .i64 0),(.int .i64 0)]) 112 rfl Try.underlying24 info31 rfl (by decide) (by omega) v32 y31 y34 _ _ _ (fun _=>True) (fun _=>False) rfl rfl ?aO ?aR (fun _ _ h=>h) (fun _ h=>h.elim) ?aF ?aB ?aS ?aL ?_;(case aR=>repeat (first|exact (Kd.C_below HR37.out HB.out)|(with_reducible refine Kd.C_alloc ?_ _)|(with_reducible refine Kd.C_drewN ?_ _)|(with_reducible refine Kd.C_drew ?_)));(case aB=>exact (zl2_ HB GE1 GE2));(case aF=>exact (fun _ _=>trivial));(case aO=>exact (zr_ HO33));(case aS=>exact (below_size (zl2_ HB GE1 GE2)));(case aL=>have:=LMc51.out;omega);intro v39 w58 ho hb hg hat;rw [←Ny38.out] at ho;have n0_:=am_ (blk_grown (zb_ BK1) hg (Kd.R_ne HO33.out BK1.out (by decide)));have n1_:=am_ (blk_grown (zb_ BK2) hg (Kd.R_ne HO33.out BK2.out (by decide)));have n2_:=am_ (hb);have n3_:=am_ (ho);clear BK1;clear BK2;clear HB;clear HO33;have BK1:=n0_;have BK2:=n1_;have HB:=n2_;have HO40:=n3_;clear n0_ n1_ n2_ n3_;clear ho hb hg hat;obtain ⟨Ao59,co59,eo59⟩:=Kd.R_slice HO40.out;subst eo59;have hcz60_0:w58.cell? ⟨gb2,0,none⟩=some (.slice none 0 0):=(blk_cell BK2.out 0).trans rfl;have hcz60_1:w58.cell? ⟨gb2,1,none⟩=some (.int .i64 0):=(blk_cell BK2.out 1).trans rfl;have hfz60_0:=blk_frozen BK2.out 0;have hfz60_1:=blk_frozen BK2.out 1))
                 refine bodyPost_ret (results_cell_row rfl _ _ gb2 67 #[.slice Ao59 y38.length co59, .int .i64 0] (0,0) _ rfl (by refine zk_ ?_;refine blk_put (cs:=#[.slice Ao59 y38.length co59, .int .i64 0]) ?_ 1 _ rfl;refine zk_ ?_;refine blk_put (cs:=#[.slice none 0 0, .int .i64 0]) ?_ 0 _ rfl;refine zk_ ?_;exact BK2.out) Try.underlying67 rfl (by kernel_rfl)) rfl ?_
                 exact ⟨_,by first|rfl|(simp [errW_none,errW_some]<;>rfl)|(simp [*,errW_none,errW_some]<;>rfl),by (with_reducible repeat (first|apply Kd.R_alloc|apply Kd.R_drewN|apply Kd.R_drew));exact Kd.R_mono (Kd.R_far (p:=⟨gb2,1,none⟩) (Kd.R_far (p:=⟨gb2,0,none⟩) (Kd.R_types HO40.out BK2.out (by decide)) (fun _ hk=>hk.2) (.slice Ao59 y38.length co59)) (fun _ hk=>hk.2) (.int .i64 0)) (fun _ hk=>trivial),zl2_ HB GE1 GE2⟩
                ·rw [if_neg c51] at H
                 exact absurd H (by simp)
               ·rw [if_neg c48] at H
                exact absurd H (by simp)
              ·rw [if_neg c46] at H
               exact absurd H (by simp)
            ·rw [if_neg c43] at H
             exact absurd H (by simp)
           ·rw [if_neg c42] at H
            have c42b0:decide (x9_3<(l0.length:Int))=false:=decide_eq_false c42
            clear c42
            by_cases c61:0≤x9_3
            ·rw [if_pos c61] at H
             have c61b0:=eq_true c61
             have c61b1:decide (0≤x9_3)=true:=decide_eq_true c61
             clear c61
             by_cases c62:x9_3≤(l0.length:Int)
             ·rw [if_pos c62] at H
              have c62b0:=eq_true c62
              have c62b1:decide (x9_3≤(l0.length:Int))=true:=decide_eq_true c62
              clear c62
              obtain ⟨y41,hy41⟩: ∃y_:List (S31),y_=(l0.take (x9_3:Int).toNat):=⟨_,rfl⟩
              replace H:((r10_copied.f y41).bind fun t45=>(if t45.length<1256584717458 then ((some (t45++ [(⟨a1,a2,(⟨a3_0,a3_1,a3_2⟩:S27),(⟨0,0,0⟩:S27),(⟨0,0,0⟩:S27),1⟩:S31)]:List (S31))).bind fun y48=>((some (l0.drop (x9_3:Int).toNat:List (S31))).bind fun y51=>(if y48.length+y51.length<1256584717458 then (some ((y48++y51),0)) else (none)))) else (none)))=some (r1,r2):=by first|(rw [hy41];with_reducible exact H)|(have H2_:=(Option.bind_some _ _).symm.trans H;rw [hy41];with_reducible exact H2_)|(have H2_:=(Option.bind_some _ _).symm.trans H;with_reducible exact H2_)|with_reducible exact H|(rw [hy41];exact H)|exact H
              have Ny41:=Aside0.mk hy41
              clear hy41
              replace H:=Option.bind_eq_some_iff.mp H
              obtain ⟨t45,A630,H⟩:=H
              replace H:(if t45.length<1256584717458 then ((some (t45++ [(⟨a1,a2,(⟨a3_0,a3_1,a3_2⟩:S27),(⟨0,0,0⟩:S27),(⟨0,0,0⟩:S27),1⟩:S31)]:List (S31))).bind fun y48=>((some (l0.drop (x9_3:Int).toNat:List (S31))).bind fun y51=>(if y48.length+y51.length<1256584717458 then (some ((y48++y51),0)) else (none)))) else (none))=some (r1,r2):=H
              have A63:=Aside0.mk A630
              clear A630
              by_cases c64:t45.length<1256584717458
              ·rw [if_pos c64] at H
               have LMc64:=Aside0.mk c64
               clear c64
               obtain ⟨y48,hy48⟩: ∃y_:List (S31),y_=(t45++ [(⟨a1,a2,(⟨a3_0,a3_1,a3_2⟩:S27),(⟨0,0,0⟩:S27),(⟨0,0,0⟩:S27),1⟩:S31)]):=⟨_,rfl⟩
               replace H:((some (l0.drop (x9_3:Int).toNat:List (S31))).bind fun y51=>(if y48.length+y51.length<1256584717458 then (some ((y48++y51),0)) else (none)))=some (r1,r2):=by first|(rw [hy48];with_reducible exact H)|(have H2_:=(Option.bind_some _ _).symm.trans H;rw [hy48];with_reducible exact H2_)|(have H2_:=(Option.bind_some _ _).symm.trans H;with_reducible exact H2_)|with_reducible exact H|(rw [hy48];exact H)|exact H
               have Ny48:=Aside0.mk hy48
               clear hy48
               have c65b0:=eq_true (of_decide_eq_true zq_:0≤x9_3)
               have c66b0:=eq_true (of_decide_eq_true zq_:x9_3≤(l0.length:Int))
               obtain ⟨y51,hy51⟩: ∃y_:List (S31),y_=(l0.drop (x9_3:Int).toNat):=⟨_,rfl⟩
               replace H:(if y48.length+y51.length<1256584717458 then (some ((y48++y51),0)) else (none))=some (r1,r2):=by first|(rw [hy51];with_reducible exact H)|(have H2_:=(Option.bind_some _ _).symm.trans H;rw [hy51];with_reducible exact H2_)|(have H2_:=(Option.bind_some _ _).symm.trans H;with_reducible exact H2_)|with_reducible exact H|(rw [hy51];exact H)|exact H
               have Ny51:=Aside0.mk hy51
               clear hy51
               by_cases c67:y48.length+y51.length<1256584717458
               ·rw [if_pos c67] at H
                have LMc67:=Aside0.mk c67
                clear c67
                obtain ⟨y55,hy55⟩: ∃y_:List (S31),y_=(y48++y51):=⟨_,rfl⟩
                replace H:(some (y55,0))=some (r1,r2):=by first|(rw [hy55];with_reducible exact H)|(have H2_:=(Option.bind_some _ _).symm.trans H;rw [hy55];with_reducible exact H2_)|(have H2_:=(Option.bind_some _ _).symm.trans H;with_reducible exact H2_)|with_reducible exact H|(rw [hy55];exact H)|exact H
                have Ny55:=Aside0.mk hy55
                clear hy55
                simp only [Option.some.injEq,Prod.mk.injEq] at H
                obtain ⟨rfl,rfl⟩:=H
                have q68:(x9_3:Int)≤((l0.length:Int):Int):=of_decide_eq_true zq_
                obtain ⟨i068,hi068,_,hsz68,_⟩:=info_parts info31
                have hroom68:l0.length≤c0:=HC0.out
                have hC68:Kd.C k31 _ A0 l0.length l0:=HR0.out
                have hcut68:=cut_to (P:=Try.prog) 24 31 .i64 Try.underlying24 hi068 A0 l0.length c0 x9_3 (of_decide_eq_true zq_) q68 hroom68
                have hr68:=Kd.C_take (m:=(x9_3:Int).toNat) hC68 (by omega)
                have hy68:y41.length=(x9_3:Int).toNat:=(by rw [Ny41.out,List.length_take];omega)
                rw [←Ny41.out] at hr68
                rw [←hy68] at hcut68
                have HR44:=Aside0.mk hr68
                have HC44:=am_ (show y41.length≤c0 from by omega)
                clear hr68 hC68 hroom68 hi068 hsz68
                have KY68:=Aside0.mk hy68
                clear hy68
                replace q68:=eq_true q68
                go_wp2_with (first|((with_reducible refine gate_callee (f:=124) rfl ?_);refine goesL_ (some 60) rfl rfl Try.func124 (by kernel_rfl) rfl #[.slice A0 y41.length c0] rfl zs_ ?_;(with_reducible refine (r10_copied.calls _ _ y41 t45 _ ?side1 ?side2 A63.out).mono ?_);(case side1=>exact zc_ (Kd.C_below HR44.out HB.out));(case side2=>exact HC44.out);rintro e w69 ⟨v46,rfl,ho0,hb⟩;refine ⟨_,rfl, ?_⟩;have n0_:=am_ (Kd.R_lower ho0 (below_size (zl2_ HB GE1 GE2)));have n1_:=am_ (blk_below (zb_ BK1) hb);have n2_:=am_ (blk_below (zb_ BK2) hb);have n3_:=am_ (below_step (zl2_ HB GE1 GE2) hb);clear BK1;clear BK2;clear HB;have HO47:=n0_;have BK1:=n1_;have BK2:=n2_;have HB:=n3_;clear n0_ n1_ n2_ n3_;(try clear hb);(try clear hb2);(try clear hk);(try clear hi);(try clear ho0);have hnb70:=NB1_2.out;have hnc70:=NB2_1.out;have hcz71_0:w69.cell? ⟨gb1,0,none⟩=some (.int .i64 a3_0):=(blk_cell BK1.out 0).trans rfl;have hcz71_1:w69.cell? ⟨gb1,1,none⟩=some (.int .i64 a3_1):=(blk_cell BK1.out 1).trans rfl;have hcz71_2:w69.cell? ⟨gb1,2,none⟩=some (.int .i64 a3_2):=(blk_cell BK1.out 2).trans rfl;have hfz71_0:=blk_frozen BK1.out 0;have hfz71_1:=blk_frozen BK1.out 1;have hfz71_2:=blk_frozen BK1.out 2)|((with_reducible refine gate_builtin (b:= .append) (xs:=#[.tmp 61, .tmp 66]) rfl ?_);at_builtin;refine Kd.R_append k31 (w0:=w) w.heap.size rfl (.tmp 61) (.tmp 66) 24 31 (.agg #[(.string ⟨#[]⟩),(.string ⟨#[]⟩),(.int .i64 0),(.int .i64 0),(.int .i64 0),(.int .i64 0),(.int .i64 0),(.int .i64 0),(.int .i64 0),(.int .i64 0),(.int .i64 0),(.int .i64 0)]) 112 rfl Try.underlying24 info31 rfl (by decide) (by omega) v46 t45 (⟨a1,a2,(⟨a3_0,a3_1,a3_2⟩:S27),(⟨0,0,0⟩:S27),(⟨0,0,0⟩:S27),1⟩:S31) [.string a1, .string a2, .int .i64 a3_0, .int .i64 a3_1, .int .i64 a3_2, .int .i64 0, .int .i64 0, .int .i64 0, .int .i64 0, .int .i64 0, .int .i64 0, .int .i64 1] (fun _=>True) (fun _=>False) rfl rfl ?aP (fun _ hk=>hk.elim) ?aF ?aO ?aB ?aS ?aL ?_;(case aP=>exact k31_mkM _ _ _ (⟨a1,a2,(⟨a3_0,a3_1,a3_2⟩:S27),(⟨0,0,0⟩:S27),(⟨0,0,0⟩:S27),1⟩:S31));(case aB=>exact (zl2_ HB GE1 GE2));(case aF=>exact (fun _ _=>trivial));(case aO=>exact (zr_ HO47));(case aS=>exact (below_size (zl2_ HB GE1 GE2)));(case aL=>have:=LMc64.out;omega);intro v49 w72 ho hb hg hat;rw [←Ny48.out] at ho;have n0_:=am_ (blk_grown (zb_ BK1) hg (Kd.R_ne HO47.out BK1.out (by decide)));have n1_:=am_ (blk_grown (zb_ BK2) hg (Kd.R_ne HO47.out BK2.out (by decide)));have n2_:=am_ (hb);have n3_:=am_ (ho);clear BK1;clear BK2;clear HB;clear HO47;have BK1:=n0_;have BK2:=n1_;have HB:=n2_;have HO50:=n3_;clear n0_ n1_ n2_ n3_;clear ho hb hg hat;have q73:(x9_3:Int)≤((l0.length:Int):Int):=of_decide_eq_true zq_;obtain ⟨i073,hi073,_,hsz73,_⟩:=info_parts info31;have hroom73:l0.length≤c0:=HC0.out;have hC73:Kd.C k31 _ A0 l0.length l0:=HR0.out;have q073:(0:Int)≤(x9_3:Int):=of_decide_eq_true zq_;have hcut73:=cut_from (P:=Try.prog) 24 31 .i64 Try.underlying24 hi073 12 hsz73 A0 l0.length c0 x9_3 q073 q73;have hr73:=Kd.C_drop (m:=(x9_3:Int).toNat) (c:=c0) hC73 (by omega) hroom73;obtain ⟨A73,hA73⟩: ∃A1,A1=(if c0=(x9_3:Int).toNat then A0 else (A0:Option Addr).map (·.add ((x9_3:Int).toNat*12))):=⟨_,rfl⟩;obtain ⟨c73,hc73⟩: ∃c1,c1=c0 - (x9_3:Int).toNat:=⟨_,rfl⟩;have hy73:y51.length=l0.length - (x9_3:Int).toNat:=(by rw [Ny51.out,List.length_drop]<;>omega);rw [show (l0).drop (x9_3:Int).toNat=y51 from Ny51.out.symm] at hr73;replace hr73:Kd.C k31 _ A73 y51.length y51:=(by rw [hA73];exact hr73);rw [←hy73,←hA73,←hc73] at hcut73;have HR54:=Aside0.mk hr73;have HC54:=am_ (show y51.length≤c73 from by rw [hy73,hc73];exact Nat.sub_le_sub_right hroom73 _);clear hr73 hC73 hroom73 hi073 hsz73 hc73;have KY73:=Aside0.mk hy73;have KA73:=Aside0.mk hA73;clear hy73 hA73;replace q73:=eq_true q73)|((with_reducible refine gate_builtin (b:= .append) (xs:=#[.tmp 68, .tmp 71]) rfl ?_);at_builtin;refine Kd.R_append_rows k31 (w0:=w) w.heap.size rfl (.tmp 68) (.tmp 71) 24 31 (.agg #[(.string ⟨#[]⟩),(.string ⟨#[]⟩),(.int .i64 0),(.int .i64 0),(.int .i64 0),(.int .i64 0),(.int .i64 0),(.int .i64 0),(.int .i64 0),(.int .i64 0),(.int .i64 0),(.int .i64 0)]) 112 rfl Try.underlying24 info31 rfl (by decide) (by omega) v49 y48 y51 _ _ _ (fun _=>True) (fun _=>False) rfl rfl ?aO ?aR (fun _ _ h=>h) (fun _ h=>h.elim) ?aF ?aB ?aS ?aL ?_;(case aR=>repeat (first|exact (Kd.C_below HR54.out HB.out)|(with_reducible refine Kd.C_alloc ?_ _)|(with_reducible refine Kd.C_drewN ?_ _)|(with_reducible refine Kd.C_drew ?_)));(case aB=>exact (zl2_ HB GE1 GE2));(case aF=>exact (fun _ _=>trivial));(case aO=>exact (zr_ HO50));(case aS=>exact (below_size (zl2_ HB GE1 GE2)));(case aL=>have:=LMc67.out;omega);intro v56 w74 ho hb hg hat;rw [←Ny55.out] at ho;have n0_:=am_ (blk_grown (zb_ BK1) hg (Kd.R_ne HO50.out BK1.out (by decide)));have n1_:=am_ (blk_grown (zb_ BK2) hg (Kd.R_ne HO50.out BK2.out (by decide)));have n2_:=am_ (hb);have n3_:=am_ (ho);clear BK1;clear BK2;clear HB;clear HO50;have BK1:=n0_;have BK2:=n1_;have HB:=n2_;have HO57:=n3_;clear n0_ n1_ n2_ n3_;clear ho hb hg hat;obtain ⟨Ao75,co75,eo75⟩:=Kd.R_slice HO57.out;subst eo75;have hcz76_0:w74.cell? ⟨gb2,0,none⟩=some (.slice none 0 0):=(blk_cell BK2.out 0).trans rfl;have hcz76_1:w74.cell? ⟨gb2,1,none⟩=some (.int .i64 0):=(blk_cell BK2.out 1).trans rfl;have hfz76_0:=blk_frozen BK2.out 0;have hfz76_1:=blk_frozen BK2.out 1))
                refine bodyPost_ret (results_cell_row rfl _ _ gb2 67 #[.slice Ao75 y55.length co75, .int .i64 0] (0,0) _ rfl (by refine zk_ ?_;refine blk_put (cs:=#[.slice Ao75 y55.length co75, .int .i64 0]) ?_ 1 _ rfl;refine zk_ ?_;refine blk_put (cs:=#[.slice none 0 0, .int .i64 0]) ?_ 0 _ rfl;refine zk_ ?_;exact BK2.out) Try.underlying67 rfl (by kernel_rfl)) rfl ?_
                exact ⟨_,by first|rfl|(simp [errW_none,errW_some]<;>rfl)|(simp [*,errW_none,errW_some]<;>rfl),by (with_reducible repeat (first|apply Kd.R_alloc|apply Kd.R_drewN|apply Kd.R_drew));exact Kd.R_mono (Kd.R_far (p:=⟨gb2,1,none⟩) (Kd.R_far (p:=⟨gb2,0,none⟩) (Kd.R_types HO57.out BK2.out (by decide)) (fun _ hk=>hk.2) (.slice Ao75 y55.length co75)) (fun _ hk=>hk.2) (.int .i64 0)) (fun _ hk=>trivial),zl2_ HB GE1 GE2⟩
               ·rw [if_neg c67] at H
                exact absurd H (by simp)
              ·rw [if_neg c64] at H
               exact absurd H (by simp)
             ·rw [if_neg c62] at H
              exact absurd H (by simp)
            ·rw [if_neg c61] at H
             exact absurd H (by simp)

end Go.Proofs.Ytcgefpklljclgaa.Print

namespace Go.Proofs.Ytcgefpklljclgaa.Print
open Go.RowKit Go.Proofs.YtcgefpklljclgaaW.PrintWords Go.Proofs.YtcgefpklljclgaaW.PrintLast Go.Proofs.YtcgefpklljclgaaW.PrintMore
attribute [local go_sem] max2_int min2_int max_two min_two max_three min_three max_four min_four   -- for this text's walks alone
set_option linter.unusedVariables false
set_option linter.unusedSimpArgs false

/-! ### r10_old: function 147 -/
def r10_old.f (k:Nat) (l0:List (S31)) (a1:ByteArray) (a2:Int):Option (Int):=(r10_Find.f k l0 a1).bind fun t1=>(if t1<0 then (some 2) else (if a2≥0 then (if 0≤t1 then (if t1<(l0.length:Int) then (if ((rd_T31 l0 t1).f5)=a2 then (some 0) else (some 14)) else (none)) else (none)) else (some 0)))
theorem r10_old.mono: ∀a0 a1 a2 k,LeO (r10_old.f k a0 a1 a2) (r10_old.f (k+1) a0 a1 a2):=by
 intro a0 a1 a2 k
 unfold r10_old.f
 repeat' first
  |(with_reducible exact r10_Find.mono _ _ _)
  |(with_reducible exact LeO.refl _)
  |(with_reducible exact LeO.none _)
  |(with_reducible refine LeO.ite ?_ ?_)
  |(with_reducible refine LeO.bind ?_ (fun _=> ?_))
  |exact r10_Find.mono _ _ _
  |exact LeO.none _
  |refine LeO.ite ?_ ?_
  |refine LeO.bind ?_ (fun _=> ?_)
set_option maxHeartbeats 8000000 in
set_option maxRecDepth 100000 in
theorem r10_old.calls (k:Nat) (A0:Option Addr) (c0:Nat) (l0:List (S31)) (a1:ByteArray) (a2:Int) (r:Int) (w:World) (hr0:Kd.C k31 w A0 l0.length l0) (hc0:l0.length≤c0) (h:r10_old.f k l0 a1 a2=some r):
  Calls Try.prog 147 #[.slice A0 l0.length c0, .string a1, .int .i64 a2] w fun e w'=>e= .returned (.int .i64 r)∧Drawn0 w w':=by
 have HR0:=Aside0.mk hr0
 have HC0:=Aside0.mk hc0
 clear hr0 hc0
 have H:((r10_Find.f k l0 a1).bind fun t1=>(if t1<0 then (some 2) else (if a2≥0 then (if 0≤t1 then (if t1<(l0.length:Int) then (if ((rd_T31 l0 t1).f5)=a2 then (some 0) else (some 14)) else (none)) else (none)) else (some 0))))=some r:=h
 clear h
 replace H:=Option.bind_eq_some_iff.mp H
 obtain ⟨t1,A40,H⟩:=H
 replace H:(if t1<0 then (some 2) else (if a2≥0 then (if 0≤t1 then (if t1<(l0.length:Int) then (if ((rd_T31 l0 t1).f5)=a2 then (some 0) else (some 14)) else (none)) else (none)) else (some 0)))=some r:=H
 have A4:=Aside0.mk A40
 clear A40
 by_cases c5:t1<0
 ·rw [if_pos c5] at H
  have c5b0:decide (t1<0)=true:=decide_eq_true c5
  clear c5
  obtain rfl:=Option.some.inj H
  go_enter Try.func147,Try.ntmps147
  go_wp2_with (first|((with_reducible refine gate_callee (f:=50) rfl ?_);refine goesL_ (some 10) rfl rfl Try.func50 (by kernel_rfl) rfl #[.slice A0 l0.length c0, .string a1] rfl zs_ ?_;(with_reducible refine (r10_Find.calls k _ _ l0 a1 t1 _ ?side1 ?side2 A4.out).mono ?_);(case side1=>repeat (first|exact HR0.out|(with_reducible refine Kd.C_alloc ?_ _)|(with_reducible refine Kd.C_drewN ?_ _)|(with_reducible refine Kd.C_drew ?_)));(case side2=>exact HC0.out);rintro e w' ⟨rfl,⟨nd,rfl⟩⟩;refine ⟨_,rfl, ?_⟩))
  go_ret
  exact ⟨by first|rfl|(simp;done)|(simp [*];done),by repeat (first|exact Drawn0.refl _|apply Drawn0.step)⟩
 ·rw [if_neg c5] at H
  have c5b0:decide (t1<0)=false:=decide_eq_false c5
  clear c5
  by_cases c6:a2≥0
  ·rw [if_pos c6] at H
   have c6b0:decide (0≤a2)=true:=decide_eq_true c6
   clear c6
   by_cases c7:0≤t1
   ·rw [if_pos c7] at H
    have c7b0:decide (0≤t1)=true:=decide_eq_true c7
    clear c7
    by_cases c8:t1<(l0.length:Int)
    ·rw [if_pos c8] at H
     have c8b0:decide (t1<(l0.length:Int))=true:=decide_eq_true c8
     clear c8
     by_cases c9:((rd_T31 l0 t1).f5)=a2
     ·rw [if_pos c9] at H
      have c9b0:(((rd_T31 l0 t1).f5)==a2)=true:=beq_iff_eq.mpr c9
      have c9b1:(((rd_T31 l0 t1).f5) !=a2)=false:=bne_eq_false_iff_eq.mpr c9
      clear c9
      obtain rfl:=Option.some.inj H
      go_enter Try.func147,Try.ntmps147
      go_wp2_with (first|((with_reducible refine gate_callee (f:=50) rfl ?_);refine goesL_ (some 10) rfl rfl Try.func50 (by kernel_rfl) rfl #[.slice A0 l0.length c0, .string a1] rfl zs_ ?_;(with_reducible refine (r10_Find.calls k _ _ l0 a1 t1 _ ?side1 ?side2 A4.out).mono ?_);(case side1=>repeat (first|exact HR0.out|(with_reducible refine Kd.C_alloc ?_ _)|(with_reducible refine Kd.C_drewN ?_ _)|(with_reducible refine Kd.C_drew ?_)));(case side2=>exact HC0.out);rintro e w' ⟨rfl,⟨nd,rfl⟩⟩;refine ⟨_,rfl, ?_⟩;have p2:0≤(t1:Int):=of_decide_eq_true zq_;have q2:t1<(l0.length:Int):=of_decide_eq_true zq_;obtain ⟨ad2,e2,hx2_0,hx2_1,hx2_2,hx2_3,hx2_4,hx2_5,hx2_6,hx2_7,hx2_8,hx2_9,hx2_10,hx2_11⟩:=at_T31 HR0.out t1 p2 q2;cases e2;replace p2:=eq_true p2;replace q2:=eq_true q2))
      go_ret
      exact ⟨by first|rfl|(simp;done)|(simp [*];done),by repeat (first|exact Drawn0.refl _|apply Drawn0.step)⟩
     ·rw [if_neg c9] at H
      have c9b0:(((rd_T31 l0 t1).f5)==a2)=false:=beq_eq_false_iff_ne.mpr c9
      have c9b1:(((rd_T31 l0 t1).f5) !=a2)=true:=bne_iff_ne.mpr c9
      obtain rfl:=Option.some.inj H
      go_enter Try.func147,Try.ntmps147
      go_wp2_with (first|((with_reducible refine gate_callee (f:=50) rfl ?_);refine goesL_ (some 10) rfl rfl Try.func50 (by kernel_rfl) rfl #[.slice A0 l0.length c0, .string a1] rfl zs_ ?_;(with_reducible refine (r10_Find.calls k _ _ l0 a1 t1 _ ?side1 ?side2 A4.out).mono ?_);(case side1=>repeat (first|exact HR0.out|(with_reducible refine Kd.C_alloc ?_ _)|(with_reducible refine Kd.C_drewN ?_ _)|(with_reducible refine Kd.C_drew ?_)));(case side2=>exact HC0.out);rintro e w' ⟨rfl,⟨nd,rfl⟩⟩;refine ⟨_,rfl, ?_⟩;have p2:0≤(t1:Int):=of_decide_eq_true zq_;have q2:t1<(l0.length:Int):=of_decide_eq_true zq_;obtain ⟨ad2,e2,hx2_0,hx2_1,hx2_2,hx2_3,hx2_4,hx2_5,hx2_6,hx2_7,hx2_8,hx2_9,hx2_10,hx2_11⟩:=at_T31 HR0.out t1 p2 q2;cases e2;replace p2:=eq_true p2;replace q2:=eq_true q2))
      go_ret
      exact ⟨by first|rfl|(simp;done)|(simp [*];done),by repeat (first|exact Drawn0.refl _|apply Drawn0.step)⟩
    ·rw [if_neg c8] at H
     exact absurd H (by simp)
   ·rw [if_neg c7] at H
    exact absurd H (by simp)
  ·rw [if_neg c6] at H
   have c6b0:decide (0≤a2)=false:=decide_eq_false c6
   clear c6
   obtain rfl:=Option.some.inj H
   go_enter Try.func147,Try.ntmps147
   go_wp2_with (first|((with_reducible refine gate_callee (f:=50) rfl ?_);refine goesL_ (some 10) rfl rfl Try.func50 (by kernel_rfl) rfl #[.slice A0 l0.length c0, .string a1] rfl zs_ ?_;(with_reducible refine (r10_Find.calls k _ _ l0 a1 t1 _ ?side1 ?side2 A4.out).mono ?_);(case side1=>repeat (first|exact HR0.out|(with_reducible refine Kd.C_alloc ?_ _)|(with_reducible refine Kd.C_drewN ?_ _)|(with_reducible refine Kd.C_drew ?_)));(case side2=>exact HC0.out);rintro e w' ⟨rfl,⟨nd,rfl⟩⟩;refine ⟨_,rfl, ?_⟩))
   go_ret
   exact ⟨by first|rfl|(simp;done)|(simp [*];done),by repeat (first|exact Drawn0.refl _|apply Drawn0.step)⟩

end Go.Proofs.Ytcgefpklljclgaa.Print

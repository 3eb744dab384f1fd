/- TrialMade: a part -/
import Derived.Test.YtcgefpklljclgaaProg
import Derived.Below
import Derived.Deep.Draws
import Derived.Deep.AppendLies
import Derived.Maps.AppendAt
import Derived.OwnWalk
import Derived.Laws.BytesArg
import Derived.Laws.MakeOwn
import Derived.Laws.OwnMore
import Derived.Deep.OwnRows
import Derived.Tactics
import Derived.Lib.ConvBytes
import Derived.Laws.Slices
import Derived.WalkKit
import Derived.KernelRfl
import Derived.RowKit3
import Derived.Deep.LoopGhost
import Derived.Deep.QuietTactic
import Derived.BigQuiet
import Derived.WideLaws
import Derived.Deep.DeepCutAuto
import Derived.Deep.CutBlock
import Derived.Deep.RegionHeld3
import Derived.Laws.Rows
import Derived.Lib.AppendStr
import Derived.ArgAppend
import Derived.Laws.IdiomCopy
import Derived.OrdersHeld
import Derived.Laws.BitsLemmas
import Derived.RowKit
import Derived.WalkSpells
import Derived.Shelf.Abstract
import Derived.StillTailTactics
import Derived.Test.YtcgefpklljclgaaBTrialMade0
namespace Go.Proofs.Ytcgefpklljclgaa.Print
open Go.RowKit Go.Proofs.YtcgefpklljclgaaW.PrintWords Go.Proofs.YtcgefpklljclgaaW.PrintLast Go.Proofs.YtcgefpklljclgaaW.PrintMore
attribute [local go_sem] max2_int min2_int max_two min_two max_three min_three max_four min_four
set_option linter.unusedVariables false
set_option linter.unusedSimpArgs false



def errW:Option Int→Value
 |none=> .nilIface
 |some c=> .iface 0 (.int .i64 c)
theorem errW_none:errW none= .nilIface:=rfl
theorem errW_some (c:Int):errW (some c)= .iface 0 (.int .i64 c):=rfl

theorem info9:(Try.prog.info? 9).map (fun i=>(i.zero,i.size,i.bytes))=some (some (.string ⟨#[]⟩),1,16):=by kernel_rfl
theorem info31:(Try.prog.info? 31).map (fun i=>(i.zero,i.size,i.bytes))=some (some (.agg #[(.string ⟨#[]⟩),(.string ⟨#[]⟩),(.int .i64 0),(.int .i64 0),(.int .i64 0),(.int .i64 0),(.int .i64 0),(.int .i64 0),(.int .i64 0),(.int .i64 0),(.int .i64 0),(.int .i64 0)]),12,112):=by kernel_rfl
theorem info58:(Try.prog.info? 58).map (fun i=>(i.zero,i.size,i.bytes))=some (some (.agg #[(.int .i64 0),(.string ⟨#[]⟩),(.string ⟨#[]⟩),(.int .i64 0),(.int .i64 0),(.int .i64 0)]),6,64):=by kernel_rfl
-- the values' own types
structure S27 where
 f0:Int
 f1:Int
 f2:Int
def z27:S27:=⟨(0:Int),(0:Int),(0:Int)⟩
def k27:Kd S27:=Kd.iso (Kd.pair (Kd.int .i64) (Kd.pair (Kd.int .i64) (Kd.int .i64))) (fun x:S27=>(x.f0,x.f1,x.f2))
theorem k27_open {w:World} {x:S27} {cs:List Value} (h:k27.K w x cs):cs=[.int .i64 x.f0, .int .i64 x.f1, .int .i64 x.f2]:=by
 obtain ⟨_,_,rfl,rfl,⟨_,_,rfl,rfl,rfl⟩⟩:=h
 exact rfl
theorem k27_openM {w:World} {base:Nat} {ok:Nat→Prop} {x:S27} {cs:List Value} (h:k27.M w base ok x cs):cs=[.int .i64 x.f0, .int .i64 x.f1, .int .i64 x.f2]:=by
 obtain ⟨_,_,rfl,rfl,⟨_,_,rfl,rfl,rfl⟩⟩:=h
 exact rfl
theorem k27_mk (w:World) (x:S27):k27.K w x [.int .i64 x.f0, .int .i64 x.f1, .int .i64 x.f2]:=⟨[.int .i64 x.f0],[.int .i64 x.f1, .int .i64 x.f2],rfl,rfl,⟨[.int .i64 x.f1],[.int .i64 x.f2],rfl,rfl,rfl⟩⟩
theorem k27_mkM (w:World) (base:Nat) (ok:Nat→Prop) (x:S27):k27.M w base ok x [.int .i64 x.f0, .int .i64 x.f1, .int .i64 x.f2]:=⟨[.int .i64 x.f0],[.int .i64 x.f1, .int .i64 x.f2],rfl,rfl,⟨[.int .i64 x.f1],[.int .i64 x.f2],rfl,rfl,rfl⟩⟩
def rd_T27 (xs:List S27) (i:Int):S27:=xs.getD i.toNat z27
theorem at_T27 {w:World} {A:Option Addr} {n:Nat} {xs:List S27} (h:Kd.C k27 w A n xs) (i:Int) (h0:0≤i) (h1:i<n): ∃ad,A=some ad∧w.cell? (ad.add (i.toNat*3))=some (.int .i64 (rd_T27 xs i).f0)∧w.cell? ⟨(ad.add (i.toNat*3)).block,(ad.add (i.toNat*3)).off+1,none⟩=some (.int .i64 (rd_T27 xs i).f1)∧w.cell? ⟨(ad.add (i.toNat*3)).block,(ad.add (i.toNat*3)).off+2,none⟩=some (.int .i64 (rd_T27 xs i).f2):=by
 obtain ⟨ad,c,e,_,hK,hc0⟩:=Kd.C_get h z27 i h0 h1
 have hc: ∀j u,c[j]?=some u→w.cell? (ad.add (i.toNat*3+j))=some u:=hc0
 obtain rfl:=k27_open hK
 exact ⟨ad,e,hc 0 _ rfl,by rw [←add_field _ _ 1 (by omega)];exact hc 1 _ rfl,by rw [←add_field _ _ 2 (by omega)];exact hc 2 _ rfl⟩

structure S31 where
 f0:ByteArray
 f1:ByteArray
 f2:S27
 f3:S27
 f4:S27
 f5:Int
def z31:S31:=⟨(⟨#[]⟩:ByteArray),(⟨#[]⟩:ByteArray),z27,z27,z27,(0:Int)⟩
def k31:Kd S31:=Kd.iso (Kd.pair Kd.string (Kd.pair Kd.string (Kd.pair k27 (Kd.pair k27 (Kd.pair k27 (Kd.int .i64)))))) (fun x:S31=>(x.f0,x.f1,x.f2,x.f3,x.f4,x.f5))
theorem k31_open {w:World} {x:S31} {cs:List Value} (h:k31.K w x cs):cs=[.string x.f0, .string x.f1, .int .i64 x.f2.f0, .int .i64 x.f2.f1, .int .i64 x.f2.f2, .int .i64 x.f3.f0, .int .i64 x.f3.f1, .int .i64 x.f3.f2, .int .i64 x.f4.f0, .int .i64 x.f4.f1, .int .i64 x.f4.f2, .int .i64 x.f5]:=by
 obtain ⟨_,_,rfl,rfl,⟨_,_,rfl,rfl,⟨_,_,rfl,s2,⟨_,_,rfl,s5,⟨_,_,rfl,s8,rfl⟩⟩⟩⟩⟩:=h
 obtain rfl:=k27_open s2
 obtain rfl:=k27_open s5
 obtain rfl:=k27_open s8
 exact rfl
theorem k31_openM {w:World} {base:Nat} {ok:Nat→Prop} {x:S31} {cs:List Value} (h:k31.M w base ok x cs):cs=[.string x.f0, .string x.f1, .int .i64 x.f2.f0, .int .i64 x.f2.f1, .int .i64 x.f2.f2, .int .i64 x.f3.f0, .int .i64 x.f3.f1, .int .i64 x.f3.f2, .int .i64 x.f4.f0, .int .i64 x.f4.f1, .int .i64 x.f4.f2, .int .i64 x.f5]:=by
 obtain ⟨_,_,rfl,rfl,⟨_,_,rfl,rfl,⟨_,_,rfl,s2,⟨_,_,rfl,s5,⟨_,_,rfl,s8,rfl⟩⟩⟩⟩⟩:=h
 obtain rfl:=k27_openM s2
 obtain rfl:=k27_openM s5
 obtain rfl:=k27_openM s8
 exact rfl
theorem k31_mkM (w:World) (base:Nat) (ok:Nat→Prop) (x:S31):k31.M w base ok x [.string x.f0, .string x.f1, .int .i64 x.f2.f0, .int .i64 x.f2.f1, .int .i64 x.f2.f2, .int .i64 x.f3.f0, .int .i64 x.f3.f1, .int .i64 x.f3.f2, .int .i64 x.f4.f0, .int .i64 x.f4.f1, .int .i64 x.f4.f2, .int .i64 x.f5]:=⟨[.string x.f0],[.string x.f1, .int .i64 x.f2.f0, .int .i64 x.f2.f1, .int .i64 x.f2.f2, .int .i64 x.f3.f0, .int .i64 x.f3.f1, .int .i64 x.f3.f2, .int .i64 x.f4.f0, .int .i64 x.f4.f1, .int .i64 x.f4.f2, .int .i64 x.f5],rfl,rfl,⟨[.string x.f1],[.int .i64 x.f2.f0, .int .i64 x.f2.f1, .int .i64 x.f2.f2, .int .i64 x.f3.f0, .int .i64 x.f3.f1, .int .i64 x.f3.f2, .int .i64 x.f4.f0, .int .i64 x.f4.f1, .int .i64 x.f4.f2, .int .i64 x.f5],rfl,rfl,⟨[.int .i64 x.f2.f0, .int .i64 x.f2.f1, .int .i64 x.f2.f2],[.int .i64 x.f3.f0, .int .i64 x.f3.f1, .int .i64 x.f3.f2, .int .i64 x.f4.f0, .int .i64 x.f4.f1, .int .i64 x.f4.f2, .int .i64 x.f5],rfl,(k27_mkM w base ok x.f2),⟨[.int .i64 x.f3.f0, .int .i64 x.f3.f1, .int .i64 x.f3.f2],[.int .i64 x.f4.f0, .int .i64 x.f4.f1, .int .i64 x.f4.f2, .int .i64 x.f5],rfl,(k27_mkM w base ok x.f3),⟨[.int .i64 x.f4.f0, .int .i64 x.f4.f1, .int .i64 x.f4.f2],[.int .i64 x.f5],rfl,(k27_mkM w base ok x.f4),rfl⟩⟩⟩⟩⟩
def rd_T31 (xs:List S31) (i:Int):S31:=xs.getD i.toNat z31
theorem at_T31 {w:World} {A:Option Addr} {n:Nat} {xs:List S31} (h:Kd.C k31 w A n xs) (i:Int) (h0:0≤i) (h1:i<n): ∃ad,A=some ad∧w.cell? (ad.add (i.toNat*12))=some (.string (rd_T31 xs i).f0)∧w.cell? ⟨(ad.add (i.toNat*12)).block,(ad.add (i.toNat*12)).off+1,none⟩=some (.string (rd_T31 xs i).f1)∧w.cell? ⟨(ad.add (i.toNat*12)).block,(ad.add (i.toNat*12)).off+2,none⟩=some (.int .i64 (rd_T31 xs i).f2.f0)∧w.cell? ⟨(ad.add (i.toNat*12)).block,(ad.add (i.toNat*12)).off+3,none⟩=some (.int .i64 (rd_T31 xs i).f2.f1)∧w.cell? ⟨(ad.add (i.toNat*12)).block,(ad.add (i.toNat*12)).off+4,none⟩=some (.int .i64 (rd_T31 xs i).f2.f2)∧w.cell? ⟨(ad.add (i.toNat*12)).block,(ad.add (i.toNat*12)).off+5,none⟩=some (.int .i64 (rd_T31 xs i).f3.f0)∧w.cell? ⟨(ad.add (i.toNat*12)).block,(ad.add (i.toNat*12)).off+6,none⟩=some (.int .i64 (rd_T31 xs i).f3.f1)∧w.cell? ⟨(ad.add (i.toNat*12)).block,(ad.add (i.toNat*12)).off+7,none⟩=some (.int .i64 (rd_T31 xs i).f3.f2)∧w.cell? ⟨(ad.add (i.toNat*12)).block,(ad.add (i.toNat*12)).off+8,none⟩=some (.int .i64 (rd_T31 xs i).f4.f0)∧w.cell? ⟨(ad.add (i.toNat*12)).block,(ad.add (i.toNat*12)).off+9,none⟩=some (.int .i64 (rd_T31 xs i).f4.f1)∧w.cell? ⟨(ad.add (i.toNat*12)).block,(ad.add (i.toNat*12)).off+10,none⟩=some (.int .i64 (rd_T31 xs i).f4.f2)∧w.cell? ⟨(ad.add (i.toNat*12)).block,(ad.add (i.toNat*12)).off+11,none⟩=some (.int .i64 (rd_T31 xs i).f5):=by
 obtain ⟨ad,c,e,_,hK,hc0⟩:=Kd.C_get h z31 i h0 h1
 have hc: ∀j u,c[j]?=some u→w.cell? (ad.add (i.toNat*12+j))=some u:=hc0
 obtain rfl:=k31_open hK
 exact ⟨ad,e,hc 0 _ rfl,by rw [←add_field _ _ 1 (by omega)];exact hc 1 _ rfl,by rw [←add_field _ _ 2 (by omega)];exact hc 2 _ rfl,by rw [←add_field _ _ 3 (by omega)];exact hc 3 _ rfl,by rw [←add_field _ _ 4 (by omega)];exact hc 4 _ rfl,by rw [←add_field _ _ 5 (by omega)];exact hc 5 _ rfl,by rw [←add_field _ _ 6 (by omega)];exact hc 6 _ rfl,by rw [←add_field _ _ 7 (by omega)];exact hc 7 _ rfl,by rw [←add_field _ _ 8 (by omega)];exact hc 8 _ rfl,by rw [←add_field _ _ 9 (by omega)];exact hc 9 _ rfl,by rw [←add_field _ _ 10 (by omega)];exact hc 10 _ rfl,by rw [←add_field _ _ 11 (by omega)];exact hc 11 _ rfl⟩

structure S37 where
 f0:ByteArray
 f1:Int
structure S54 where
 f0:ByteArray
 f1:ByteArray
 f2:S27
 f3:Int
structure S58 where
 f0:Int
 f1:ByteArray
 f2:ByteArray
 f3:S27
def z58:S58:=⟨(0:Int),(⟨#[]⟩:ByteArray),(⟨#[]⟩:ByteArray),z27⟩
def k58:Kd S58:=Kd.iso (Kd.pair (Kd.int .i64) (Kd.pair Kd.string (Kd.pair Kd.string k27))) (fun x:S58=>(x.f0,x.f1,x.f2,x.f3))
theorem k58_open {w:World} {x:S58} {cs:List Value} (h:k58.K w x cs):cs=[.int .i64 x.f0, .string x.f1, .string x.f2, .int .i64 x.f3.f0, .int .i64 x.f3.f1, .int .i64 x.f3.f2]:=by
 obtain ⟨_,_,rfl,rfl,⟨_,_,rfl,rfl,⟨_,_,rfl,rfl,s3⟩⟩⟩:=h
 obtain rfl:=k27_open s3
 exact rfl
theorem k58_mkM (w:World) (base:Nat) (ok:Nat→Prop) (x:S58):k58.M w base ok x [.int .i64 x.f0, .string x.f1, .string x.f2, .int .i64 x.f3.f0, .int .i64 x.f3.f1, .int .i64 x.f3.f2]:=⟨[.int .i64 x.f0],[.string x.f1, .string x.f2, .int .i64 x.f3.f0, .int .i64 x.f3.f1, .int .i64 x.f3.f2],rfl,rfl,⟨[.string x.f1],[.string x.f2, .int .i64 x.f3.f0, .int .i64 x.f3.f1, .int .i64 x.f3.f2],rfl,rfl,⟨[.string x.f2],[.int .i64 x.f3.f0, .int .i64 x.f3.f1, .int .i64 x.f3.f2],rfl,rfl,(k27_mkM w base ok x.f3)⟩⟩⟩
def rd_T58 (xs:List S58) (i:Int):S58:=xs.getD i.toNat z58
theorem at_T58 {w:World} {A:Option Addr} {n:Nat} {xs:List S58} (h:Kd.C k58 w A n xs) (i:Int) (h0:0≤i) (h1:i<n): ∃ad,A=some ad∧w.cell? (ad.add (i.toNat*6))=some (.int .i64 (rd_T58 xs i).f0)∧w.cell? ⟨(ad.add (i.toNat*6)).block,(ad.add (i.toNat*6)).off+1,none⟩=some (.string (rd_T58 xs i).f1)∧w.cell? ⟨(ad.add (i.toNat*6)).block,(ad.add (i.toNat*6)).off+2,none⟩=some (.string (rd_T58 xs i).f2)∧w.cell? ⟨(ad.add (i.toNat*6)).block,(ad.add (i.toNat*6)).off+3,none⟩=some (.int .i64 (rd_T58 xs i).f3.f0)∧w.cell? ⟨(ad.add (i.toNat*6)).block,(ad.add (i.toNat*6)).off+4,none⟩=some (.int .i64 (rd_T58 xs i).f3.f1)∧w.cell? ⟨(ad.add (i.toNat*6)).block,(ad.add (i.toNat*6)).off+5,none⟩=some (.int .i64 (rd_T58 xs i).f3.f2):=by
 obtain ⟨ad,c,e,_,hK,hc0⟩:=Kd.C_get h z58 i h0 h1
 have hc: ∀j u,c[j]?=some u→w.cell? (ad.add (i.toNat*6+j))=some u:=hc0
 obtain rfl:=k58_open hK
 exact ⟨ad,e,hc 0 _ rfl,by rw [←add_field _ _ 1 (by omega)];exact hc 1 _ rfl,by rw [←add_field _ _ 2 (by omega)];exact hc 2 _ rfl,by rw [←add_field _ _ 3 (by omega)];exact hc 3 _ rfl,by rw [←add_field _ _ 4 (by omega)];exact hc 4 _ rfl,by rw [←add_field _ _ 5 (by omega)];exact hc 5 _ rfl⟩

structure S180 where
 f0:ByteArray
 f1:ByteArray
 f2:S27
structure S113 where
 f0:(List S31)
 f1:Int
 f2:Int
theorem eqA27 (d:Nat) (w:World) (x0 y0:Int) (x1 y1:Int) (x2 y2:Int):
  (Op.equalIn (d+2) 27 (.agg #[.int .i64 x0, .int .i64 x1, .int .i64 x2]) (.agg #[.int .i64 y0, .int .i64 y1, .int .i64 y2])).run Try.prog w= .ok (x0==y0 && (x1==y1 && (x2==y2))) w:=by
 refine eqA_of Try.underlying27 (by kernel_rfl) ?_
 refine eqf_cons (by rfl) (by go_simp;rfl) (by go_simp;rfl) (by go_simp) ?_
 refine eqf_cons (by rfl) (by go_simp;rfl) (by go_simp;rfl) (by go_simp) ?_
 exact eqf_last (by rfl) (by go_simp;rfl) (by go_simp;rfl) (by go_simp)
def r10_Le.f (a0_0:Int) (a0_1:Int) (a0_2:Int) (a1_0:Int) (a1_1:Int) (a1_2:Int):Option (Bool):=if a0_0≤a1_0 then (if a0_1≤a1_1 then (some (decide (a0_2≤a1_2))) else (some false)) else (some false)
set_option maxHeartbeats 8000000 in
set_option maxRecDepth 100000 in
theorem r10_Le.calls (a0_0:Int) (a0_1:Int) (a0_2:Int) (a1_0:Int) (a1_1:Int) (a1_2:Int) (r:Bool) (w:World) (h:r10_Le.f a0_0 a0_1 a0_2 a1_0 a1_1 a1_2=some r):
  Calls Try.prog 34 #[.agg #[.int .i64 a0_0, .int .i64 a0_1, .int .i64 a0_2], .agg #[.int .i64 a1_0, .int .i64 a1_1, .int .i64 a1_2]] w fun e w'=>e= .returned (.bool r)∧Below w.heap.size w w':=by
 have hu27:=Try.underlying27
 have HB:=am_ (Below.refl w.heap.size w)
 have H:(if a0_0≤a1_0 then (if a0_1≤a1_1 then (some (decide (a0_2≤a1_2))) else (some false)) else (some false))=some r:=h
 clear h
 by_cases c3:a0_0≤a1_0
 rotate_left
 ·rw [if_neg c3] at H
  have c3b0:decide (a0_0≤a1_0)=false:=decide_eq_false c3
  clear c3
  obtain rfl:=Option.some.inj H
  go_enter Try.func34,Try.ntmps34
  go_wp2_with (first|((with_reducible refine gate_dst (N:=2) rfl ?_);refine bx_ (N:=2) (cs:=#[.int .i64 a0_0, .int .i64 a0_1, .int .i64 a0_2]) (t:=27) ?_;intro gb1 hg w15 hbox hb;have BK1:=am_ (hbox);have GW1:=am_ ((zg0_ HB hg:w.heap.size≤gb1));have GE1:=am_ ((zg0_ HB hg:w.heap.size≤gb1));replace HB:=am_ (below_step (zl0_ HB) hb);clear hb hbox hg)|((with_reducible refine gate_dst (N:=3) rfl ?_);refine bx_ (N:=3) (cs:=#[.int .i64 a1_0, .int .i64 a1_1, .int .i64 a1_2]) (t:=27) ?_;intro gb2 hg w16 hbox hb;have BK2:=am_ (hbox);have GW2:=am_ ((zg1_ HB GE1 hg:w.heap.size≤gb2));have GE2:=am_ ((zg1_ HB GE1 hg:w.heap.size≤gb2));replace HB:=am_ (below_step (zl1_ HB GE1) hb);have NB1_2:=am_ ((zn_ BK1 hg:gb1≠gb2));have NB2_1:=am_ ((zm_ BK1 hg:gb2≠gb1));replace BK1:=am_ (blk_below (zb_ BK1) hb);clear hb hbox hg;have hnb17:=NB1_2.out;have hnc17:=NB2_1.out;obtain ⟨hcz18_0,hcz18_1,hcz18_2,hfz18_0,hfz18_1,hfz18_2⟩:=y3_ BK1;obtain ⟨hcz19_0,hcz19_1,hcz19_2⟩:=x3_ BK2;have hfz19_0:=blk_frozen BK2.out 0;have hfz19_1:=blk_frozen BK2.out 1;have hfz19_2:=blk_frozen BK2.out 2))
  go_ret
  exact ⟨by first|rfl|(simp [errW_none,errW_some]<;>rfl)|(simp [*,errW_none,errW_some]<;>rfl),zl2_ HB GE1 GE2⟩

 rw [if_pos c3] at H
 have c3b0:decide (a0_0≤a1_0)=true:=decide_eq_true c3
 clear c3
 by_cases c4:a0_1≤a1_1
 ·rw [if_pos c4] at H
  have c4b0:decide (a0_1≤a1_1)=true:=decide_eq_true c4
  clear c4
  obtain rfl:=Option.some.inj H
  go_enter Try.func34,Try.ntmps34
  go_wp2_with (first|((with_reducible refine gate_dst (N:=2) rfl ?_);refine bx_ (N:=2) (cs:=#[.int .i64 a0_0, .int .i64 a0_1, .int .i64 a0_2]) (t:=27) ?_;intro gb1 hg w5 hbox hb;have BK1:=am_ (hbox);have GW1:=am_ ((zg0_ HB hg:w.heap.size≤gb1));have GE1:=am_ ((zg0_ HB hg:w.heap.size≤gb1));replace HB:=am_ (below_step (zl0_ HB) hb);clear hb hbox hg)|((with_reducible refine gate_dst (N:=3) rfl ?_);refine bx_ (N:=3) (cs:=#[.int .i64 a1_0, .int .i64 a1_1, .int .i64 a1_2]) (t:=27) ?_;intro gb2 hg w6 hbox hb;have BK2:=am_ (hbox);have GW2:=am_ ((zg1_ HB GE1 hg:w.heap.size≤gb2));have GE2:=am_ ((zg1_ HB GE1 hg:w.heap.size≤gb2));replace HB:=am_ (below_step (zl1_ HB GE1) hb);have NB1_2:=am_ ((zn_ BK1 hg:gb1≠gb2));have NB2_1:=am_ ((zm_ BK1 hg:gb2≠gb1));replace BK1:=am_ (blk_below (zb_ BK1) hb);clear hb hbox hg;have hnb7:=NB1_2.out;have hnc7:=NB2_1.out;obtain ⟨hcz8_0,hcz8_1,hcz8_2,hfz8_0,hfz8_1,hfz8_2⟩:=y3_ BK1;obtain ⟨hcz9_0,hcz9_1,hcz9_2⟩:=x3_ BK2;have hfz9_0:=blk_frozen BK2.out 0;have hfz9_1:=blk_frozen BK2.out 1;have hfz9_2:=blk_frozen BK2.out 2))
  go_ret
  exact ⟨by first|rfl|(simp [errW_none,errW_some]<;>rfl)|(simp [*,errW_none,errW_some]<;>rfl),zl2_ HB GE1 GE2⟩
 rw [if_neg c4] at H
 have c4b0:decide (a0_1≤a1_1)=false:=decide_eq_false c4
 clear c4
 obtain rfl:=Option.some.inj H
 go_enter Try.func34,Try.ntmps34
 go_wp2_with (first|((with_reducible refine gate_dst (N:=2) rfl ?_);refine bx_ (N:=2) (cs:=#[.int .i64 a0_0, .int .i64 a0_1, .int .i64 a0_2]) (t:=27) ?_;intro gb1 hg w10 hbox hb;have BK1:=am_ (hbox);have GW1:=am_ ((zg0_ HB hg:w.heap.size≤gb1));have GE1:=am_ ((zg0_ HB hg:w.heap.size≤gb1));replace HB:=am_ (below_step (zl0_ HB) hb);clear hb hbox hg)|((with_reducible refine gate_dst (N:=3) rfl ?_);refine bx_ (N:=3) (cs:=#[.int .i64 a1_0, .int .i64 a1_1, .int .i64 a1_2]) (t:=27) ?_;intro gb2 hg w11 hbox hb;have BK2:=am_ (hbox);have GW2:=am_ ((zg1_ HB GE1 hg:w.heap.size≤gb2));have GE2:=am_ ((zg1_ HB GE1 hg:w.heap.size≤gb2));replace HB:=am_ (below_step (zl1_ HB GE1) hb);have NB1_2:=am_ ((zn_ BK1 hg:gb1≠gb2));have NB2_1:=am_ ((zm_ BK1 hg:gb2≠gb1));replace BK1:=am_ (blk_below (zb_ BK1) hb);clear hb hbox hg;have hnb12:=NB1_2.out;have hnc12:=NB2_1.out;obtain ⟨hcz13_0,hcz13_1,hcz13_2,hfz13_0,hfz13_1,hfz13_2⟩:=y3_ BK1;obtain ⟨hcz14_0,hcz14_1,hcz14_2⟩:=x3_ BK2;have hfz14_0:=blk_frozen BK2.out 0;have hfz14_1:=blk_frozen BK2.out 1;have hfz14_2:=blk_frozen BK2.out 2))
 go_ret
 exact ⟨by first|rfl|(simp [errW_none,errW_some]<;>rfl)|(simp [*,errW_none,errW_some]<;>rfl),zl2_ HB GE1 GE2⟩
def r10_Find.l0:Nat→List (S31)→ByteArray→Int→Option (Int)
 |0,_,_,_=>none
 |k+1,x0,x1,x5=>if x5<(x0.length:Int) then (if 0≤x5 then (if ((rd_T31 x0 x5).f0).toList=x1.toList then (some x5) else (r10_Find.l0 k x0 x1 (wrap64 (x5+1)))) else (none)) else (some (-1))
def r10_Find.f (k:Nat) (l0:List (S31)) (a1:ByteArray):Option (Int):=r10_Find.l0 k l0 a1 0
theorem r10_Find.mono_l: ∀k,(∀y0 y1 y2,LeO (r10_Find.l0 k y0 y1 y2) (r10_Find.l0 (k+1) y0 y1 y2))
 |0=>fun _ _ _ r h=>by simp [r10_Find.l0] at h
 |k+1=>by
  have ih0:=r10_Find.mono_l k
  intro y0 y1 y2
  unfold r10_Find.l0
  repeat' first
  |(with_reducible exact ih0 _ _ _)
  |(with_reducible exact LeO.refl _)
  |(with_reducible exact LeO.none _)
  |(with_reducible refine LeO.ite ?_ ?_)
  |(with_reducible refine LeO.bind ?_ (fun _=> ?_))
  |exact ih0 _ _ _
  |exact LeO.none _
  |refine LeO.ite ?_ ?_
  |refine LeO.bind ?_ (fun _=> ?_)
theorem r10_Find.mono: ∀a0 a1 k,LeO (r10_Find.f k a0 a1) (r10_Find.f (k+1) a0 a1):=by
 intro a0 a1 k
 have ih0:=r10_Find.mono_l k
 unfold r10_Find.f
 repeat' first
  |(with_reducible exact ih0 _ _ _)
  |(with_reducible exact LeO.refl _)
  |(with_reducible exact LeO.none _)
  |(with_reducible refine LeO.ite ?_ ?_)
  |(with_reducible refine LeO.bind ?_ (fun _=> ?_))
  |exact ih0 _ _ _
  |exact LeO.none _
  |refine LeO.ite ?_ ?_
  |refine LeO.bind ?_ (fun _=> ?_)
set_option maxHeartbeats 8000000 in
set_option maxRecDepth 100000 in
theorem r10_Find.calls (k:Nat) (A0:Option Addr) (c0:Nat) (l0:List (S31)) (a1:ByteArray) (r:Int) (w:World) (hr0:Kd.C k31 w A0 l0.length l0) (hc0:l0.length≤c0) (h:r10_Find.f k l0 a1=some r):
  Calls Try.prog 50 #[.slice A0 l0.length c0, .string a1] w fun e w'=>e= .returned (.int .i64 r)∧Drawn0 w w':=by
 have HR0:=Aside0.mk hr0
 have HC0:=Aside0.mk hc0
 clear hr0 hc0
 have H:(r10_Find.l0 k l0 a1 0)=some r:=h
 clear h
 have H':=Aside0.mk H
 clear H
 go_enter Try.func50,Try.ntmps50
 go_wp2
 go_loopg [5] k (fun kq v5 w'=> ∃(x5_1:Int),v5= .int .i64 x5_1∧Aside0 (r10_Find.l0 kq l0 a1 x5_1=some r)∧Aside0 (kq≤k)∧Drawn0 w w')
 case atStart=>exact ⟨(0),(by first|rfl|(simp;done)|(simp [*];done)),H',⟨Nat.le_refl _⟩,by repeat (first|exact Drawn0.refl _|apply Drawn0.step)⟩
 case round=>
  clear H'
  try clear p2
  obtain ⟨x5_1,rfl,HA,HK1,⟨m1,rfl⟩⟩:=hrel
  cases gk with
  |zero=>exact absurd HA.out (by simp [r10_Find.l0])
  |succ k1=>
   have H:=HA.out
   clear HA
   simp only [r10_Find.l0] at H
   by_cases c3:x5_1<(l0.length:Int)
   rotate_left
   ·rw [if_neg c3] at H
    have c3b0:decide (x5_1<(l0.length:Int))=false:=decide_eq_false c3
    clear c3
    obtain rfl:=Option.some.inj H
    go_wp2
    go_ret
    exact ⟨by first|rfl|(simp;done)|(simp [*];done),by repeat (first|exact Drawn0.refl _|apply Drawn0.step)⟩

   rw [if_pos c3] at H
   have c3b0:decide (x5_1<(l0.length:Int))=true:=decide_eq_true c3
   clear c3
   by_cases c4:0≤x5_1
   rotate_left
   ·rw [if_neg c4] at H
    exact absurd H (by simp)
   rw [if_pos c4] at H
   have c4b0:decide (0≤x5_1)=true:=decide_eq_true c4
   clear c4
   by_cases c5:((rd_T31 l0 x5_1).f0).toList=a1.toList
   ·rw [if_pos c5] at H
    have c5b0:(((rd_T31 l0 x5_1).f0).toList==a1.toList)=true:=beq_iff_eq.mpr c5
    have c5b1:(((rd_T31 l0 x5_1).f0).toList !=a1.toList)=false:=bne_eq_false_iff_eq.mpr c5
    clear c5
    obtain rfl:=Option.some.inj H
    have p1:0≤(x5_1:Int):=of_decide_eq_true zq_
    have q1:x5_1<(l0.length:Int):=of_decide_eq_true zq_
    obtain ⟨ad1,e1,hx1_0,hx1_1,hx1_2,hx1_3,hx1_4,hx1_5,hx1_6,hx1_7,hx1_8,hx1_9,hx1_10,hx1_11⟩:=at_T31 HR0.out x5_1 p1 q1
    cases e1
    replace p1:=eq_true p1
    replace q1:=eq_true q1
    go_wp2
    go_ret
    exact ⟨by first|rfl|(simp;done)|(simp [*];done),by repeat (first|exact Drawn0.refl _|apply Drawn0.step)⟩
   rw [if_neg c5] at H
   have c5b0:(((rd_T31 l0 x5_1).f0).toList==a1.toList)=false:=beq_eq_false_iff_ne.mpr c5
   have c5b1:(((rd_T31 l0 x5_1).f0).toList !=a1.toList)=true:=bne_iff_ne.mpr c5
   have H':=Aside0.mk H
   clear H
   have p1:0≤(x5_1:Int):=of_decide_eq_true zq_
   have q1:x5_1<(l0.length:Int):=of_decide_eq_true zq_
   obtain ⟨ad1,e1,hx1_0,hx1_1,hx1_2,hx1_3,hx1_4,hx1_5,hx1_6,hx1_7,hx1_8,hx1_9,hx1_10,hx1_11⟩:=at_T31 HR0.out x5_1 p1 q1
   cases e1
   replace p1:=eq_true p1
   replace q1:=eq_true q1
   go_wp2
   go_roundg k1
   case measure=>have:=HK1.out;omega
   case rel=>exact ⟨(wrap64 (x5_1+1)),(by first|rfl|(simp;done)|(simp [*];done)),H',⟨by have:=HK1.out;omega⟩,by repeat (first|exact Drawn0.refl _|apply Drawn0.step)⟩
def r10_Add.f (a0_0:Int) (a0_1:Int) (a0_2:Int) (a1_0:Int) (a1_1:Int) (a1_2:Int):Option (Int×Int×Int):=some (wrap64 (a0_0+a1_0),wrap64 (a0_1+a1_1),wrap64 (a0_2+a1_2))
set_option maxHeartbeats 8000000 in
set_option maxRecDepth 100000 in
theorem r10_Add.calls (a0_0:Int) (a0_1:Int) (a0_2:Int) (a1_0:Int) (a1_1:Int) (a1_2:Int) (r1:Int) (r2:Int) (r3:Int) (w:World) (h:r10_Add.f a0_0 a0_1 a0_2 a1_0 a1_1 a1_2=some (r1,r2,r3)):
  Calls Try.prog 63 #[.agg #[.int .i64 a0_0, .int .i64 a0_1, .int .i64 a0_2], .agg #[.int .i64 a1_0, .int .i64 a1_1, .int .i64 a1_2]] w fun e w'=>e= .returned (.agg #[.int .i64 r1, .int .i64 r2, .int .i64 r3])∧Below w.heap.size w w':=by
 have hu27:=Try.underlying27
 have HB:=am_ (Below.refl w.heap.size w)
 have H:(some (wrap64 (a0_0+a1_0),wrap64 (a0_1+a1_1),wrap64 (a0_2+a1_2)))=some (r1,r2,r3):=h
 clear h
 simp only [Option.some.injEq,Prod.mk.injEq] at H
 obtain ⟨rfl,rfl,rfl⟩:=H
 go_enter Try.func63,Try.ntmps63
 go_wp2_with (first|((with_reducible refine gate_dst (N:=2) rfl ?_);refine bx_ (N:=2) (cs:=#[.int .i64 a0_0, .int .i64 a0_1, .int .i64 a0_2]) (t:=27) ?_;intro gb1 hg w3 hbox hb;have BK1:=am_ (hbox);have GW1:=am_ ((zg0_ HB hg:w.heap.size≤gb1));have GE1:=am_ ((zg0_ HB hg:w.heap.size≤gb1));replace HB:=am_ (below_step (zl0_ HB) hb);clear hb hbox hg)|((with_reducible refine gate_dst (N:=3) rfl ?_);refine bx_ (N:=3) (cs:=#[.int .i64 a1_0, .int .i64 a1_1, .int .i64 a1_2]) (t:=27) ?_;intro gb2 hg w4 hbox hb;have BK2:=am_ (hbox);have GW2:=am_ ((zg1_ HB GE1 hg:w.heap.size≤gb2));have GE2:=am_ ((zg1_ HB GE1 hg:w.heap.size≤gb2));replace HB:=am_ (below_step (zl1_ HB GE1) hb);have NB1_2:=am_ ((zn_ BK1 hg:gb1≠gb2));have NB2_1:=am_ ((zm_ BK1 hg:gb2≠gb1));replace BK1:=am_ (blk_below (zb_ BK1) hb);clear hb hbox hg)|((with_reducible refine gate_dst (N:=4) rfl ?_);refine bx_ (N:=4) (cs:=#[.int .i64 0, .int .i64 0, .int .i64 0]) (t:=27) ?_;intro gb3 hg w5 hbox hb;have BK3:=am_ (hbox);have GW3:=am_ ((zg2_ HB GE1 GE2 hg:w.heap.size≤gb3));have GE3:=am_ ((zg2_ HB GE1 GE2 hg:w.heap.size≤gb3));replace HB:=am_ (below_step (zl2_ HB GE1 GE2) hb);have NB1_3:=am_ ((zn_ BK1 hg:gb1≠gb3));have NB3_1:=am_ ((zm_ BK1 hg:gb3≠gb1));replace BK1:=am_ (blk_below (zb_ BK1) hb);have NB2_3:=am_ ((zn_ BK2 hg:gb2≠gb3));have NB3_2:=am_ ((zm_ BK2 hg:gb3≠gb2));replace BK2:=am_ (blk_below (zb_ BK2) hb);clear hb hbox hg;have hnb6:=NB1_2.out;have hnc6:=NB2_1.out;have hnb7:=NB1_3.out;have hnc7:=NB3_1.out;obtain ⟨hcz8_0,hcz8_1,hcz8_2,hfz8_0,hfz8_1,hfz8_2⟩:=y3_ BK1;have hnb9:=NB2_3.out;have hnc9:=NB3_2.out;obtain ⟨hcz10_0,hcz10_1,hcz10_2,hfz10_0,hfz10_1,hfz10_2⟩:=y3_ BK2;obtain ⟨hcz11_0,hcz11_1,hcz11_2⟩:=x3_ BK3;have hfz11_0:=blk_frozen BK3.out 0;have hfz11_1:=blk_frozen BK3.out 1;have hfz11_2:=blk_frozen BK3.out 2))
 refine bodyPost_ret (results_cell_row rfl _ _ gb3 27 #[.int .i64 (wrap64 (a0_0+a1_0)), .int .i64 (wrap64 (a0_1+a1_1)), .int .i64 (wrap64 (a0_2+a1_2))] (0,0) _ rfl (zw_ BK3) Try.underlying27 rfl (by kernel_rfl)) rfl ?_
 exact ⟨by first|rfl|(simp [errW_none,errW_some]<;>rfl)|(simp [*,errW_none,errW_some]<;>rfl),zl3_ HB GE1 GE2 GE3⟩

def r10_unit.f (a0:Int):Option (Bool):=if a0≥0 then (some (decide (a0≤1099511627776))) else (some false)
set_option maxHeartbeats 8000000 in
set_option maxRecDepth 100000 in
theorem r10_unit.calls (a0:Int) (r:Bool) (w:World) (h:r10_unit.f a0=some r):
  Calls Try.prog 123 #[.int .i64 a0] w fun e w'=>e= .returned (.bool r)∧Drawn0 w w':=by
 have H:(if a0≥0 then (some (decide (a0≤1099511627776))) else (some false))=some r:=h
 clear h
 by_cases c2:a0≥0
 ·rw [if_pos c2] at H
  have c2b0:decide (0≤a0)=true:=decide_eq_true c2
  clear c2
  obtain rfl:=Option.some.inj H
  go_enter Try.func123,Try.ntmps123
  go_wp2
  go_ret
  exact ⟨by first|rfl|(simp;done)|(simp [*];done),by repeat (first|exact Drawn0.refl _|apply Drawn0.step)⟩
 rw [if_neg c2] at H
 have c2b0:decide (0≤a0)=false:=decide_eq_false c2
 clear c2
 obtain rfl:=Option.some.inj H
 go_enter Try.func123,Try.ntmps123
 go_wp2
 go_ret
 exact ⟨by first|rfl|(simp;done)|(simp [*];done),by repeat (first|exact Drawn0.refl _|apply Drawn0.step)⟩

def r10_MayVec.f (a0_0:Int) (a0_1:Int) (a0_2:Int):Option (Bool):=(r10_unit.f a0_0).bind fun t2=>(if t2=true then ((r10_unit.f a0_1).bind fun t3=>(if t3=true then ((r10_unit.f a0_2).bind fun t4=>(some t4)) else (some false))) else (some false))
set_option maxHeartbeats 8000000 in
set_option maxRecDepth 100000 in
theorem r10_MayVec.calls (a0_0:Int) (a0_1:Int) (a0_2:Int) (r:Bool) (w:World) (h:r10_MayVec.f a0_0 a0_1 a0_2=some r):
  Calls Try.prog 65 #[.agg #[.int .i64 a0_0, .int .i64 a0_1, .int .i64 a0_2]] w fun e w'=>e= .returned (.bool r)∧Below w.heap.size w w':=by
 have hu27:=Try.underlying27
 have HB:=am_ (Below.refl w.heap.size w)
 have H:((r10_unit.f a0_0).bind fun t2=>(if t2=true then ((r10_unit.f a0_1).bind fun t3=>(if t3=true then ((r10_unit.f a0_2).bind fun t4=>(some t4)) else (some false))) else (some false)))=some r:=h
 clear h
 replace H:=Option.bind_eq_some_iff.mp H
 obtain ⟨t2,A20,H⟩:=H
 try dsimp only at H
 have A2:=Aside0.mk A20
 clear A20
 by_cases c3:t2=true
 rotate_left
 ·replace c3:=Bool.eq_false_iff.mpr c3
  subst c3
  have H1:(some false)=some r:=by rw [if_neg (show¬(false=true) by decide)] at H;exact H
  clear H
  have H:=H1
  clear H1
  obtain rfl:=Option.some.inj H
  go_enter Try.func65,Try.ntmps65
  go_wp2_with (first|((with_reducible refine gate_dst (N:=1) rfl ?_);refine bx_ (N:=1) (cs:=#[.int .i64 a0_0, .int .i64 a0_1, .int .i64 a0_2]) (t:=27) ?_;intro gb1 hg w11 hbox hb;have BK1:=am_ (hbox);have GW1:=am_ ((zg0_ HB hg:w.heap.size≤gb1));have GE1:=am_ ((zg0_ HB hg:w.heap.size≤gb1));replace HB:=am_ (below_step (zl0_ HB) hb);clear hb hbox hg;obtain ⟨hcz12_0,hcz12_1,hcz12_2⟩:=x3_ BK1;have hfz12_0:=blk_frozen BK1.out 0;have hfz12_1:=blk_frozen BK1.out 1;have hfz12_2:=blk_frozen BK1.out 2)|((with_reducible refine gate_callee (f:=123) rfl ?_);refine gl_ (some 5) Try.func123 #[.int .i64 a0_0] ?_;(with_reducible refine (r10_unit.calls a0_0 false _ A2.out).mono ?_);rintro e w' ⟨rfl,⟨nd,rfl⟩⟩;refine ⟨_,rfl, ?_⟩))
  go_ret
  exact ⟨by first|rfl|(simp [errW_none,errW_some]<;>rfl)|(simp [*,errW_none,errW_some]<;>rfl),zl1_ HB GE1⟩

 subst c3
 have H1:((r10_unit.f a0_1).bind fun t3=>(if t3=true then ((r10_unit.f a0_2).bind fun t4=>(some t4)) else (some false)))=some r:=by rw [if_pos rfl] at H;exact H
 clear H
 have H:=H1
 clear H1
 replace H:=Option.bind_eq_some_iff.mp H
 obtain ⟨t3,A40,H⟩:=H
 try dsimp only at H
 have A4:=Aside0.mk A40
 clear A40
 by_cases c5:t3=true
 rotate_left
 ·replace c5:=Bool.eq_false_iff.mpr c5
  subst c5
  have H1:(some false)=some r:=by rw [if_neg (show¬(false=true) by decide)] at H;exact H
  clear H
  have H:=H1
  clear H1
  obtain rfl:=Option.some.inj H
  go_enter Try.func65,Try.ntmps65
  go_wp2_with (first|((with_reducible refine gate_dst (N:=1) rfl ?_);refine bx_ (N:=1) (cs:=#[.int .i64 a0_0, .int .i64 a0_1, .int .i64 a0_2]) (t:=27) ?_;intro gb1 hg w9 hbox hb;have BK1:=am_ (hbox);have GW1:=am_ ((zg0_ HB hg:w.heap.size≤gb1));have GE1:=am_ ((zg0_ HB hg:w.heap.size≤gb1));replace HB:=am_ (below_step (zl0_ HB) hb);clear hb hbox hg;obtain ⟨hcz10_0,hcz10_1,hcz10_2⟩:=x3_ BK1;have hfz10_0:=blk_frozen BK1.out 0;have hfz10_1:=blk_frozen BK1.out 1;have hfz10_2:=blk_frozen BK1.out 2)|((with_reducible refine gate_callee (f:=123) rfl ?_);refine gl_ (some 5) Try.func123 #[.int .i64 a0_0] ?_;(with_reducible refine (r10_unit.calls a0_0 true _ A2.out).mono ?_);rintro e w' ⟨rfl,⟨nd,rfl⟩⟩;refine ⟨_,rfl, ?_⟩)|(go_at_call 123;(with_reducible refine (r10_unit.calls a0_1 false _ A4.out).mono ?_);rintro e w' ⟨rfl,⟨nd,rfl⟩⟩))
  go_ret
  exact ⟨by first|rfl|(simp [errW_none,errW_some]<;>rfl)|(simp [*,errW_none,errW_some]<;>rfl),zl1_ HB GE1⟩
 subst c5
 have H1:((r10_unit.f a0_2).bind fun t4=>(some t4))=some r:=by rw [if_pos rfl] at H;exact H
 clear H
 have H:=H1
 clear H1
 replace H:=Option.bind_eq_some_iff.mp H
 obtain ⟨t4,A60,H⟩:=H
 try dsimp only at H
 have A6:=Aside0.mk A60
 clear A60
 obtain rfl:=Option.some.inj H
 go_enter Try.func65,Try.ntmps65
 go_wp2_with (first|((with_reducible refine gate_dst (N:=1) rfl ?_);refine bx_ (N:=1) (cs:=#[.int .i64 a0_0, .int .i64 a0_1, .int .i64 a0_2]) (t:=27) ?_;intro gb1 hg w7 hbox hb;have BK1:=am_ (hbox);have GW1:=am_ ((zg0_ HB hg:w.heap.size≤gb1));have GE1:=am_ ((zg0_ HB hg:w.heap.size≤gb1));replace HB:=am_ (below_step (zl0_ HB) hb);clear hb hbox hg;obtain ⟨hcz8_0,hcz8_1,hcz8_2⟩:=x3_ BK1;have hfz8_0:=blk_frozen BK1.out 0;have hfz8_1:=blk_frozen BK1.out 1;have hfz8_2:=blk_frozen BK1.out 2)|((with_reducible refine gate_callee (f:=123) rfl ?_);refine gl_ (some 5) Try.func123 #[.int .i64 a0_0] ?_;(with_reducible refine (r10_unit.calls a0_0 true _ A2.out).mono ?_);rintro e w' ⟨rfl,⟨nd,rfl⟩⟩;refine ⟨_,rfl, ?_⟩)|(go_at_call 123;(with_reducible refine (r10_unit.calls a0_1 true _ A4.out).mono ?_);rintro e w' ⟨rfl,⟨nd,rfl⟩⟩)|(go_at_call 123;(with_reducible refine (r10_unit.calls a0_2 t4 _ A6.out).mono ?_);rintro e w' ⟨rfl,⟨nd,rfl⟩⟩))
 go_ret
 exact ⟨by first|rfl|(simp [errW_none,errW_some]<;>rfl)|(simp [*,errW_none,errW_some]<;>rfl),zl1_ HB GE1⟩
def r10_MayName.f (a0:ByteArray):Option (Bool):=if a0.toList=([]:List UInt8) then (some false) else (some (decide ((a0.size:Int)≤24)))
set_option maxHeartbeats 8000000 in
set_option maxRecDepth 100000 in
theorem r10_MayName.calls (a0:ByteArray) (r:Bool) (w:World) (h:r10_MayName.f a0=some r):
  Calls Try.prog 105 #[.string a0] w fun e w'=>e= .returned (.bool r)∧Drawn0 w w':=by
 have H:(if a0.toList=([]:List UInt8) then (some false) else (some (decide ((a0.size:Int)≤24))))=some r:=h
 clear h
 by_cases c2:a0.toList=([]:List UInt8)
 ·rw [if_pos c2] at H
  have c2b0:(a0.toList==([]:List UInt8))=true:=beq_iff_eq.mpr c2
  have c2b1:(a0.toList !=([]:List UInt8))=false:=bne_eq_false_iff_eq.mpr c2
  clear c2
  obtain rfl:=Option.some.inj H
  go_enter Try.func105,Try.ntmps105
  go_wp2
  go_ret
  exact ⟨by first|rfl|(simp;done)|(simp [*];done),by repeat (first|exact Drawn0.refl _|apply Drawn0.step)⟩
 rw [if_neg c2] at H
 have c2b0:(a0.toList==([]:List UInt8))=false:=beq_eq_false_iff_ne.mpr c2
 have c2b1:(a0.toList !=([]:List UInt8))=true:=bne_iff_ne.mpr c2
 obtain rfl:=Option.some.inj H
 go_enter Try.func105,Try.ntmps105
 go_wp2
 go_ret
 exact ⟨by first|rfl|(simp;done)|(simp [*];done),by repeat (first|exact Drawn0.refl _|apply Drawn0.step)⟩

def r10_Up.l0:Nat→List (S31)→List ByteArray→Int→Option (List ByteArray)
 |0,_,_,_=>none
 |k+1,x0,x5,x6=>if x6≥0 then (if (x5.length:Int)≤(x0.length:Int) then (if 0≤x6 then (if x6<(x0.length:Int) then (if x5.length<8796093022208 then ((r10_Find.f k x0 ((rd_T31 x0 x6).f1)).bind fun t7=>(r10_Up.l0 k x0 (x5++ [(rd_T31 x0 x6).f0]) t7)) else (none)) else (none)) else (none)) else (some x5)) else (some x5)
def r10_Up.f (k:Nat) (l0:List (S31)) (a1:ByteArray):Option (List ByteArray):=(r10_Find.f k l0 a1).bind fun t1=>(r10_Up.l0 k l0 ([]:List ByteArray) t1)
theorem r10_Up.mono_l: ∀k,(∀y0 y1 y2,LeO (r10_Up.l0 k y0 y1 y2) (r10_Up.l0 (k+1) y0 y1 y2))
 |0=>fun _ _ _ r h=>by simp [r10_Up.l0] at h
 |k+1=>by
  have ih0:=r10_Up.mono_l k
  intro y0 y1 y2
  unfold r10_Up.l0
  repeat' first
  |(with_reducible exact ih0 _ _ _)
  |(with_reducible exact r10_Find.mono _ _ _)
  |(with_reducible exact LeO.refl _)
  |(with_reducible exact LeO.none _)
  |(with_reducible refine LeO.ite ?_ ?_)
  |(with_reducible refine LeO.bind ?_ (fun _=> ?_))
  |exact ih0 _ _ _
  |exact r10_Find.mono _ _ _
  |exact LeO.none _
  |refine LeO.ite ?_ ?_
  |refine LeO.bind ?_ (fun _=> ?_)
theorem r10_Up.mono: ∀a0 a1 k,LeO (r10_Up.f k a0 a1) (r10_Up.f (k+1) a0 a1):=by
 intro a0 a1 k
 have ih0:=r10_Up.mono_l k
 unfold r10_Up.f
 repeat' first
  |(with_reducible exact ih0 _ _ _)
  |(with_reducible exact r10_Find.mono _ _ _)
  |(with_reducible exact LeO.refl _)
  |(with_reducible exact LeO.none _)
  |(with_reducible refine LeO.ite ?_ ?_)
  |(with_reducible refine LeO.bind ?_ (fun _=> ?_))
  |exact ih0 _ _ _
  |exact r10_Find.mono _ _ _
  |exact LeO.none _
  |refine LeO.ite ?_ ?_
  |refine LeO.bind ?_ (fun _=> ?_)
set_option maxHeartbeats 8000000 in
set_option maxRecDepth 100000 in
theorem r10_Up.calls (k:Nat) (A0:Option Addr) (c0:Nat) (l0:List (S31)) (a1:ByteArray) (r:List ByteArray) (w:World) (hr0:Kd.C k31 w A0 l0.length l0) (hc0:l0.length≤c0) (h:r10_Up.f k l0 a1=some r):
  Calls Try.prog 106 #[.slice A0 l0.length c0, .string a1] w fun e w'=> ∃v0_:Value,e= .returned (v0_)∧Kd.R Kd.string 9 w' w.heap.size (fun _=>True) v0_ r∧Below w.heap.size w w':=by
 have HR0:=Aside0.mk hr0
 have HC0:=Aside0.mk hc0
 clear hr0 hc0
 have HB:=am_ (Below.refl w.heap.size w)
 have H:((r10_Find.f k l0 a1).bind fun t1=>(r10_Up.l0 k l0 ([]:List ByteArray) t1))=some r:=h
 clear h
 replace H:=Option.bind_eq_some_iff.mp H
 obtain ⟨t1,A30,H⟩:=H
 try dsimp only at H
 have A3:=Aside0.mk A30
 clear A30
 have H':=Aside0.mk H
 clear H
 go_enter Try.func106,Try.ntmps106
 go_wp2_with (first|((with_reducible refine gate_callee (f:=50) rfl ?_);refine gl_ (some 9) Try.func50 #[.slice A0 l0.length c0, .string a1] ?_;(with_reducible refine (r10_Find.calls k _ _ l0 a1 t1 _ ?side1 ?side2 A3.out).mono ?_);(case side1=>repeat (first|exact HR0.out|(with_reducible refine Kd.C_alloc ?_ _)|(with_reducible refine Kd.C_drewN ?_ _)|(with_reducible refine Kd.C_drew ?_)));(case side2=>exact HC0.out);rintro e w' ⟨rfl,⟨nd,rfl⟩⟩;refine ⟨_,rfl, ?_⟩))
 go_loopg [5,6] k (fun kq v5 v6 w'=> ∃(x5_1:List ByteArray) (x6_1:Int),v6= .int .i64 x6_1∧Aside0 (r10_Up.l0 kq l0 x5_1 x6_1=some r)∧Aside0 (kq≤k)∧Aside0 (Kd.R Kd.string 9 w' w.heap.size (fun _=>True) v5 x5_1)∧Aside0 (Below w.heap.size w w'))
 case atStart=>exact ⟨(([]:List ByteArray)),(t1),(by first|rfl|(simp;done)|(simp [*];done)),H',⟨Nat.le_refl _⟩,⟨by first|exact Kd.R_nil _ _ _ _ _|exact Kd.N_nil _ _ _ _ _|exact Kd.V_nil _ _ _ _ _|exact Kd.Q_nil _ _ _ _ _|exact Kd.S_nil _ _ _ _ _⟩,⟨zl0_ HB⟩⟩
 case round=>
  clear H'
  try clear c1
  try clear p2
  obtain ⟨x5_1,x6_1,rfl,HA,HK1,HO_5,HB⟩:=hrel
  cases gk with
  |zero=>exact absurd HA.out (by simp [r10_Up.l0])
  |succ k1=>
   have H:=HA.out
   clear HA
   simp only [r10_Up.l0] at H
   by_cases c4:x6_1≥0
   rotate_left
   ·rw [if_neg c4] at H
    have c4b0:decide (0≤x6_1)=false:=decide_eq_false c4
    clear c4
    obtain rfl:=Option.some.inj H
    go_wp2
    go_ret
    exact ⟨_,by first|rfl|(simp [errW_none,errW_some]<;>rfl)|(simp [*,errW_none,errW_some]<;>rfl),by (with_reducible repeat (first|apply Kd.R_alloc|apply Kd.R_drewN|apply Kd.R_drew));exact HO_5.out,zl0_ HB⟩

   rw [if_pos c4] at H
   have c4b0:decide (0≤x6_1)=true:=decide_eq_true c4
   clear c4
   by_cases c5:(x5_1.length:Int)≤(l0.length:Int)
   rotate_left
   ·rw [if_neg c5] at H
    have c5b0:decide ((x5_1.length:Int)≤(l0.length:Int))=false:=decide_eq_false c5
    have c5b1:decide (x5_1.length≤l0.length)=false:=decide_eq_false (fun h=>c5 (Int.ofNat_le.mpr h))
    clear c5
    obtain rfl:=Option.some.inj H
    obtain ⟨Ao12,co12,eo12⟩:=Kd.R_slice HO_5.out
    subst eo12
    go_wp2
    go_ret
    exact ⟨_,by first|rfl|(simp [errW_none,errW_some]<;>rfl)|(simp [*,errW_none,errW_some]<;>rfl),by (with_reducible repeat (first|apply Kd.R_alloc|apply Kd.R_drewN|apply Kd.R_drew));exact HO_5.out,zl0_ HB⟩
   rw [if_pos c5] at H
   have c5b0:decide ((x5_1.length:Int)≤(l0.length:Int))=true:=decide_eq_true c5
   have c5b1:decide (x5_1.length≤l0.length)=true:=decide_eq_true (Int.ofNat_le.mp c5)
   clear c5
   by_cases c6:0≤x6_1
   rotate_left
   ·rw [if_neg c6] at H
    exact absurd H (by simp)
   rw [if_pos c6] at H
   have c6b0:decide (0≤x6_1)=true:=decide_eq_true c6
   clear c6
   by_cases c7:x6_1<(l0.length:Int)
   rotate_left
   ·rw [if_neg c7] at H
    exact absurd H (by simp)
   rw [if_pos c7] at H
   have c7b0:decide (x6_1<(l0.length:Int))=true:=decide_eq_true c7
   clear c7
   by_cases c8:x5_1.length<8796093022208
   rotate_left
   ·rw [if_neg c8] at H
    exact absurd H (by simp)
   rw [if_pos c8] at H
   have LMc8:=Aside0.mk c8
   clear c8
   obtain ⟨y3,hy3⟩: ∃y_:List ByteArray,y_=(x5_1++ [(rd_T31 l0 x6_1).f0]):=⟨_,rfl⟩
   replace H:((r10_Find.f k1 l0 ((rd_T31 l0 x6_1).f1)).bind fun t7=>(r10_Up.l0 k1 l0 y3 t7))=some r:=by first|(rw [hy3];with_reducible exact H)|(have H2_:=(Option.bind_some _ _).symm.trans H;rw [hy3];with_reducible exact H2_)|(have H2_:=(Option.bind_some _ _).symm.trans H;with_reducible exact H2_)|with_reducible exact H|(rw [hy3];exact H)|exact H
   have Ny3:=Aside0.mk hy3
   clear hy3
   replace H:=Option.bind_eq_some_iff.mp H
   obtain ⟨t7,A90,H⟩:=H
   try dsimp only at H
   have A9:=Aside0.mk A90
   clear A90
   have H':=Aside0.mk H
   clear H
   obtain ⟨Ao10,co10,eo10⟩:=Kd.R_slice HO_5.out
   subst eo10
   have p2:0≤(x6_1:Int):=of_decide_eq_true zq_
   have q2:x6_1<(l0.length:Int):=of_decide_eq_true zq_
   obtain ⟨ad2,e2,hx2_0,hx2_1,hx2_2,hx2_3,hx2_4,hx2_5,hx2_6,hx2_7,hx2_8,hx2_9,hx2_10,hx2_11⟩:=at_T31 HR0.out x6_1 p2 q2
   cases e2
   replace hx2_0:=zx_ HB hx2_0
   replace hx2_1:=zx_ HB hx2_1
   replace hx2_2:=zx_ HB hx2_2
   replace hx2_3:=zx_ HB hx2_3
   replace hx2_4:=zx_ HB hx2_4
   replace hx2_5:=zx_ HB hx2_5
   replace hx2_6:=zx_ HB hx2_6
   replace hx2_7:=zx_ HB hx2_7
   replace hx2_8:=zx_ HB hx2_8
   replace hx2_9:=zx_ HB hx2_9
   replace hx2_10:=zx_ HB hx2_10
   replace hx2_11:=zx_ HB hx2_11
   replace p2:=eq_true p2
   replace q2:=eq_true q2
   go_wp2_with (first|((with_reducible refine gate_builtin (b:= .append) (xs:=#[.tmp 26, .tmp 32]) rfl ?_);(try (refine gate_guard (by rfl) ?_;dsimp only));at_builtin;refine Kd.R_append Kd.string (w0:=w) w.heap.size rfl (.tmp 26) (.tmp 32) 74 9 (.string ⟨#[]⟩) 16 rfl Try.underlying74 info9 rfl (by decide) (by omega) (.slice Ao10 x5_1.length co10) x5_1 ((rd_T31 l0 x6_1).f0) [.string ((rd_T31 l0 x6_1).f0)] (fun _=>True) (fun _=>False) rfl rfl ?aP (fun _ hk=>hk.elim) ?aF ?aO ?aB ?aS ?aL ?_;(case aP=>exact rfl);(case aB=>exact (zl0_ HB));(case aF=>exact (fun _ _=>trivial));(case aO=>exact (zr_ HO_5));(case aS=>exact (below_size (zl0_ HB)));(case aL=>have:=LMc8.out;omega);intro v4 w11 ho hb hg hat;rw [←Ny3.out] at ho;have n0_:=am_ (hb);have n1_:=am_ (ho);clear HB;clear HO_5;have HB:=n0_;have HO5:=n1_;clear n0_ n1_;clear ho hb hg hat;have p6:0≤(x6_1:Int):=of_decide_eq_true zq_;have q6:x6_1<(l0.length:Int):=of_decide_eq_true zq_;obtain ⟨ad6,e6,hx6_0,hx6_1,hx6_2,hx6_3,hx6_4,hx6_5,hx6_6,hx6_7,hx6_8,hx6_9,hx6_10,hx6_11⟩:=at_T31 HR0.out x6_1 p6 q6;obtain rfl:ad2=ad6:=(by injection e6);replace hx6_0:=zx_ HB hx6_0;replace hx6_1:=zx_ HB hx6_1;replace hx6_2:=zx_ HB hx6_2;replace hx6_3:=zx_ HB hx6_3;replace hx6_4:=zx_ HB hx6_4;replace hx6_5:=zx_ HB hx6_5;replace hx6_6:=zx_ HB hx6_6;replace hx6_7:=zx_ HB hx6_7;replace hx6_8:=zx_ HB hx6_8;replace hx6_9:=zx_ HB hx6_9;replace hx6_10:=zx_ HB hx6_10;replace hx6_11:=zx_ HB hx6_11;replace p6:=eq_true p6;replace q6:=eq_true q6)|((with_reducible refine gate_callee (f:=50) rfl ?_);refine gl_ (some 25) Try.func50 #[.slice (some ad2) l0.length c0, .string ((rd_T31 l0 x6_1).f1)] ?_;(with_reducible refine (r10_Find.calls k1 _ _ l0 ((rd_T31 l0 x6_1).f1) t7 _ ?side1 ?side2 A9.out).mono ?_);(case side1=>exact zc_ (Kd.C_below HR0.out HB.out));(case side2=>exact HC0.out);rintro e w' ⟨rfl,⟨nd,rfl⟩⟩;refine ⟨_,rfl, ?_⟩))
   go_roundg k1
   case measure=>have:=HK1.out;omega
   case rel=>exact ⟨(y3),(t7),(by first|rfl|(simp;done)|(simp [*];done)),H',⟨by have:=HK1.out;omega⟩,⟨by (with_reducible repeat (first|apply Kd.R_alloc|apply Kd.R_drewN|apply Kd.R_drew));exact HO5.out⟩,⟨zl0_ HB⟩⟩
theorem eqA31 (d:Nat) (w:World) (x0 y0:ByteArray) (x1 y1:ByteArray) (x2 y2:Int) (x3 y3:Int) (x4 y4:Int) (x5 y5:Int) (x6 y6:Int) (x7 y7:Int) (x8 y8:Int) (x9 y9:Int) (x10 y10:Int) (x11 y11:Int):
  (Op.equalIn (d+3) 31 (.agg #[.string x0, .string x1, .int .i64 x2, .int .i64 x3, .int .i64 x4, .int .i64 x5, .int .i64 x6, .int .i64 x7, .int .i64 x8, .int .i64 x9, .int .i64 x10, .int .i64 x11]) (.agg #[.string y0, .string y1, .int .i64 y2, .int .i64 y3, .int .i64 y4, .int .i64 y5, .int .i64 y6, .int .i64 y7, .int .i64 y8, .int .i64 y9, .int .i64 y10, .int .i64 y11])).run Try.prog w= .ok (x0.toList==y0.toList && (x1.toList==y1.toList && ((x2==y2 && (x3==y3 && (x4==y4))) && ((x5==y5 && (x6==y6 && (x7==y7))) && ((x8==y8 && (x9==y9 && (x10==y10))) && (x11==y11)))))) w:=by
 refine eqA_of Try.underlying31 (by kernel_rfl) ?_
 refine eqf_cons (by rfl) (by go_simp;rfl) (by go_simp;rfl) (by go_simp) ?_
 refine eqf_cons (by rfl) (by go_simp;rfl) (by go_simp;rfl) (by go_simp) ?_
 refine eqf_cons (by rfl) (by go_simp) (by go_simp) (eqA27 (d+0) w _ _ _ _ _ _) ?_
 refine eqf_cons (by rfl) (by go_simp) (by go_simp) (eqA27 (d+0) w _ _ _ _ _ _) ?_
 refine eqf_cons (by rfl) (by go_simp) (by go_simp) (eqA27 (d+0) w _ _ _ _ _ _) ?_
 exact eqf_last (by rfl) (by go_simp;rfl) (by go_simp;rfl) (by go_simp)
attribute [local go_sem high] eqA31
def r10_SameItems.l0:Nat→List (S31)→List (S31)→Int→Option (Bool)
 |0,_,_,_=>none
 |k+1,x0,x1,x5=>if x5<(x0.length:Int) then (if 0≤x5 then (if x5<(x1.length:Int) then (if (!((((rd_T31 x0 x5).f0).toList)==(((rd_T31 x1 x5).f0).toList))||(!((((rd_T31 x0 x5).f1).toList)==(((rd_T31 x1 x5).f1).toList))||((!(((rd_T31 x0 x5).f2.f0)==((rd_T31 x1 x5).f2.f0))||(!(((rd_T31 x0 x5).f2.f1)==((rd_T31 x1 x5).f2.f1))||(!(((rd_T31 x0 x5).f2.f2)==((rd_T31 x1 x5).f2.f2)))))||((!(((rd_T31 x0 x5).f3.f0)==((rd_T31 x1 x5).f3.f0))||(!(((rd_T31 x0 x5).f3.f1)==((rd_T31 x1 x5).f3.f1))||(!(((rd_T31 x0 x5).f3.f2)==((rd_T31 x1 x5).f3.f2)))))||((!(((rd_T31 x0 x5).f4.f0)==((rd_T31 x1 x5).f4.f0))||(!(((rd_T31 x0 x5).f4.f1)==((rd_T31 x1 x5).f4.f1))||(!(((rd_T31 x0 x5).f4.f2)==((rd_T31 x1 x5).f4.f2)))))||(!(((rd_T31 x0 x5).f5)==((rd_T31 x1 x5).f5))))))))=true then (some false) else (r10_SameItems.l0 k x0 x1 (wrap64 (x5+1)))) else (none)) else (none)) else (some true)
def r10_SameItems.f (k:Nat) (l0:List (S31)) (l1:List (S31)):Option (Bool):=if (l0.length:Int)=(l1.length:Int) then (r10_SameItems.l0 k l0 l1 0) else (some false)
theorem r10_SameItems.mono_l: ∀k,(∀y0 y1 y2,LeO (r10_SameItems.l0 k y0 y1 y2) (r10_SameItems.l0 (k+1) y0 y1 y2))
 |0=>fun _ _ _ r h=>by simp [r10_SameItems.l0] at h
 |k+1=>by
  have ih0:=r10_SameItems.mono_l k
  intro y0 y1 y2
  unfold r10_SameItems.l0
  repeat' first
  |(with_reducible exact ih0 _ _ _)
  |(with_reducible exact LeO.refl _)
  |(with_reducible exact LeO.none _)
  |(with_reducible refine LeO.ite ?_ ?_)
  |(with_reducible refine LeO.bind ?_ (fun _=> ?_))
  |exact ih0 _ _ _
  |exact LeO.none _
  |refine LeO.ite ?_ ?_
  |refine LeO.bind ?_ (fun _=> ?_)
theorem r10_SameItems.mono: ∀a0 a1 k,LeO (r10_SameItems.f k a0 a1) (r10_SameItems.f (k+1) a0 a1):=by
 intro a0 a1 k
 have ih0:=r10_SameItems.mono_l k
 unfold r10_SameItems.f
 repeat' first
  |(with_reducible exact ih0 _ _ _)
  |(with_reducible exact LeO.refl _)
  |(with_reducible exact LeO.none _)
  |(with_reducible refine LeO.ite ?_ ?_)
  |(with_reducible refine LeO.bind ?_ (fun _=> ?_))
  |exact ih0 _ _ _
  |exact LeO.none _
  |refine LeO.ite ?_ ?_
  |refine LeO.bind ?_ (fun _=> ?_)
set_option maxHeartbeats 8000000 in
set_option maxRecDepth 100000 in
theorem r10_SameItems.calls (k:Nat) (A0:Option Addr) (c0:Nat) (l0:List (S31)) (A1:Option Addr) (c1:Nat) (l1:List (S31)) (r:Bool) (w:World) (hr0:Kd.C k31 w A0 l0.length l0) (hc0:l0.length≤c0) (hr1:Kd.C k31 w A1 l1.length l1) (hc1:l1.length≤c1) (h:r10_SameItems.f k l0 l1=some r):
  Calls Try.prog 62 #[.slice A0 l0.length c0, .slice A1 l1.length c1] w fun e w'=>e= .returned (.bool r)∧Drawn0 w w':=by
 have hu31:=Try.underlying31
 have HR0:=Aside0.mk hr0
 have HC0:=Aside0.mk hc0
 clear hr0 hc0
 have HR1:=Aside0.mk hr1
 have HC1:=Aside0.mk hc1
 clear hr1 hc1
 have H:(if (l0.length:Int)=(l1.length:Int) then (r10_SameItems.l0 k l0 l1 0) else (some false))=some r:=h
 clear h
 by_cases c3:(l0.length:Int)=(l1.length:Int)
 rotate_left
 ·rw [if_neg c3] at H
  have c3b0:((l0.length:Int)==(l1.length:Int))=false:=beq_eq_false_iff_ne.mpr c3
  have c3b1:((l0.length:Int) !=(l1.length:Int))=true:=bne_iff_ne.mpr c3
  have c3b2:(l0.length==l1.length)=false:=by first|simpa using c3|(simp at c3 ⊢;omega)
  obtain rfl:=Option.some.inj H
  go_enter Try.func62,Try.ntmps62
  go_wp2
  repeat (go_quiet (fail);try go_wp2)
  go_ret
  exact ⟨by first|rfl|(simp;done)|(simp [*];done),by repeat (first|exact Drawn0.refl _|apply Drawn0.step)⟩

 rw [if_pos c3] at H
 have c3b0:((l0.length:Int)==(l1.length:Int))=true:=beq_iff_eq.mpr c3
 have c3b1:((l0.length:Int) !=(l1.length:Int))=false:=bne_eq_false_iff_eq.mpr c3
 have c3b2:(l0.length==l1.length)=true:=by first|simpa using c3|(simp at c3 ⊢;omega)
 clear c3
 have H':=Aside0.mk H
 clear H
 go_enter Try.func62,Try.ntmps62
 go_wp2
 repeat (go_quiet (fail);try go_wp2)
 go_loopg [5] k (fun kq v5 w'=> ∃(x5_1:Int),v5= .int .i64 x5_1∧Aside0 (r10_SameItems.l0 kq l0 l1 x5_1=some r)∧Aside0 (kq≤k)∧Drawn0 w w')
 case atStart=>exact ⟨(0),(by first|rfl|(simp;done)|(simp [*];done)),H',⟨Nat.le_refl _⟩,by repeat (first|exact Drawn0.refl _|apply Drawn0.step)⟩
 case round=>
  clear H'
  try clear c1
  try clear p2
  try clear c3
  try clear c3b0
  try clear c3b1
  try clear c3b2
  obtain ⟨x5_1,rfl,HA,HK1,⟨m1,rfl⟩⟩:=hrel
  cases gk with
  |zero=>exact absurd HA.out (by simp [r10_SameItems.l0])
  |succ k1=>
   have H:=HA.out
   clear HA
   simp only [r10_SameItems.l0] at H
   by_cases c4:x5_1<(l0.length:Int)
   rotate_left
   ·rw [if_neg c4] at H
    have c4b0:decide (x5_1<(l0.length:Int))=false:=decide_eq_false c4
    clear c4
    obtain rfl:=Option.some.inj H
    go_wp2
    repeat (go_quiet (fail);try go_wp2)
    go_ret
    exact ⟨by first|rfl|(simp;done)|(simp [*];done),by repeat (first|exact Drawn0.refl _|apply Drawn0.step)⟩
   rw [if_pos c4] at H
   have c4b0:decide (x5_1<(l0.length:Int))=true:=decide_eq_true c4
   clear c4
   by_cases c5:0≤x5_1
   rotate_left
   ·rw [if_neg c5] at H
    exact absurd H (by simp)
   rw [if_pos c5] at H
   have c5b0:decide (0≤x5_1)=true:=decide_eq_true c5
   clear c5
   by_cases c6:x5_1<(l1.length:Int)
   rotate_left
   ·rw [if_neg c6] at H
    exact absurd H (by simp)
   rw [if_pos c6] at H
   have c6b0:decide (x5_1<(l1.length:Int))=true:=decide_eq_true c6
   clear c6
   by_cases c7:(!((((rd_T31 l0 x5_1).f0).toList)==(((rd_T31 l1 x5_1).f0).toList))||(!((((rd_T31 l0 x5_1).f1).toList)==(((rd_T31 l1 x5_1).f1).toList))||((!(((rd_T31 l0 x5_1).f2.f0)==((rd_T31 l1 x5_1).f2.f0))||(!(((rd_T31 l0 x5_1).f2.f1)==((rd_T31 l1 x5_1).f2.f1))||(!(((rd_T31 l0 x5_1).f2.f2)==((rd_T31 l1 x5_1).f2.f2)))))||((!(((rd_T31 l0 x5_1).f3.f0)==((rd_T31 l1 x5_1).f3.f0))||(!(((rd_T31 l0 x5_1).f3.f1)==((rd_T31 l1 x5_1).f3.f1))||(!(((rd_T31 l0 x5_1).f3.f2)==((rd_T31 l1 x5_1).f3.f2)))))||((!(((rd_T31 l0 x5_1).f4.f0)==((rd_T31 l1 x5_1).f4.f0))||(!(((rd_T31 l0 x5_1).f4.f1)==((rd_T31 l1 x5_1).f4.f1))||(!(((rd_T31 l0 x5_1).f4.f2)==((rd_T31 l1 x5_1).f4.f2)))))||(!(((rd_T31 l0 x5_1).f5)==((rd_T31 l1 x5_1).f5))))))))=true
   ·rw [if_pos c7] at H
    have c7b0:(!((((rd_T31 l0 x5_1).f0).toList)==(((rd_T31 l1 x5_1).f0).toList))||(!((((rd_T31 l0 x5_1).f1).toList)==(((rd_T31 l1 x5_1).f1).toList))||((!(((rd_T31 l0 x5_1).f2.f0)==((rd_T31 l1 x5_1).f2.f0))||(!(((rd_T31 l0 x5_1).f2.f1)==((rd_T31 l1 x5_1).f2.f1))||(!(((rd_T31 l0 x5_1).f2.f2)==((rd_T31 l1 x5_1).f2.f2)))))||((!(((rd_T31 l0 x5_1).f3.f0)==((rd_T31 l1 x5_1).f3.f0))||(!(((rd_T31 l0 x5_1).f3.f1)==((rd_T31 l1 x5_1).f3.f1))||(!(((rd_T31 l0 x5_1).f3.f2)==((rd_T31 l1 x5_1).f3.f2)))))||((!(((rd_T31 l0 x5_1).f4.f0)==((rd_T31 l1 x5_1).f4.f0))||(!(((rd_T31 l0 x5_1).f4.f1)==((rd_T31 l1 x5_1).f4.f1))||(!(((rd_T31 l0 x5_1).f4.f2)==((rd_T31 l1 x5_1).f4.f2)))))||(!(((rd_T31 l0 x5_1).f5)==((rd_T31 l1 x5_1).f5))))))))=true:=c7
    clear c7
    obtain rfl:=Option.some.inj H
    have p1:0≤(x5_1:Int):=of_decide_eq_true zq_
    have q1:x5_1<(l0.length:Int):=of_decide_eq_true zq_
    obtain ⟨ad1,e1,hx1_0,hx1_1,hx1_2,hx1_3,hx1_4,hx1_5,hx1_6,hx1_7,hx1_8,hx1_9,hx1_10,hx1_11⟩:=at_T31 HR0.out x5_1 p1 q1
    cases e1
    replace p1:=eq_true p1
    replace q1:=eq_true q1
    have p2:0≤(x5_1:Int):=of_decide_eq_true zq_
    have q2:x5_1<(l1.length:Int):=of_decide_eq_true zq_
    obtain ⟨ad2,e2,hx2_0,hx2_1,hx2_2,hx2_3,hx2_4,hx2_5,hx2_6,hx2_7,hx2_8,hx2_9,hx2_10,hx2_11⟩:=at_T31 HR1.out x5_1 p2 q2
    cases e2
    replace p2:=eq_true p2
    replace q2:=eq_true q2
    go_wp2
    repeat (go_quiet (fail);try go_wp2)
    go_ret
    exact ⟨by first|rfl|(simp;done)|(simp [*];done),by repeat (first|exact Drawn0.refl _|apply Drawn0.step)⟩
   rw [if_neg c7] at H
   have c7b0:(!((((rd_T31 l0 x5_1).f0).toList)==(((rd_T31 l1 x5_1).f0).toList))||(!((((rd_T31 l0 x5_1).f1).toList)==(((rd_T31 l1 x5_1).f1).toList))||((!(((rd_T31 l0 x5_1).f2.f0)==((rd_T31 l1 x5_1).f2.f0))||(!(((rd_T31 l0 x5_1).f2.f1)==((rd_T31 l1 x5_1).f2.f1))||(!(((rd_T31 l0 x5_1).f2.f2)==((rd_T31 l1 x5_1).f2.f2)))))||((!(((rd_T31 l0 x5_1).f3.f0)==((rd_T31 l1 x5_1).f3.f0))||(!(((rd_T31 l0 x5_1).f3.f1)==((rd_T31 l1 x5_1).f3.f1))||(!(((rd_T31 l0 x5_1).f3.f2)==((rd_T31 l1 x5_1).f3.f2)))))||((!(((rd_T31 l0 x5_1).f4.f0)==((rd_T31 l1 x5_1).f4.f0))||(!(((rd_T31 l0 x5_1).f4.f1)==((rd_T31 l1 x5_1).f4.f1))||(!(((rd_T31 l0 x5_1).f4.f2)==((rd_T31 l1 x5_1).f4.f2)))))||(!(((rd_T31 l0 x5_1).f5)==((rd_T31 l1 x5_1).f5))))))))=false:=by simpa using c7
   clear c7
   have H':=Aside0.mk H
   clear H
   have p1:0≤(x5_1:Int):=of_decide_eq_true zq_
   have q1:x5_1<(l0.length:Int):=of_decide_eq_true zq_
   obtain ⟨ad1,e1,hx1_0,hx1_1,hx1_2,hx1_3,hx1_4,hx1_5,hx1_6,hx1_7,hx1_8,hx1_9,hx1_10,hx1_11⟩:=at_T31 HR0.out x5_1 p1 q1
   cases e1
   replace p1:=eq_true p1
   replace q1:=eq_true q1
   have p2:0≤(x5_1:Int):=of_decide_eq_true zq_
   have q2:x5_1<(l1.length:Int):=of_decide_eq_true zq_
   obtain ⟨ad2,e2,hx2_0,hx2_1,hx2_2,hx2_3,hx2_4,hx2_5,hx2_6,hx2_7,hx2_8,hx2_9,hx2_10,hx2_11⟩:=at_T31 HR1.out x5_1 p2 q2
   cases e2
   replace p2:=eq_true p2
   replace q2:=eq_true q2
   go_wp2
   repeat (go_quiet (fail);try go_wp2)
   go_roundg k1
   case measure=>have:=HK1.out;omega
   case rel=>exact ⟨(wrap64 (x5_1+1)),(by first|rfl|(simp;done)|(simp [*];done)),H',⟨by have:=HK1.out;omega⟩,by repeat (first|exact Drawn0.refl _|apply Drawn0.step)⟩
def slices_Clone_Item.f (l0:List (S31)):Option (List (S31)):=if l0.length<1256584717458 then some l0 else none
set_option maxHeartbeats 8000000 in
set_option maxRecDepth 100000 in
theorem slices_Clone_Item.calls (A0:Option Addr) (c0:Nat) (l0:List (S31)) (r:List (S31)) (w:World) (hr0:Kd.C k31 w A0 l0.length l0) (hc0:l0.length≤c0) (h:slices_Clone_Item.f l0=some r):
    Calls Try.prog 153 #[.slice A0 l0.length c0] w fun e w'=> ∃v0_:Value,e= .returned (v0_)∧Kd.R k31 31 w' w.heap.size (fun _=>True) v0_ r∧Below w.heap.size w w':=by
  have hlim:l0.length<1256584717458∧l0=r:=by
    unfold slices_Clone_Item.f at h
    split at h
    · exact ⟨by assumption,Option.some.inj h⟩
    cases h
  obtain ⟨hlim,rfl⟩:=hlim
  have hnil:=fun (W:World) (n c:Nat)=>Lib.run_eql_slice_nil (P:=Try.prog) W 24 31 A0 n c 0 0 Try.underlying24
  cases A0 with
  | none =>
    have hl:l0=[]:=by
      cases l0 with
      |nil=>rfl
      |cons x l=>exact absurd (hr0.2.2 (by simp)) (by simp)
    subst hl
    clear hr0
    go_enter Try.func153,Try.ntmps153
    go_wp2
    go_ret
    exact ⟨_,rfl,Kd.R_nil _ _ _ _ _,Below.refl _ _⟩
  | some ad =>
    have HR0:=Aside0.mk hr0
    have HC0:=Aside0.mk hc0
    have LM:=Aside0.mk hlim
    clear hr0 hc0 hlim h
    have HB:=am_ (Below.refl w.heap.size w)
    go_enter Try.func153,Try.ntmps153
    go_wp2_with (first|((with_reducible refine gate_dst (N:=5) rfl ?_);refine Kd.R_lit k31 _ 31 ?hg (N:=5) ?hd (xs:=([]:List (S31))) (inner:=[]) (ok:=fun _=>True) (okp:=fun _=>True) ?hr ?hp (fun _ hk=>hk) trivial (Below.refl _ _) (Nat.le_refl _) (by simp) ?_;(case hd=>rfl);(case hg=>rfl);(case hr=>first|(go_simp;done)|(go_simp;rfl));(case hp=>exact (Reps.none _ _));intro v2 w3 ho4 hb hg_ hnew_;clear hg_ hnew_;have HO3:=am_ (Kd.R_lower ho4 (below_size HB.out));replace HB:=am_ (below_step HB.out hb);clear hb ho4)|((with_reducible refine gate_builtin (b:= .append) (xs:=#[.tmp 5, .tmp 6]) rfl ?_);at_builtin;refine Kd.R_append_rows k31 (w0:=w) w.heap.size rfl (.tmp 5) (.tmp 6) 24 31 (.agg #[(.string ⟨#[]⟩),(.string ⟨#[]⟩),(.int .i64 0),(.int .i64 0),(.int .i64 0),(.int .i64 0),(.int .i64 0),(.int .i64 0),(.int .i64 0),(.int .i64 0),(.int .i64 0),(.int .i64 0)]) 112 rfl Try.underlying24 info31 rfl (by decide) (by omega) v2 [] l0 _ _ _ (fun _=>True) (fun _=>False) rfl rfl ?aO ?aR (fun _ _ h=>h) (fun _ h=>h.elim) ?aF ?aB ?aS ?aL ?_;(case aR=>exact (Kd.C_below HR0.out HB.out));(case aB=>exact HB.out);(case aF=>exact (fun _ _=>trivial));(case aO=>exact HO3.out);(case aS=>exact (below_size HB.out));(case aL=>have:=LM.out;simp;omega);intro v5 w5 ho hb hg hat;have n0_:=am_ (hb);have n1_:=am_ (ho);clear HB;clear HO3;have HB:=n0_;have HO6:=n1_;clear n0_ n1_;clear ho hb hg hat))
    go_ret
    exact ⟨_,rfl,HO6.out,HB.out⟩


def vec_Most.f:Option (Int×Int×Int):=some (1099511627776,1099511627776,1099511627776)
set_option maxHeartbeats 8000000 in
set_option maxRecDepth 100000 in
theorem vec_Most.calls (r1:Int) (r2:Int) (r3:Int) (w:World) (h:vec_Most.f=some (r1,r2,r3)):
  Calls Try.prog 157 #[] w fun e w'=>e= .returned (.agg #[.int .i64 r1, .int .i64 r2, .int .i64 r3])∧Below w.heap.size w w':=by
 have hu27:=Try.underlying27
 have HB:=am_ (Below.refl w.heap.size w)
 have H:(some (1099511627776,1099511627776,1099511627776))=some (r1,r2,r3):=h
 clear h
 simp only [Option.some.injEq,Prod.mk.injEq] at H
 obtain ⟨rfl,rfl,rfl⟩:=H
 go_enter Try.func157,Try.ntmps157
 go_wp2_with (first|((with_reducible refine gate_dst (N:=0) rfl ?_);refine bx_ (N:=0) (cs:=#[.int .i64 0, .int .i64 0, .int .i64 0]) (t:=27) ?_;intro gb1 hg w1 hbox hb;have BK1:=am_ (hbox);have GW1:=am_ ((zg0_ HB hg:w.heap.size≤gb1));have GE1:=am_ ((zg0_ HB hg:w.heap.size≤gb1));replace HB:=am_ (below_step (zl0_ HB) hb);clear hb hbox hg;obtain ⟨hcz2_0,hcz2_1,hcz2_2⟩:=x3_ BK1;have hfz2_0:=blk_frozen BK1.out 0;have hfz2_1:=blk_frozen BK1.out 1;have hfz2_2:=blk_frozen BK1.out 2))
 refine bodyPost_ret (results_cell_row rfl _ _ gb1 27 #[.int .i64 1099511627776, .int .i64 1099511627776, .int .i64 1099511627776] (0,0) _ rfl (zw_ BK1) Try.underlying27 rfl (by kernel_rfl)) rfl ?_
 exact ⟨by first|rfl|(simp [errW_none,errW_some]<;>rfl)|(simp [*,errW_none,errW_some]<;>rfl),zl1_ HB GE1⟩

def vec_Le.f (a0_0:Int) (a0_1:Int) (a0_2:Int) (a1_0:Int) (a1_1:Int) (a1_2:Int):Option (Bool):=if a0_0≤a1_0 then (if a0_1≤a1_1 then (some (decide (a0_2≤a1_2))) else (some false)) else (some false)
set_option maxHeartbeats 8000000 in
set_option maxRecDepth 100000 in
theorem vec_Le.calls (a0_0:Int) (a0_1:Int) (a0_2:Int) (a1_0:Int) (a1_1:Int) (a1_2:Int) (r:Bool) (w:World) (h:vec_Le.f a0_0 a0_1 a0_2 a1_0 a1_1 a1_2=some r):
  Calls Try.prog 118 #[.agg #[.int .i64 a0_0, .int .i64 a0_1, .int .i64 a0_2], .agg #[.int .i64 a1_0, .int .i64 a1_1, .int .i64 a1_2]] w fun e w'=>e= .returned (.bool r)∧Below w.heap.size w w':=by
 have hu27:=Try.underlying27
 have HB:=am_ (Below.refl w.heap.size w)
 have H:(if a0_0≤a1_0 then (if a0_1≤a1_1 then (some (decide (a0_2≤a1_2))) else (some false)) else (some false))=some r:=h
 clear h
 by_cases c3:a0_0≤a1_0
 rotate_left
 ·rw [if_neg c3] at H
  have c3b0:decide (a0_0≤a1_0)=false:=decide_eq_false c3
  clear c3
  obtain rfl:=Option.some.inj H
  go_enter Try.func118,Try.ntmps118
  go_wp2_with (first|((with_reducible refine gate_dst (N:=2) rfl ?_);refine bx_ (N:=2) (cs:=#[.int .i64 a0_0, .int .i64 a0_1, .int .i64 a0_2]) (t:=27) ?_;intro gb1 hg w15 hbox hb;have BK1:=am_ (hbox);have GW1:=am_ ((zg0_ HB hg:w.heap.size≤gb1));have GE1:=am_ ((zg0_ HB hg:w.heap.size≤gb1));replace HB:=am_ (below_step (zl0_ HB) hb);clear hb hbox hg)|((with_reducible refine gate_dst (N:=3) rfl ?_);refine bx_ (N:=3) (cs:=#[.int .i64 a1_0, .int .i64 a1_1, .int .i64 a1_2]) (t:=27) ?_;intro gb2 hg w16 hbox hb;have BK2:=am_ (hbox);have GW2:=am_ ((zg1_ HB GE1 hg:w.heap.size≤gb2));have GE2:=am_ ((zg1_ HB GE1 hg:w.heap.size≤gb2));replace HB:=am_ (below_step (zl1_ HB GE1) hb);have NB1_2:=am_ ((zn_ BK1 hg:gb1≠gb2));have NB2_1:=am_ ((zm_ BK1 hg:gb2≠gb1));replace BK1:=am_ (blk_below (zb_ BK1) hb);clear hb hbox hg;have hnb17:=NB1_2.out;have hnc17:=NB2_1.out;obtain ⟨hcz18_0,hcz18_1,hcz18_2,hfz18_0,hfz18_1,hfz18_2⟩:=y3_ BK1;obtain ⟨hcz19_0,hcz19_1,hcz19_2⟩:=x3_ BK2;have hfz19_0:=blk_frozen BK2.out 0;have hfz19_1:=blk_frozen BK2.out 1;have hfz19_2:=blk_frozen BK2.out 2))
  go_ret
  exact ⟨by first|rfl|(simp [errW_none,errW_some]<;>rfl)|(simp [*,errW_none,errW_some]<;>rfl),zl2_ HB GE1 GE2⟩

 rw [if_pos c3] at H
 have c3b0:decide (a0_0≤a1_0)=true:=decide_eq_true c3
 clear c3
 by_cases c4:a0_1≤a1_1
 ·rw [if_pos c4] at H
  have c4b0:decide (a0_1≤a1_1)=true:=decide_eq_true c4
  clear c4
  obtain rfl:=Option.some.inj H
  go_enter Try.func118,Try.ntmps118
  go_wp2_with (first|((with_reducible refine gate_dst (N:=2) rfl ?_);refine bx_ (N:=2) (cs:=#[.int .i64 a0_0, .int .i64 a0_1, .int .i64 a0_2]) (t:=27) ?_;intro gb1 hg w5 hbox hb;have BK1:=am_ (hbox);have GW1:=am_ ((zg0_ HB hg:w.heap.size≤gb1));have GE1:=am_ ((zg0_ HB hg:w.heap.size≤gb1));replace HB:=am_ (below_step (zl0_ HB) hb);clear hb hbox hg)|((with_reducible refine gate_dst (N:=3) rfl ?_);refine bx_ (N:=3) (cs:=#[.int .i64 a1_0, .int .i64 a1_1, .int .i64 a1_2]) (t:=27) ?_;intro gb2 hg w6 hbox hb;have BK2:=am_ (hbox);have GW2:=am_ ((zg1_ HB GE1 hg:w.heap.size≤gb2));have GE2:=am_ ((zg1_ HB GE1 hg:w.heap.size≤gb2));replace HB:=am_ (below_step (zl1_ HB GE1) hb);have NB1_2:=am_ ((zn_ BK1 hg:gb1≠gb2));have NB2_1:=am_ ((zm_ BK1 hg:gb2≠gb1));replace BK1:=am_ (blk_below (zb_ BK1) hb);clear hb hbox hg;have hnb7:=NB1_2.out;have hnc7:=NB2_1.out;obtain ⟨hcz8_0,hcz8_1,hcz8_2,hfz8_0,hfz8_1,hfz8_2⟩:=y3_ BK1;obtain ⟨hcz9_0,hcz9_1,hcz9_2⟩:=x3_ BK2;have hfz9_0:=blk_frozen BK2.out 0;have hfz9_1:=blk_frozen BK2.out 1;have hfz9_2:=blk_frozen BK2.out 2))
  go_ret
  exact ⟨by first|rfl|(simp [errW_none,errW_some]<;>rfl)|(simp [*,errW_none,errW_some]<;>rfl),zl2_ HB GE1 GE2⟩
 rw [if_neg c4] at H
 have c4b0:decide (a0_1≤a1_1)=false:=decide_eq_false c4
 clear c4
 obtain rfl:=Option.some.inj H
 go_enter Try.func118,Try.ntmps118
 go_wp2_with (first|((with_reducible refine gate_dst (N:=2) rfl ?_);refine bx_ (N:=2) (cs:=#[.int .i64 a0_0, .int .i64 a0_1, .int .i64 a0_2]) (t:=27) ?_;intro gb1 hg w10 hbox hb;have BK1:=am_ (hbox);have GW1:=am_ ((zg0_ HB hg:w.heap.size≤gb1));have GE1:=am_ ((zg0_ HB hg:w.heap.size≤gb1));replace HB:=am_ (below_step (zl0_ HB) hb);clear hb hbox hg)|((with_reducible refine gate_dst (N:=3) rfl ?_);refine bx_ (N:=3) (cs:=#[.int .i64 a1_0, .int .i64 a1_1, .int .i64 a1_2]) (t:=27) ?_;intro gb2 hg w11 hbox hb;have BK2:=am_ (hbox);have GW2:=am_ ((zg1_ HB GE1 hg:w.heap.size≤gb2));have GE2:=am_ ((zg1_ HB GE1 hg:w.heap.size≤gb2));replace HB:=am_ (below_step (zl1_ HB GE1) hb);have NB1_2:=am_ ((zn_ BK1 hg:gb1≠gb2));have NB2_1:=am_ ((zm_ BK1 hg:gb2≠gb1));replace BK1:=am_ (blk_below (zb_ BK1) hb);clear hb hbox hg;have hnb12:=NB1_2.out;have hnc12:=NB2_1.out;obtain ⟨hcz13_0,hcz13_1,hcz13_2,hfz13_0,hfz13_1,hfz13_2⟩:=y3_ BK1;obtain ⟨hcz14_0,hcz14_1,hcz14_2⟩:=x3_ BK2;have hfz14_0:=blk_frozen BK2.out 0;have hfz14_1:=blk_frozen BK2.out 1;have hfz14_2:=blk_frozen BK2.out 2))
 go_ret
 exact ⟨by first|rfl|(simp [errW_none,errW_some]<;>rfl)|(simp [*,errW_none,errW_some]<;>rfl),zl2_ HB GE1 GE2⟩
def vec_May.f (a0_0:Int) (a0_1:Int) (a0_2:Int):Option (Bool):=(vec_Le.f 0 0 0 a0_0 a0_1 a0_2).bind fun t2=>(if t2=true then ((vec_Most.f).bind fun bt3=>((vec_Le.f a0_0 a0_1 a0_2 bt3.1 bt3.2.1 bt3.2.2).bind fun t6=>(some t6))) else (some false))
def vec_May.T1:Bool×List (List Nat×List Nat):=(true,[([],[]),([],[]),([0,1],[0,1]),([2,2],[2]),([3],[3]),([3,3],[3]),([4,5,5,3],[3,4,5]),([3,6],[3,6]),([7,6,0,1,2,3,4,5,6,7],[7])])
def vec_May.B1:List Nat:=[0,0,3,7,15,15,63,127,255]
theorem vec_May.tab1:rtab .any (opsOf Try.f115 1)=vec_May.T1:=by kernel_rfl
theorem vec_May.bits1:waitsOk vec_May.T1.2 vec_May.B1=true:=by kernel_rfl
set_option maxHeartbeats 8000000 in
set_option maxRecDepth 100000 in
theorem vec_May.calls (a0_0:Int) (a0_1:Int) (a0_2:Int) (r:Bool) (w:World) (h:vec_May.f a0_0 a0_1 a0_2=some r):
  Calls Try.prog 115 #[.agg #[.int .i64 a0_0, .int .i64 a0_1, .int .i64 a0_2]] w fun e w'=>e= .returned (.bool r)∧Below w.heap.size w w':=by
 have hu27:=Try.underlying27
 have HB:=am_ (Below.refl w.heap.size w)
 have H:((vec_Le.f 0 0 0 a0_0 a0_1 a0_2).bind fun t2=>(if t2=true then ((vec_Most.f).bind fun bt3=>((vec_Le.f a0_0 a0_1 a0_2 bt3.1 bt3.2.1 bt3.2.2).bind fun t6=>(some t6))) else (some false)))=some r:=h
 clear h
 replace H:=Option.bind_eq_some_iff.mp H
 obtain ⟨t2,A20,H⟩:=H
 try dsimp only at H
 have A2:=Aside0.mk A20
 clear A20
 by_cases c3:t2=true
 rotate_left
 ·replace c3:=Bool.eq_false_iff.mpr c3
  subst c3
  have H1:(some false)=some r:=by rw [if_neg (show¬(false=true) by decide)] at H;exact H
  clear H
  have H:=H1
  clear H1
  obtain rfl:=Option.some.inj H
  go_enter Try.func115,Try.ntmps115
  try go_wp2_with (first|((with_reducible refine gate_dst (N:=1) rfl ?_);refine bx_ (N:=1) (cs:=#[.int .i64 a0_0, .int .i64 a0_1, .int .i64 a0_2]) (t:=27) ?_;intro gb1 hg w11 hbox hb;have BK1:=am_ (hbox);have GW1:=am_ ((zg0_ HB hg:w.heap.size≤gb1));have GE1:=am_ ((zg0_ HB hg:w.heap.size≤gb1));replace HB:=am_ (below_step (zl0_ HB) hb);clear hb hbox hg))
  replace BK1:=am_ (blk_drew BK1.out)
  replace HB:=am_ (below_drew1 HB.out)
  refine start_ (n:=9) (S:=fun w'=>w'.cell? ⟨gb1,0,none⟩=some (.int .i64 a0_0)∧w'.cell? ⟨gb1,1,none⟩=some (.int .i64 a0_1)∧w'.cell? ⟨gb1,2,none⟩=some (.int .i64 a0_2)) (ds:=[]) (bt_ 9 0) (by kernel_rfl) rfl rfl ⟨(blk_cell BK1.out 0).trans rfl,(blk_cell BK1.out 1).trans rfl,(blk_cell BK1.out 2).trans rfl⟩ (fun hHeld=> ?_);refine with_tabW vec_May.tab1 vec_May.bits1 (fun HT_ HW_=> ?_)
  generalize w11.drew=w12 at BK1 HB hHeld ⊢
  refine pu_ (i:=0) (N:=some 3) (bt_ 9 1) HT_ ?_
  refine tk_ (i:=1) (N:=some 4) (bt_ 9 3) HT_ HW_ hHeld ?_
  refine on_ (i:=2) (N:=some 5) (bt_ 9 7) HT_ (fun K hK=> ?_)
  refine gs_ Try.func118 #[.agg #[.int .i64 0, .int .i64 0, .int .i64 0], .agg #[.int .i64 a0_0, .int .i64 a0_1, .int .i64 a0_2]] ?_
  with_reducible refine (vec_Le.calls 0 0 0 a0_0 a0_1 a0_2 false _ A2.out).mono ?_
  rintro e w13 ⟨rfl,hb⟩
  refine ⟨_,rfl, ?_⟩
  replace BK1:=am_ (blk_below (zb_ BK1) hb)
  replace HB:=am_ (below_step (zl1_ HB GE1) hb)
  (try clear hb)
  (try clear hb2)
  (try clear hk)
  (try clear hi)
  refine hK.out _ _ ⟨(blk_cell BK1.out 0).trans rfl,(blk_cell BK1.out 1).trans rfl,(blk_cell BK1.out 2).trans rfl⟩ (fun hHeld=> ?_)
  clear hK K
  refine no_ (N:=some 5) ?_
  refine pu_ (i:=3) (N:=some 6) (bt_ 9 15) HT_ ?_
  refine pn_ (i:=4) (N:=some 7) (bt_ 9 31) HT_ ?_
  refine pn_ (i:=5) (N:=some 8) (bt_ 9 63) HT_ ?_
  refine pn_ (i:=6) (N:=some 9) (bt_ 9 127) HT_ ?_
  refine pu_ (i:=7) (N:=some 10) (bt_ 9 255) HT_ ?_
  refine pu_ (i:=8) (N:=some 2) (bt_ 9 511) HT_ ?_
  refine done_ (done_of HT_.out (by kernel_rfl)) ?_
  try go_wp2
  go_ret
  exact ⟨by first|rfl|(simp [errW_none,errW_some]<;>rfl)|(simp [*,errW_none,errW_some]<;>rfl),zl1_ HB GE1⟩

 subst c3
 have H1:((vec_Most.f).bind fun bt3=>((vec_Le.f a0_0 a0_1 a0_2 bt3.1 bt3.2.1 bt3.2.2).bind fun t6=>(some t6)))=some r:=by rw [if_pos rfl] at H;exact H
 clear H
 have H:=H1
 clear H1
 replace H:=Option.bind_eq_some_iff.mp H
 obtain ⟨⟨t3,t4,t5⟩,A40,H⟩:=H
 try dsimp only at H
 have A4:=Aside0.mk A40
 clear A40
 replace H:=Option.bind_eq_some_iff.mp H
 obtain ⟨t6,A50,H⟩:=H
 try dsimp only at H
 have A5:=Aside0.mk A50
 clear A50
 obtain rfl:=Option.some.inj H
 go_enter Try.func115,Try.ntmps115
 try go_wp2_with (first|((with_reducible refine gate_dst (N:=1) rfl ?_);refine bx_ (N:=1) (cs:=#[.int .i64 a0_0, .int .i64 a0_1, .int .i64 a0_2]) (t:=27) ?_;intro gb1 hg w6 hbox hb;have BK1:=am_ (hbox);have GW1:=am_ ((zg0_ HB hg:w.heap.size≤gb1));have GE1:=am_ ((zg0_ HB hg:w.heap.size≤gb1));replace HB:=am_ (below_step (zl0_ HB) hb);clear hb hbox hg))
 replace BK1:=am_ (blk_drew BK1.out)
 replace HB:=am_ (below_drew1 HB.out)
 refine start_ (n:=9) (S:=fun w'=>w'.cell? ⟨gb1,0,none⟩=some (.int .i64 a0_0)∧w'.cell? ⟨gb1,1,none⟩=some (.int .i64 a0_1)∧w'.cell? ⟨gb1,2,none⟩=some (.int .i64 a0_2)) (ds:=[]) (bt_ 9 0) (by kernel_rfl) rfl rfl ⟨(blk_cell BK1.out 0).trans rfl,(blk_cell BK1.out 1).trans rfl,(blk_cell BK1.out 2).trans rfl⟩ (fun hHeld=> ?_);refine with_tabW vec_May.tab1 vec_May.bits1 (fun HT_ HW_=> ?_)
 generalize w6.drew=w7 at BK1 HB hHeld ⊢
 refine pu_ (i:=0) (N:=some 3) (bt_ 9 1) HT_ ?_
 refine tk_ (i:=1) (N:=some 4) (bt_ 9 3) HT_ HW_ hHeld ?_
 refine on_ (i:=2) (N:=some 5) (bt_ 9 7) HT_ (fun K hK=> ?_)
 refine gs_ Try.func118 #[.agg #[.int .i64 0, .int .i64 0, .int .i64 0], .agg #[.int .i64 a0_0, .int .i64 a0_1, .int .i64 a0_2]] ?_
 with_reducible refine (vec_Le.calls 0 0 0 a0_0 a0_1 a0_2 true _ A2.out).mono ?_
 rintro e w8 ⟨rfl,hb⟩
 refine ⟨_,rfl, ?_⟩
 replace BK1:=am_ (blk_below (zb_ BK1) hb)
 replace HB:=am_ (below_step (zl1_ HB GE1) hb)
 (try clear hb)
 (try clear hb2)
 (try clear hk)
 (try clear hi)
 refine hK.out _ _ ⟨(blk_cell BK1.out 0).trans rfl,(blk_cell BK1.out 1).trans rfl,(blk_cell BK1.out 2).trans rfl⟩ (fun hHeld=> ?_)
 clear hK K
 refine no_ (N:=some 5) ?_
 refine pu_ (i:=3) (N:=some 6) (bt_ 9 15) HT_ ?_
 refine tk_ (i:=4) (N:=some 7) (bt_ 9 31) HT_ HW_ hHeld ?_
 refine on_ (i:=5) (N:=some 8) (bt_ 9 63) HT_ (fun K hK=> ?_)
 refine gs_ Try.func157 #[] ?_
 with_reducible refine (vec_Most.calls t3 t4 t5 _ A4.out).mono ?_
 rintro e w9 ⟨rfl,hb⟩
 refine ⟨_,rfl, ?_⟩
 replace BK1:=am_ (blk_below (zb_ BK1) hb)
 replace HB:=am_ (below_step (zl1_ HB GE1) hb)
 (try clear hb)
 (try clear hb2)
 (try clear hk)
 (try clear hi)
 refine hK.out _ _ ⟨(blk_cell BK1.out 0).trans rfl,(blk_cell BK1.out 1).trans rfl,(blk_cell BK1.out 2).trans rfl⟩ (fun hHeld=> ?_)
 clear hK K
 refine no_ (N:=some 8) ?_
 refine on_ (i:=6) (N:=some 9) (bt_ 9 127) HT_ (fun K hK=> ?_)
 refine gs_ Try.func118 #[.agg #[.int .i64 a0_0, .int .i64 a0_1, .int .i64 a0_2], .agg #[.int .i64 t3, .int .i64 t4, .int .i64 t5]] ?_
 with_reducible refine (vec_Le.calls a0_0 a0_1 a0_2 t3 t4 t5 t6 _ A5.out).mono ?_
 rintro e w10 ⟨rfl,hb⟩
 refine ⟨_,rfl, ?_⟩
 replace BK1:=am_ (blk_below (zb_ BK1) hb)
 replace HB:=am_ (below_step (zl1_ HB GE1) hb)
 (try clear hb)
 (try clear hb2)
 (try clear hk)
 (try clear hi)
 refine hK.out _ _ ⟨(blk_cell BK1.out 0).trans rfl,(blk_cell BK1.out 1).trans rfl,(blk_cell BK1.out 2).trans rfl⟩ (fun hHeld=> ?_)
 clear hK K
 refine no_ (N:=some 9) ?_
 refine pu_ (i:=7) (N:=some 10) (bt_ 9 255) HT_ ?_
 refine pu_ (i:=8) (N:=some 2) (bt_ 9 511) HT_ ?_
 refine done_ (done_of HT_.out (by kernel_rfl)) ?_
 try go_wp2
 go_ret
 exact ⟨by first|rfl|(simp [errW_none,errW_some]<;>rfl)|(simp [*,errW_none,errW_some]<;>rfl),zl1_ HB GE1⟩
def fidx {α:Type} (p:α→Bool):List α→Int→Int
 |[],_=> -1
 |x::l,i=>if p x=true then i else fidx p l (i+1)
theorem fidx_drop {α:Type} (p:α→Bool) (z:α) (l:List α) (i:Nat) (h:i<l.length):fidx p (l.drop i) i=if p (l.getD i z)=true then (i:Int) else fidx p (l.drop (i+1)) ((i+1:Nat):Int):=by
 rw [List.drop_eq_getElem_cons h,List.getD_eq_getElem?_getD,List.getElem?_eq_getElem h]
 rfl
def itemCells (x:S31):Array Value:=#[.string x.f0, .string x.f1, .int .i64 x.f2.f0, .int .i64 x.f2.f1, .int .i64 x.f2.f2, .int .i64 x.f3.f0, .int .i64 x.f3.f1, .int .i64 x.f3.f2, .int .i64 x.f4.f0, .int .i64 x.f4.f1, .int .i64 x.f4.f2, .int .i64 x.f5]
set_option maxHeartbeats 1000000 in
set_option maxRecDepth 100000 in
theorem idxItem_calls (g:Nat) (lb:Array Value) (p:S31→Bool) (eg: ∀args w,(callFunc g args).run Try.prog w= .ok (.enter g args) w) (w:World)
    (hp: ∀W x,Below w.heap.size w W→Calls Try.prog g (#[.agg (itemCells x)]++lb) W fun e w'=>e= .returned (.bool (p x))∧Below W.heap.size W w')
    (A:Option Addr) (c:Nat) (l:List S31) (hr0:Kd.C k31 w A l.length l) (hc0:l.length≤c):
    Calls Try.prog 127 #[.slice A l.length c, .func (.func g) #[] lb] w fun e w'=>e= .returned (.int .i64 (fidx p l 0))∧Below w.heap.size w w':=by
  have hu31:=Try.underlying31
  have HR0:=Aside0.mk hr0
  have HP:=Aside0.mk hp
  have HEG:=Aside0.mk eg
  have hm:l.length≤9223372036854775807:=hr0.2.1
  clear hr0 hp eg
  go_enter Try.func127,Try.ntmps127
  go_wp2
  go_loopg [5,8] l.length (fun kq s5 s8 wr=> ∃i:Nat,i≤l.length∧l.length - i≤kq∧s8= .int .i64 i∧Aside0 (Below w.heap.size w wr)∧Aside0 (fidx p l 0=fidx p (l.drop i) i))
  case atStart=>exact ⟨0,by omega,by omega,rfl,⟨Below.refl _ _⟩,⟨rfl⟩⟩
  case round=>
    obtain ⟨i,hi,hg,rfl,HB,HF⟩:=hrel
    by_cases hlt:i<l.length
    rotate_left
    · obtain rfl : i = l.length := by omega
      go_wp2
      go_ret
      refine ⟨?_,HB.out⟩
      rw [HF.out,List.drop_length]
      rfl


    have hltz:(i:Int)<(l.length:Int):=by omega
    obtain ⟨ad,e1,h0,h1,h2,h3,h4,h5,h6,h7,h8,h9,h10,h11⟩:=at_T31 HR0.out (i:Int) (by omega) (by omega)
    cases e1
    simp only [Int.toNat_natCast] at h0 h1 h2 h3 h4 h5 h6 h7 h8 h9 h10 h11
    replace h0:=zx_ HB h0
    replace h1:=zx_ HB h1
    replace h2:=zx_ HB h2
    replace h3:=zx_ HB h3
    replace h4:=zx_ HB h4
    replace h5:=zx_ HB h5
    replace h6:=zx_ HB h6
    replace h7:=zx_ HB h7
    replace h8:=zx_ HB h8
    replace h9:=zx_ HB h9
    replace h10:=zx_ HB h10
    replace h11:=zx_ HB h11
    have hd:Aside0 _:=⟨fidx_drop p z31 l i hlt⟩
    have HC:=am_ (HP.out wr (rd_T31 l i) HB.out)
    generalize hy:rd_T31 l i=y at h0 h1 h2 h3 h4 h5 h6 h7 h8 h9 h10 h11 HC
    have hq:p (l.getD i z31)=p y:=by rw [←hy];simp [rd_T31]
    have HQ:=Aside0.mk hq
    clear hy hq
    have eg:=HEG.out
    cases hb:p y with
    | true =>
      rw [hb] at HC HQ
      clear hb
      go_wp2_with (go_at_fn g;refine HC.out.mono ?_;rintro e w' ⟨rfl,hb'⟩;have HB':=am_ (below_step HB.out hb');clear hb')
      go_ret
      refine ⟨?_,HB'.out⟩
      rw [HF.out,hd.out,HQ.out]
      rfl
    | false =>
      rw [hb] at HC HQ
      clear hb
      go_wp2_with (go_at_fn g;refine HC.out.mono ?_;rintro e w' ⟨rfl,hb'⟩;have HB':=am_ (below_step HB.out hb');clear hb')
      go_roundg (l.length - (i+1))
      case measure=>omega
      case rel=>exact ⟨i+1,by omega,by omega,by go_num,HB',⟨by rw [HF.out,hd.out,HQ.out];rfl⟩⟩
set_option maxHeartbeats 1000000 in
set_option maxRecDepth 100000 in
theorem treeFind1_calls (W:World) (b:Nat) (nm:ByteArray) (hb:W.heap[b]?=some (.cells #[.string nm] 9 (0,0))) (x:S31):
  Calls Try.prog 128 #[.agg (itemCells x), .pointer (some ⟨b,0,none⟩)] W fun e w'=>e= .returned (.bool (x.f0.toList==nm.toList))∧Below W.heap.size W w':=by
 unfold itemCells
 have hu31:=Try.underlying31
 have h0:=(blk_cell hb 0).trans rfl
 have hl:b<W.heap.size:=blk_lt hb
 clear hb
 go_enter Try.func128,Try.ntmps128
 go_wp2
 go_ret
 exact ⟨rfl,by repeat (first|(with_reducible first|exact Below.refl _ _|apply below_alloc|apply pw_below_drewN|apply below_drew1))⟩
def tree_Find.f (l0:List (S31)) (a1:ByteArray):Option Int:=some (fidx (fun x=>x.f0.toList==a1.toList) l0 0)
set_option maxHeartbeats 1000000 in
set_option maxRecDepth 100000 in
theorem tree_Find.calls (A0:Option Addr) (c0:Nat) (l0:List (S31)) (a1:ByteArray) (r:Int) (w:World) (hr0:Kd.C k31 w A0 l0.length l0) (hc0:l0.length≤c0) (h:tree_Find.f l0 a1=some r):
  Calls Try.prog 71 #[.slice A0 l0.length c0, .string a1] w fun e w'=>e= .returned (.int .i64 r)∧Below w.heap.size w w':=by
 have hr:fidx (fun x=>x.f0.toList==a1.toList) l0 0=r:=Option.some.inj h
 obtain ⟨W1,hW1⟩: ∃W1,W1=w.alloc (.cells #[.string a1] 9):=⟨_,rfl⟩
 have hn:W1.heap[w.heap.size]?=some (.cells #[.string a1] 9 (0,0)):=by rw [hW1];exact blk_new _ _
 have hB:Below w.heap.size w W1:=by rw [hW1];exact below_alloc (Below.refl _ _) _
 have HC:=am_ (idxItem_calls 128 #[.pointer (some ⟨w.heap.size,0,none⟩)] (fun x=>x.f0.toList==a1.toList) (enters_of Try.func128 (by kernel_rfl) rfl) W1 (fun W x hb=>treeFind1_calls W w.heap.size a1 (blk_below hn hb) x) A0 c0 l0 (Kd.C_below hr0 hB) hc0)
 rw [hr] at HC
 have HW:=Aside0.mk hW1
 have HB:=Aside0.mk hB
 clear hr0 hr hW1 hn hB h
 go_enter Try.func71,Try.ntmps71
 go_wp2_with fail
 rw [←HW.out]
 refine HC.out.mono ?_
 rintro e w' ⟨rfl,hb⟩
 have HB':=am_ (below_step HB.out hb)
 clear hb
 go_wp2
 go_ret
 exact ⟨rfl,HB'.out⟩


def tree_Below.l0:Nat→ByteArray→List ByteArray→List (S31)→Int→Int→Option (List ByteArray)
 |0,_,_,_,_,_=>none
 |k+1,x1,x5,x8,x9,x10=>if x10<x9 then (if 0≤x10 then (if x10<(x8.length:Int) then (if ((rd_T31 x8 x10).f1).toList=x1.toList then (if x5.length<8796093022208 then (tree_Below.l0 k x1 (x5++ [(rd_T31 x8 x10).f0]) x8 x9 (wrap64 (x10+1))) else (none)) else (tree_Below.l0 k x1 x5 x8 x9 (wrap64 (x10+1)))) else (none)) else (none)) else (some x5)
def tree_Below.f (k:Nat) (l0:List (S31)) (a1:ByteArray):Option (List ByteArray):=tree_Below.l0 k a1 ([]:List ByteArray) l0 (l0.length:Int) 0
theorem tree_Below.mono_l: ∀k,(∀y0 y1 y2 y3 y4,LeO (tree_Below.l0 k y0 y1 y2 y3 y4) (tree_Below.l0 (k+1) y0 y1 y2 y3 y4))
 |0=>fun _ _ _ _ _ r h=>by simp [tree_Below.l0] at h
 |k+1=>by
  have ih0:=tree_Below.mono_l k
  intro y0 y1 y2 y3 y4
  unfold tree_Below.l0
  repeat' first
  |(with_reducible exact ih0 _ _ _ _ _)
  |(with_reducible exact LeO.refl _)
  |(with_reducible exact LeO.none _)
  |(with_reducible refine LeO.ite ?_ ?_)
  |(with_reducible refine LeO.bind ?_ (fun _=> ?_))
  |exact ih0 _ _ _ _ _
  |exact LeO.none _
  |refine LeO.ite ?_ ?_
  |refine LeO.bind ?_ (fun _=> ?_)
theorem tree_Below.mono: ∀a0 a1 k,LeO (tree_Below.f k a0 a1) (tree_Below.f (k+1) a0 a1):=by
 intro a0 a1 k
 have ih0:=tree_Below.mono_l k
 unfold tree_Below.f
 repeat' first
  |(with_reducible exact ih0 _ _ _ _ _)
  |(with_reducible exact LeO.refl _)
  |(with_reducible exact LeO.none _)
  |(with_reducible refine LeO.ite ?_ ?_)
  |(with_reducible refine LeO.bind ?_ (fun _=> ?_))
  |exact ih0 _ _ _ _ _
  |exact LeO.none _
  |refine LeO.ite ?_ ?_
  |refine LeO.bind ?_ (fun _=> ?_)
set_option maxHeartbeats 8000000 in
set_option maxRecDepth 100000 in
theorem tree_Below.calls (k:Nat) (A0:Option Addr) (c0:Nat) (l0:List (S31)) (a1:ByteArray) (r:List ByteArray) (w:World) (hr0:Kd.C k31 w A0 l0.length l0) (hc0:l0.length≤c0) (h:tree_Below.f k l0 a1=some r):
  Calls Try.prog 73 #[.slice A0 l0.length c0, .string a1] w fun e w'=> ∃v0_:Value,e= .returned (v0_)∧Kd.R Kd.string 9 w' w.heap.size (fun _=>True) v0_ r∧Below w.heap.size w w':=by
 have hu31:=Try.underlying31
 have HR0:=Aside0.mk hr0
 have HC0:=Aside0.mk hc0
 clear hr0 hc0
 have HB:=am_ (Below.refl w.heap.size w)
 have H:(tree_Below.l0 k a1 ([]:List ByteArray) l0 (l0.length:Int) 0)=some r:=h
 clear h
 have H':=Aside0.mk H
 clear H
 go_enter Try.func73,Try.ntmps73
 go_wp2
 go_loopg [5,10] k (fun kq v5 v10 w'=> ∃(x5_1:List ByteArray) (x10_1:Int),v10= .int .i64 x10_1∧Aside0 (tree_Below.l0 kq a1 x5_1 l0 (l0.length:Int) x10_1=some r)∧Aside0 (kq≤k)∧Aside0 (Kd.R Kd.string 9 w' w.heap.size (fun _=>True) v5 x5_1)∧Aside0 (Below w.heap.size w w'))
 case atStart=>exact ⟨(([]:List ByteArray)),(0),(by first|rfl|(simp;done)|(simp [*];done)),H',⟨Nat.le_refl _⟩,⟨by first|exact Kd.R_nil _ _ _ _ _|exact Kd.N_nil _ _ _ _ _|exact Kd.V_nil _ _ _ _ _|exact Kd.Q_nil _ _ _ _ _|exact Kd.S_nil _ _ _ _ _⟩,⟨zl0_ HB⟩⟩
 case round=>
  clear H'
  try clear p2
  obtain ⟨x5_1,x10_1,rfl,HA,HK1,HO_5,HB⟩:=hrel
  cases gk with
  |zero=>exact absurd HA.out (by simp [tree_Below.l0])
  |succ k1=>
   have H:=HA.out
   clear HA
   simp only [tree_Below.l0] at H
   by_cases c3:x10_1<(l0.length:Int)
   rotate_left
   ·rw [if_neg c3] at H
    have c3b0:decide (x10_1<(l0.length:Int))=false:=decide_eq_false c3
    clear c3
    obtain rfl:=Option.some.inj H
    go_wp2
    go_ret
    exact ⟨_,by first|rfl|(simp [errW_none,errW_some]<;>rfl)|(simp [*,errW_none,errW_some]<;>rfl),by (with_reducible repeat (first|apply Kd.R_alloc|apply Kd.R_drewN|apply Kd.R_drew));exact HO_5.out,zl0_ HB⟩

   rw [if_pos c3] at H
   have c3b0:decide (x10_1<(l0.length:Int))=true:=decide_eq_true c3
   clear c3
   by_cases c4:0≤x10_1
   rotate_left
   ·rw [if_neg c4] at H
    exact absurd H (by simp)
   rw [if_pos c4] at H
   have c4b0:decide (0≤x10_1)=true:=decide_eq_true c4
   clear c4
   by_cases c5:x10_1<(l0.length:Int)
   rotate_left
   ·rw [if_neg c5] at H
    exact absurd H (by simp)
   rw [if_pos c5] at H
   have c5b0:decide (x10_1<(l0.length:Int))=true:=decide_eq_true c5
   clear c5
   by_cases c6:((rd_T31 l0 x10_1).f1).toList=a1.toList
   rotate_left
   ·rw [if_neg c6] at H
    have c6b0:(((rd_T31 l0 x10_1).f1).toList==a1.toList)=false:=beq_eq_false_iff_ne.mpr c6
    have c6b1:(((rd_T31 l0 x10_1).f1).toList !=a1.toList)=true:=bne_iff_ne.mpr c6
    have H':=Aside0.mk H
    clear H
    have p1:0≤(x10_1:Int):=of_decide_eq_true zq_
    have q1:x10_1<(l0.length:Int):=of_decide_eq_true zq_
    obtain ⟨ad1,e1,hx1_0,hx1_1,hx1_2,hx1_3,hx1_4,hx1_5,hx1_6,hx1_7,hx1_8,hx1_9,hx1_10,hx1_11⟩:=at_T31 HR0.out x10_1 p1 q1
    cases e1
    replace hx1_0:=zx_ HB hx1_0
    replace hx1_1:=zx_ HB hx1_1
    replace hx1_2:=zx_ HB hx1_2
    replace hx1_3:=zx_ HB hx1_3
    replace hx1_4:=zx_ HB hx1_4
    replace hx1_5:=zx_ HB hx1_5
    replace hx1_6:=zx_ HB hx1_6
    replace hx1_7:=zx_ HB hx1_7
    replace hx1_8:=zx_ HB hx1_8
    replace hx1_9:=zx_ HB hx1_9
    replace hx1_10:=zx_ HB hx1_10
    replace hx1_11:=zx_ HB hx1_11
    replace p1:=eq_true p1
    replace q1:=eq_true q1
    go_wp2_with (first|((with_reducible refine gate_dst (N:=7) rfl ?_);refine bx_ (N:=7) (cs:=#[.string (⟨#[]⟩:ByteArray), .string (⟨#[]⟩:ByteArray), .int .i64 0, .int .i64 0, .int .i64 0, .int .i64 0, .int .i64 0, .int .i64 0, .int .i64 0, .int .i64 0, .int .i64 0, .int .i64 0]) (t:=31) ?_;intro gb2 hg w11 hbox hb;replace HO_5:=am_ (Kd.R_below (zr_ HO_5) hb);have BK2:=am_ (hbox);have GW2:=am_ ((zg0_ HB hg:w.heap.size≤gb2));have GE2:=am_ ((zg0_ HB hg:w.heap.size≤gb2));replace HB:=am_ (below_step (zl0_ HB) hb);clear hb hbox hg;obtain ⟨hcz12_0,hcz12_1,hcz12_2,hcz12_3,hcz12_4,hcz12_5,hcz12_6,hcz12_7,hcz12_8,hcz12_9,hcz12_10,hcz12_11⟩:=x12_ BK2;have hfz12_0:=blk_frozen BK2.out 0;have hfz12_1:=blk_frozen BK2.out 1;have hfz12_2:=blk_frozen BK2.out 2;have hfz12_3:=blk_frozen BK2.out 3;have hfz12_4:=blk_frozen BK2.out 4;have hfz12_5:=blk_frozen BK2.out 5;have hfz12_6:=blk_frozen BK2.out 6;have hfz12_7:=blk_frozen BK2.out 7;have hfz12_8:=blk_frozen BK2.out 8;have hfz12_9:=blk_frozen BK2.out 9;have hfz12_10:=blk_frozen BK2.out 10;have hfz12_11:=blk_frozen BK2.out 11))
    go_roundg k1
    case measure=>have:=HK1.out;omega
    case rel=>exact ⟨(x5_1),(wrap64 (x10_1+1)),(by first|rfl|(simp;done)|(simp [*];done)),H',⟨by have:=HK1.out;omega⟩,⟨zy_ HO_5 BK2⟩,⟨zl1_ HB GE2⟩⟩
   rw [if_pos c6] at H
   have c6b0:(((rd_T31 l0 x10_1).f1).toList==a1.toList)=true:=beq_iff_eq.mpr c6
   have c6b1:(((rd_T31 l0 x10_1).f1).toList !=a1.toList)=false:=bne_eq_false_iff_eq.mpr c6
   clear c6
   by_cases c7:x5_1.length<8796093022208
   rotate_left
   ·rw [if_neg c7] at H
    exact absurd H (by simp)
   rw [if_pos c7] at H
   have LMc7:=Aside0.mk c7
   clear c7
   obtain ⟨y3,hy3⟩: ∃y_:List ByteArray,y_=(x5_1++ [(rd_T31 l0 x10_1).f0]):=⟨_,rfl⟩
   replace H:(tree_Below.l0 k1 a1 y3 l0 (l0.length:Int) (wrap64 (x10_1+1)))=some r:=by first|(rw [hy3];with_reducible exact H)|(have H2_:=(Option.bind_some _ _).symm.trans H;rw [hy3];with_reducible exact H2_)|(have H2_:=(Option.bind_some _ _).symm.trans H;with_reducible exact H2_)|with_reducible exact H|(rw [hy3];exact H)|exact H
   have Ny3:=Aside0.mk hy3
   clear hy3
   have H':=Aside0.mk H
   clear H
   have p1:0≤(x10_1:Int):=of_decide_eq_true zq_
   have q1:x10_1<(l0.length:Int):=of_decide_eq_true zq_
   obtain ⟨ad1,e1,hx1_0,hx1_1,hx1_2,hx1_3,hx1_4,hx1_5,hx1_6,hx1_7,hx1_8,hx1_9,hx1_10,hx1_11⟩:=at_T31 HR0.out x10_1 p1 q1
   cases e1
   replace hx1_0:=zx_ HB hx1_0
   replace hx1_1:=zx_ HB hx1_1
   replace hx1_2:=zx_ HB hx1_2
   replace hx1_3:=zx_ HB hx1_3
   replace hx1_4:=zx_ HB hx1_4
   replace hx1_5:=zx_ HB hx1_5
   replace hx1_6:=zx_ HB hx1_6
   replace hx1_7:=zx_ HB hx1_7
   replace hx1_8:=zx_ HB hx1_8
   replace hx1_9:=zx_ HB hx1_9
   replace hx1_10:=zx_ HB hx1_10
   replace hx1_11:=zx_ HB hx1_11
   replace p1:=eq_true p1
   replace q1:=eq_true q1
   go_wp2_with (first|((with_reducible refine gate_dst (N:=7) rfl ?_);refine bx_ (N:=7) (cs:=#[.string (⟨#[]⟩:ByteArray), .string (⟨#[]⟩:ByteArray), .int .i64 0, .int .i64 0, .int .i64 0, .int .i64 0, .int .i64 0, .int .i64 0, .int .i64 0, .int .i64 0, .int .i64 0, .int .i64 0]) (t:=31) ?_;intro gb2 hg w8 hbox hb;replace HO_5:=am_ (Kd.R_below (zr_ HO_5) hb);have BK2:=am_ (hbox);have GW2:=am_ ((zg0_ HB hg:w.heap.size≤gb2));have GE2:=am_ ((zg0_ HB hg:w.heap.size≤gb2));replace HB:=am_ (below_step (zl0_ HB) hb);clear hb hbox hg;obtain ⟨hcz9_0,hcz9_1,hcz9_2,hcz9_3,hcz9_4,hcz9_5,hcz9_6,hcz9_7,hcz9_8,hcz9_9,hcz9_10,hcz9_11⟩:=x12_ BK2;have hfz9_0:=blk_frozen BK2.out 0;have hfz9_1:=blk_frozen BK2.out 1;have hfz9_2:=blk_frozen BK2.out 2;have hfz9_3:=blk_frozen BK2.out 3;have hfz9_4:=blk_frozen BK2.out 4;have hfz9_5:=blk_frozen BK2.out 5;have hfz9_6:=blk_frozen BK2.out 6;have hfz9_7:=blk_frozen BK2.out 7;have hfz9_8:=blk_frozen BK2.out 8;have hfz9_9:=blk_frozen BK2.out 9;have hfz9_10:=blk_frozen BK2.out 10;have hfz9_11:=blk_frozen BK2.out 11)|((with_reducible refine gate_builtin (b:= .append) (xs:=#[.tmp 18, .tmp 21]) rfl ?_);at_builtin;refine Kd.R_append Kd.string (w0:=w) w.heap.size rfl (.tmp 18) (.tmp 21) 74 9 (.string ⟨#[]⟩) 16 rfl Try.underlying74 info9 rfl (by decide) (by omega) u5 x5_1 ((rd_T31 l0 x10_1).f0) [.string ((rd_T31 l0 x10_1).f0)] (fun _=>True) (fun _=>False) rfl (by first|(go_simp;done)|(go_simp;rfl)) ?aP (fun _ hk=>hk.elim) ?aF ?aO ?aB ?aS ?aL ?_;(case aP=>exact rfl);(case aB=>exact (zl1_ HB GE2));(case aF=>exact (fun _ _=>trivial));(case aO=>exact (by refine zt_ ?_;exact Kd.R_mono (Kd.R_far (p:=⟨gb2,11,none⟩) (Kd.R_far (p:=⟨gb2,10,none⟩) (Kd.R_far (p:=⟨gb2,9,none⟩) (Kd.R_far (p:=⟨gb2,8,none⟩) (Kd.R_far (p:=⟨gb2,7,none⟩) (Kd.R_far (p:=⟨gb2,6,none⟩) (Kd.R_far (p:=⟨gb2,5,none⟩) (Kd.R_far (p:=⟨gb2,4,none⟩) (Kd.R_far (p:=⟨gb2,3,none⟩) (Kd.R_far (p:=⟨gb2,2,none⟩) (Kd.R_far (p:=⟨gb2,1,none⟩) (Kd.R_far (p:=⟨gb2,0,none⟩) (Kd.R_types HO_5.out BK2.out (by decide)) (fun _ hk=>hk.2) (.string ((rd_T31 l0 x10_1).f0))) (fun _ hk=>hk.2) (.string ((rd_T31 l0 x10_1).f1))) (fun _ hk=>hk.2) (.int .i64 ((rd_T31 l0 x10_1).f2.f0))) (fun _ hk=>hk.2) (.int .i64 ((rd_T31 l0 x10_1).f2.f1))) (fun _ hk=>hk.2) (.int .i64 ((rd_T31 l0 x10_1).f2.f2))) (fun _ hk=>hk.2) (.int .i64 ((rd_T31 l0 x10_1).f3.f0))) (fun _ hk=>hk.2) (.int .i64 ((rd_T31 l0 x10_1).f3.f1))) (fun _ hk=>hk.2) (.int .i64 ((rd_T31 l0 x10_1).f3.f2))) (fun _ hk=>hk.2) (.int .i64 ((rd_T31 l0 x10_1).f4.f0))) (fun _ hk=>hk.2) (.int .i64 ((rd_T31 l0 x10_1).f4.f1))) (fun _ hk=>hk.2) (.int .i64 ((rd_T31 l0 x10_1).f4.f2))) (fun _ hk=>hk.2) (.int .i64 ((rd_T31 l0 x10_1).f5))) (fun _ hk=>trivial)));(case aS=>exact (below_size (zl1_ HB GE2)));(case aL=>have:=LMc7.out;omega);intro v4 w10 ho hb hg hat;rw [←Ny3.out] at ho;have n0_:=am_ (blk_grown (g:=gb2) (o:= .cells #[.string ((rd_T31 l0 x10_1).f0), .string ((rd_T31 l0 x10_1).f1), .int .i64 ((rd_T31 l0 x10_1).f2.f0), .int .i64 ((rd_T31 l0 x10_1).f2.f1), .int .i64 ((rd_T31 l0 x10_1).f2.f2), .int .i64 ((rd_T31 l0 x10_1).f3.f0), .int .i64 ((rd_T31 l0 x10_1).f3.f1), .int .i64 ((rd_T31 l0 x10_1).f3.f2), .int .i64 ((rd_T31 l0 x10_1).f4.f0), .int .i64 ((rd_T31 l0 x10_1).f4.f1), .int .i64 ((rd_T31 l0 x10_1).f4.f2), .int .i64 ((rd_T31 l0 x10_1).f5)] 31 (0,0)) (zw_ BK2) hg (Kd.R_ne HO_5.out BK2.out (by decide)));have n1_:=am_ (hb);have n2_:=am_ (ho);clear BK2;clear HB;clear HO_5;have BK2:=n0_;have HB:=n1_;have HO5:=n2_;clear n0_ n1_ n2_;clear ho hb hg hat))
   go_roundg k1
   case measure=>have:=HK1.out;omega
   case rel=>exact ⟨(y3),(wrap64 (x10_1+1)),(by first|rfl|(simp;done)|(simp [*];done)),H',⟨by have:=HK1.out;omega⟩,⟨by (with_reducible repeat (first|apply Kd.R_alloc|apply Kd.R_drewN|apply Kd.R_drew));exact HO5.out⟩,⟨zl1_ HB GE2⟩⟩
def vecByF (op:Int→Int→Int):List S27→Int→Int→Int→Int×Int×Int
 |[],a,b,d=>(a,b,d)
 |v::l,a,b,d=>vecByF op l (op a v.f0) (op b v.f1) (op d v.f2)
theorem vecByF_snoc (op:Int→Int→Int) (v:S27): ∀(l:List S27) (a b d:Int),vecByF op (l++ [v]) a b d=(op (vecByF op l a b d).1 v.f0,op (vecByF op l a b d).2.1 v.f1,op (vecByF op l a b d).2.2 v.f2)
 |[],_,_,_=>rfl
 |_::l,_,_,_=>vecByF_snoc op v l _ _ _
theorem vecByF_take (op:Int→Int→Int) (l:List S27) (a b d:Int) (i:Nat) (h:i<l.length):vecByF op (l.take (i+1)) a b d=(op (vecByF op (l.take i) a b d).1 (rd_T27 l i).f0,op (vecByF op (l.take i) a b d).2.1 (rd_T27 l i).f1,op (vecByF op (l.take i) a b d).2.2 (rd_T27 l i).f2):=by
 have e:rd_T27 l i=l[i]:=by simp [rd_T27,h]
 rw [List.take_succ_eq_append_getElem h,vecByF_snoc,e]
set_option maxHeartbeats 1000000 in
set_option maxRecDepth 100000 in
theorem vecBy_calls (g:Nat) (op:Int→Int→Int) (eg: ∀args w,(callFunc g args).run Try.prog w= .ok (.enter g args) w) (hop: ∀x y W,Calls Try.prog g #[.int .i64 x, .int .i64 y] W fun e w'=>e= .returned (.int .i64 (op x y))∧w'=W)
    (A:Option Addr) (c:Nat) (l:List S27) (a b d:Int) (w:World) (hr0:Kd.C k27 w A l.length l) (hc0:l.length≤c) (hm:l.length≤maxLen):
    Calls Try.prog 162 #[.func (.func g) #[] #[], .agg #[.int .i64 a, .int .i64 b, .int .i64 d], .slice A l.length c] w fun e w'=>e= .returned (.agg #[.int .i64 (vecByF op l a b d).1, .int .i64 (vecByF op l a b d).2.1, .int .i64 (vecByF op l a b d).2.2])∧Below w.heap.size w w':=by
  have hu27:=Try.underlying27
  have HR0:=Aside0.mk hr0
  have HOP:=Aside0.mk hop
  have HEG:=Aside0.mk eg
  have HBT:=am_ (vecByF_take op l a b d)
  clear hr0 hop eg
  unfold maxLen at hm
  go_enter Try.func162,Try.ntmps162
  go_wp2
  go_loopg [11] l.length (fun kq s11 wr=> ∃i:Nat,i≤l.length∧l.length - i≤kq∧s11= .int .i64 i∧Aside0 (Below w.heap.size w wr)∧Aside0 (wr.heap[w.heap.size]?=some (.cells #[.int .i64 (vecByF op (l.take i) a b d).1, .int .i64 (vecByF op (l.take i) a b d).2.1, .int .i64 (vecByF op (l.take i) a b d).2.2] 27 (0,0)))∧Aside0 (wr.heap[w.heap.size+1]?=some (.cells #[.int .i64 0, .int .i64 0, .int .i64 0] 27 (0,0))))
  case atStart=>
    exact ⟨0,by omega,by omega,rfl,⟨below_alloc (below_alloc (Below.refl _ _) _) _⟩,⟨blk_alloc (blk_new _ _) _⟩,⟨by have:=blk_new (w.alloc (.cells #[.int .i64 a, .int .i64 b, .int .i64 d] 27)) (.cells #[.int .i64 0, .int .i64 0, .int .i64 0] 27);simpa using this⟩⟩
  case round=>
    obtain ⟨i,hi,hg,rfl,HB,HF,HZ⟩:=hrel
    generalize hq:vecByF op (l.take i) a b d=q at HF
    have HQ:=Aside0.mk hq
    clear hq
    by_cases hlt:i<l.length
    rotate_left
    · obtain rfl : i = l.length := by omega
      have hq:q=vecByF op l a b d:=HQ.out.symm.trans (by rw [List.take_length])
      subst hq
      have HQ':=HQ
      clear HQ HBT
      have f0:=(blk_cell HF.out 0).trans rfl
      have f1:=(blk_cell HF.out 1).trans rfl
      have f2:=(blk_cell HF.out 2).trans rfl
      have g0:=(blk_cell HZ.out 0).trans rfl
      have g1:=(blk_cell HZ.out 1).trans rfl
      have g2:=(blk_cell HZ.out 2).trans rfl
      have z0:=blk_frozen HZ.out 0
      have z1:=blk_frozen HZ.out 1
      have z2:=blk_frozen HZ.out 2
      have hs1:w.heap.size+1<wr.heap.size:=blk_lt HZ.out
      go_wp2
      refine bodyPost_ret (results_cell_row rfl _ _ (w.heap.size+1) 27 #[.int .i64 (vecByF op l a b d).1, .int .i64 (vecByF op l a b d).2.1, .int .i64 (vecByF op l a b d).2.2] (0,0) _ rfl (blk_put (blk_put (blk_put HZ.out 0 _ rfl) 1 _ rfl) 2 _ rfl) Try.underlying27 rfl (by kernel_rfl)) rfl ?_
      exact ⟨rfl,below_set (below_set (below_set HB.out (Nat.le_succ _)) (Nat.le_succ _)) (Nat.le_succ _)⟩


    have hltz:(i:Int)<(l.length:Int):=by omega
    obtain ⟨ad,e1,h0,h1,h2⟩:=at_T27 HR0.out (i:Int) (by omega) (by omega)
    cases e1
    simp only [Int.toNat_natCast] at h0 h1 h2
    replace h0:=zx_ HB h0
    replace h1:=zx_ HB h1
    replace h2:=zx_ HB h2
    have hsz:w.heap.size+1<wr.heap.size:=blk_lt HZ.out
    go_wp2
    obtain ⟨W1,hW1⟩: ∃W1,W1=(wr.alloc (.cells #[.int .i64 (rd_T27 l i).f0, .int .i64 (rd_T27 l i).f1, .int .i64 (rd_T27 l i).f2] 27)).drew:=⟨_,rfl⟩
    have hF1:W1.heap[w.heap.size]?=some (.cells #[.int .i64 q.1, .int .i64 q.2.1, .int .i64 q.2.2] 27 (0,0)):=by rw [hW1];exact blk_alloc HF.out _
    have hZ1:W1.heap[w.heap.size+1]?=some (.cells #[.int .i64 0, .int .i64 0, .int .i64 0] 27 (0,0)):=by rw [hW1];exact blk_alloc HZ.out _
    have hV1:W1.heap[wr.heap.size]?=some (.cells #[.int .i64 (rd_T27 l i).f0, .int .i64 (rd_T27 l i).f1, .int .i64 (rd_T27 l i).f2] 27 (0,0)):=by rw [hW1];exact blk_new _ _
    have hB1:Below w.heap.size w W1:=by rw [hW1];exact below_drew (below_alloc HB.out _)
    refine wp_region_still_tail 19 (by kernel_rfl) (by kernel_rfl) ?_
    change wpStill _ _ (World.drew _) _ _ _
    rw [←hW1]
    simp only [List.take_succ_cons,List.take_zero,List.drop_succ_cons,List.drop_zero]
    have HV1:=Aside0.mk hV1
    have HF1:=Aside0.mk hF1
    have HZ1:=Aside0.mk hZ1
    have HB1:=Aside0.mk hB1
    have f0:=(blk_cell hF1 0).trans rfl
    have f1:=(blk_cell hF1 1).trans rfl
    have f2:=(blk_cell hF1 2).trans rfl
    have g0:=(blk_cell hV1 0).trans rfl
    have g1:=(blk_cell hV1 1).trans rfl
    have g2:=(blk_cell hV1 2).trans rfl
    have HW1:=Aside0.mk hW1
    clear hW1 hF1 hZ1 hV1 hB1
    have eg:=HEG.out
    repeat still_step
    still_call (HOP.out _ _ _)
    repeat still_step
    still_call (HOP.out _ _ _)
    repeat still_step
    still_call (HOP.out _ _ _)
    repeat still_step
    refine wpStill_nil ?_
    change wpList _ _ _ _ _ (World.drew _)
    rw [←HW1.out]
    have z0:=blk_frozen HF1.out 0
    have z1:=blk_frozen HF1.out 1
    have z2:=blk_frozen HF1.out 2
    have hs1:w.heap.size<W1.heap.size:=blk_lt HF1.out
    go_wp2
    have hb:=HBT.out i hlt
    rw [HQ.out] at hb
    have HH:=Aside0.mk hb
    clear hb
    go_roundg (l.length - (i+1))
    case measure=>omega
    case rel=>
      refine ⟨i+1,by omega,by omega,by go_num,⟨below_set (below_set (below_set HB1.out (Nat.le_refl _)) (Nat.le_refl _)) (Nat.le_refl _)⟩,⟨?_⟩,⟨blk_far (blk_far (blk_far HZ1.out (by simp) _) (by simp) _) (by simp) _⟩⟩
      rw [HH.out]
      exact blk_put (blk_put (blk_put HF1.out 0 _ rfl) 1 _ rfl) 2 _ rfl
theorem vecAdd1_calls (x y:Int) (W:World):Calls Try.prog 163 #[.int .i64 x, .int .i64 y] W fun e w'=>e= .returned (.int .i64 (wrap64 (x+y)))∧w'=W:=by
 go_enter Try.func163,Try.ntmps163
 go_wp2
 go_ret
 exact ⟨rfl,rfl⟩
def vec_Add.f (l0:List (S27)):Option (Int×Int×Int):=some (vecByF (fun x y=>wrap64 (x+y)) l0 0 0 0)
set_option maxHeartbeats 1000000 in
set_option maxRecDepth 100000 in
theorem vec_Add.calls (A0:Option Addr) (c0:Nat) (l0:List (S27)) (r1:Int) (r2:Int) (r3:Int) (w:World) (hr0:Kd.C k27 w A0 l0.length l0) (hc0:l0.length≤c0) (h:vec_Add.f l0=some (r1,r2,r3)):
  Calls Try.prog 119 #[.slice A0 l0.length c0] w fun e w'=>e= .returned (.agg #[.int .i64 r1, .int .i64 r2, .int .i64 r3])∧Below w.heap.size w w':=by
 have hu27:=Try.underlying27
 have hm:l0.length≤maxLen:=hr0.2.1
 have HC:=am_ (vecBy_calls 163 (fun x y=>wrap64 (x+y)) (enters_of Try.func163 (by kernel_rfl) rfl) vecAdd1_calls A0 c0 l0 0 0 0 (w.alloc (.cells #[.int .i64 0, .int .i64 0, .int .i64 0] 27)) (Kd.C_below hr0 (below_alloc (Below.refl _ _) _)) hc0 hm)
 have HH:=Aside0.mk h
 clear hr0 h
 go_enter Try.func119,Try.ntmps119
 go_wp2_with fail
 refine HC.out.mono ?_
 rintro e w1 ⟨rfl,hb⟩
 have h:=Option.some.inj (show some (vecByF (fun x y=>wrap64 (x+y)) l0 0 0 0)=some (r1,r2,r3) from HH.out)
 rw [h]
 have hZ:=blk_below (blk_new w (.cells #[.int .i64 0, .int .i64 0, .int .i64 0] 27)) hb
 have HB:=Aside0.mk hb
 have HZ:=Aside0.mk hZ
 clear h hb hZ
 have g0:=(blk_cell HZ.out 0).trans rfl
 have g1:=(blk_cell HZ.out 1).trans rfl
 have g2:=(blk_cell HZ.out 2).trans rfl
 have z0:=blk_frozen HZ.out 0
 have z1:=blk_frozen HZ.out 1
 have z2:=blk_frozen HZ.out 2
 have hs1:w.heap.size<w1.heap.size:=blk_lt HZ.out
 go_wp2
 refine bodyPost_ret (results_cell_row rfl _ _ w.heap.size 27 #[.int .i64 r1, .int .i64 r2, .int .i64 r3] (0,0) _ rfl (blk_put (blk_put (blk_put HZ.out 0 _ rfl) 1 _ rfl) 2 _ rfl) Try.underlying27 rfl (by kernel_rfl)) rfl ?_
 exact ⟨rfl,below_set (below_set (below_set (below_step (below_alloc (Below.refl _ _) _) HB.out) (Nat.le_refl _)) (Nat.le_refl _)) (Nat.le_refl _)⟩


theorem vecSub1_calls (x y:Int) (W:World):Calls Try.prog 166 #[.int .i64 x, .int .i64 y] W fun e w'=>e= .returned (.int .i64 (wrap64 (x - y)))∧w'=W:=by
 go_enter Try.func166,Try.ntmps166
 go_wp2
 go_ret
 exact ⟨rfl,rfl⟩
theorem vec_one_row {W:World} {g:Nat} (x:S27) (h:W.heap[g]?=some (.cells #[.int .i64 x.f0, .int .i64 x.f1, .int .i64 x.f2] 27 (0,0))):Kd.C k27 W (some ⟨g,0,none⟩) [x].length [x]:=by
 refine ⟨rfl,by simp,fun _=>⟨_,rfl,fun j p hj=> ?_⟩⟩
 obtain ⟨rfl,rfl⟩:j=0∧x=p:=by
  cases j with
  |zero=>exact ⟨rfl,by simpa using hj⟩
  |succ j=>simp at hj
 refine ⟨_,rfl,k27_mk W x,fun i u hi=> ?_⟩
 rw [Addr.add_lit,blk_cell h,←hi]
 simp
theorem vec_two_row {W:World} {g:Nat} (x y:S27) (h:W.heap[g]?=some (.cells #[.int .i64 x.f0, .int .i64 x.f1, .int .i64 x.f2, .int .i64 y.f0, .int .i64 y.f1, .int .i64 y.f2] 27 (0,0))):Kd.C k27 W (some ⟨g,0,none⟩) [x,y].length [x,y]:=by
  refine ⟨rfl,by simp,fun _=>⟨_,rfl,fun j p hj=> ?_⟩⟩
  match j,hj with
  | 0, hj =>
    obtain rfl:x=p:=by simpa using hj
    refine ⟨_,rfl,k27_mk W x,fun i u hi=> ?_⟩
    rw [Addr.add_lit,blk_cell h]
    match i,hi with
    |0,hi=>exact hi
    |1,hi=>exact hi
    |2,hi=>exact hi
    |i+3,hi=>simp at hi
  | 1, hj =>
    obtain rfl:y=p:=by simpa using hj
    refine ⟨_,rfl,k27_mk W y,fun i u hi=> ?_⟩
    rw [Addr.add_lit,blk_cell h]
    match i,hi with
    |0,hi=>exact hi
    |1,hi=>exact hi
    |2,hi=>exact hi
    |i+3,hi=>simp at hi
  |j+2,hj=>simp at hj
def vec_Sub.f (a0_0:Int) (a0_1:Int) (a0_2:Int) (a1_0:Int) (a1_1:Int) (a1_2:Int):Option (Int×Int×Int):=some (wrap64 (a0_0 - a1_0),wrap64 (a0_1 - a1_1),wrap64 (a0_2 - a1_2))
set_option maxHeartbeats 1000000 in
set_option maxRecDepth 100000 in
theorem vec_Sub.calls (a0_0:Int) (a0_1:Int) (a0_2:Int) (a1_0:Int) (a1_1:Int) (a1_2:Int) (r1:Int) (r2:Int) (r3:Int) (w:World) (h:vec_Sub.f a0_0 a0_1 a0_2 a1_0 a1_1 a1_2=some (r1,r2,r3)):
  Calls Try.prog 134 #[.agg #[.int .i64 a0_0, .int .i64 a0_1, .int .i64 a0_2], .agg #[.int .i64 a1_0, .int .i64 a1_1, .int .i64 a1_2]] w fun e w'=>e= .returned (.agg #[.int .i64 r1, .int .i64 r2, .int .i64 r3])∧Below w.heap.size w w':=by
 have hu27:=Try.underlying27
 have HC:=am_ (fun (W:World) (g:Nat) (hb:W.heap[g]?=some (.cells #[.int .i64 a1_0, .int .i64 a1_1, .int .i64 a1_2] 27 (0,0)))=>vecBy_calls 166 (fun x y=>wrap64 (x - y)) (enters_of Try.func166 (by kernel_rfl) rfl) vecSub1_calls (some ⟨g,0,none⟩) 1 [⟨a1_0,a1_1,a1_2⟩] a0_0 a0_1 a0_2 W (vec_one_row ⟨a1_0,a1_1,a1_2⟩ hb) (Nat.le_refl _) (by simp [maxLen]))
 have HH:=Aside0.mk h
 clear h
 go_enter Try.func134,Try.ntmps134
 go_wp2_with fail
 obtain ⟨w3,hw3⟩: ∃w3,w3=((w.alloc (.cells #[.int .i64 a0_0, .int .i64 a0_1, .int .i64 a0_2] 27)).alloc (.cells #[.int .i64 a1_0, .int .i64 a1_1, .int .i64 a1_2] 27)).alloc (.cells #[.int .i64 0, .int .i64 0, .int .i64 0] 27):=⟨_,rfl⟩
 have hs3:w3.heap.size=w.heap.size+1+1+1:=by rw [hw3];simp
 have hz3:w3.heap[w.heap.size+1+1]?=some (.cells #[.int .i64 0, .int .i64 0, .int .i64 0] 27 (0,0)):=by rw [hw3];have:=blk_new ((w.alloc (.cells #[.int .i64 a0_0, .int .i64 a0_1, .int .i64 a0_2] 27)).alloc (.cells #[.int .i64 a1_0, .int .i64 a1_1, .int .i64 a1_2] 27)) (.cells #[.int .i64 0, .int .i64 0, .int .i64 0] 27);simpa using this
 have hb3:Below w.heap.size w w3:=by rw [hw3];exact below_alloc (below_alloc (below_alloc (Below.refl _ _) _) _) _
 rw [←hw3,←hs3]
 clear hw3
 have hn:=blk_new w3 (.cells #[.int .i64 a1_0, .int .i64 a1_1, .int .i64 a1_2] 27)
 refine (HC.out _ _ hn).mono ?_
 rintro e w1 ⟨rfl,hb⟩
 have h:=Option.some.inj (show some (vecByF (fun x y=>wrap64 (x - y)) [⟨a1_0,a1_1,a1_2⟩] a0_0 a0_1 a0_2)=some (r1,r2,r3) from HH.out)
 rw [h]
 have HB:=am_ (below_step (below_step hb3 (below_alloc (Below.refl _ _) _)) hb)
 have HZ:=am_ (blk_below (blk_alloc hz3 (.cells #[.int .i64 a1_0, .int .i64 a1_1, .int .i64 a1_2] 27)) hb)
 clear h hb hn hb3 hz3 HC
 have HS3:=Aside0.mk hs3
 clear hs3
 have g0:=(blk_cell HZ.out 0).trans rfl
 have g1:=(blk_cell HZ.out 1).trans rfl
 have g2:=(blk_cell HZ.out 2).trans rfl
 have z0:=blk_frozen HZ.out 0
 have z1:=blk_frozen HZ.out 1
 have z2:=blk_frozen HZ.out 2
 have hs1:w.heap.size+1+1<w1.heap.size:=blk_lt HZ.out
 go_wp2
 refine bodyPost_ret (results_cell_row rfl _ _ (w.heap.size+1+1) 27 #[.int .i64 r1, .int .i64 r2, .int .i64 r3] (0,0) _ rfl (blk_put (blk_put (blk_put HZ.out 0 _ rfl) 1 _ rfl) 2 _ rfl) Try.underlying27 rfl (by kernel_rfl)) rfl ?_
 have hle:w.heap.size≤w.heap.size+1+1:=by omega
 exact ⟨rfl,below_set (below_set (below_set HB.out hle) hle) hle⟩


def tree_Up.l0:Nat→List (S31)→List ByteArray→Int→Option (List ByteArray)
 |0,_,_,_=>none
 |k+1,x0,x5,x6=>if x6≥0 then (if (x5.length:Int)≤(x0.length:Int) then (if 0≤x6 then (if x6<(x0.length:Int) then (if x5.length<8796093022208 then ((tree_Find.f x0 ((rd_T31 x0 x6).f1)).bind fun t7=>(tree_Up.l0 k x0 (x5++ [(rd_T31 x0 x6).f0]) t7)) else (none)) else (none)) else (none)) else (some x5)) else (some x5)
def tree_Up.f (k:Nat) (l0:List (S31)) (a1:ByteArray):Option (List ByteArray):=(tree_Find.f l0 a1).bind fun t1=>(tree_Up.l0 k l0 ([]:List ByteArray) t1)
theorem tree_Up.mono_l: ∀k,(∀y0 y1 y2,LeO (tree_Up.l0 k y0 y1 y2) (tree_Up.l0 (k+1) y0 y1 y2))
 |0=>fun _ _ _ r h=>by simp [tree_Up.l0] at h
 |k+1=>by
  have ih0:=tree_Up.mono_l k
  intro y0 y1 y2
  unfold tree_Up.l0
  repeat' first
  |(with_reducible exact ih0 _ _ _)
  |(with_reducible exact LeO.refl _)
  |(with_reducible exact LeO.none _)
  |(with_reducible refine LeO.ite ?_ ?_)
  |(with_reducible refine LeO.bind ?_ (fun _=> ?_))
  |exact ih0 _ _ _
  |exact LeO.none _
  |refine LeO.ite ?_ ?_
  |refine LeO.bind ?_ (fun _=> ?_)
theorem tree_Up.mono: ∀a0 a1 k,LeO (tree_Up.f k a0 a1) (tree_Up.f (k+1) a0 a1):=by
 intro a0 a1 k
 have ih0:=tree_Up.mono_l k
 unfold tree_Up.f
 repeat' first
  |(with_reducible exact ih0 _ _ _)
  |(with_reducible exact LeO.refl _)
  |(with_reducible exact LeO.none _)
  |(with_reducible refine LeO.ite ?_ ?_)
  |(with_reducible refine LeO.bind ?_ (fun _=> ?_))
  |exact ih0 _ _ _
  |exact LeO.none _
  |refine LeO.ite ?_ ?_
  |refine LeO.bind ?_ (fun _=> ?_)
set_option maxHeartbeats 8000000 in
set_option maxRecDepth 100000 in
theorem tree_Up.calls (k:Nat) (A0:Option Addr) (c0:Nat) (l0:List (S31)) (a1:ByteArray) (r:List ByteArray) (w:World) (hr0:Kd.C k31 w A0 l0.length l0) (hc0:l0.length≤c0) (h:tree_Up.f k l0 a1=some r):
  Calls Try.prog 70 #[.slice A0 l0.length c0, .string a1] w fun e w'=> ∃v0_:Value,e= .returned (v0_)∧Kd.R Kd.string 9 w' w.heap.size (fun _=>True) v0_ r∧Below w.heap.size w w':=by
 have HR0:=Aside0.mk hr0
 have HC0:=Aside0.mk hc0
 clear hr0 hc0
 have HB:=am_ (Below.refl w.heap.size w)
 have H:((tree_Find.f l0 a1).bind fun t1=>(tree_Up.l0 k l0 ([]:List ByteArray) t1))=some r:=h
 clear h
 replace H:=Option.bind_eq_some_iff.mp H
 obtain ⟨t1,A30,H⟩:=H
 try dsimp only at H
 have A3:=Aside0.mk A30
 clear A30
 have H':=Aside0.mk H
 clear H
 go_enter Try.func70,Try.ntmps70
 go_wp2_with (first|((with_reducible refine gate_callee (f:=71) rfl ?_);refine gl_ (some 9) Try.func71 #[.slice A0 l0.length c0, .string a1] ?_;(with_reducible refine (tree_Find.calls _ _ l0 a1 t1 _ ?side1 ?side2 A3.out).mono ?_);(case side1=>repeat (first|exact HR0.out|(with_reducible refine Kd.C_alloc ?_ _)|(with_reducible refine Kd.C_drewN ?_ _)|(with_reducible refine Kd.C_drew ?_)));(case side2=>exact HC0.out);rintro e w4 ⟨rfl,hb⟩;refine ⟨_,rfl, ?_⟩;replace HB:=am_ (below_step (zl0_ HB) hb);(try clear hb);(try clear hb2);(try clear hk);(try clear hi)))
 go_loopg [5,6] k (fun kq v5 v6 w'=> ∃(x5_1:List ByteArray) (x6_1:Int),v6= .int .i64 x6_1∧Aside0 (tree_Up.l0 kq l0 x5_1 x6_1=some r)∧Aside0 (kq≤k)∧Aside0 (Kd.R Kd.string 9 w' w.heap.size (fun _=>True) v5 x5_1)∧Aside0 (Below w.heap.size w w'))
 case atStart=>exact ⟨(([]:List ByteArray)),(t1),(by first|rfl|(simp;done)|(simp [*];done)),H',⟨Nat.le_refl _⟩,⟨by first|exact Kd.R_nil _ _ _ _ _|exact Kd.N_nil _ _ _ _ _|exact Kd.V_nil _ _ _ _ _|exact Kd.Q_nil _ _ _ _ _|exact Kd.S_nil _ _ _ _ _⟩,⟨zl0_ HB⟩⟩
 case round=>
  clear H'
  try clear p2
  obtain ⟨x5_1,x6_1,rfl,HA,HK1,HO_5,HB⟩:=hrel
  cases gk with
  |zero=>exact absurd HA.out (by simp [tree_Up.l0])
  |succ k1=>
   have H:=HA.out
   clear HA
   simp only [tree_Up.l0] at H
   by_cases c5:x6_1≥0
   rotate_left
   ·rw [if_neg c5] at H
    have c5b0:decide (0≤x6_1)=false:=decide_eq_false c5
    clear c5
    obtain rfl:=Option.some.inj H
    go_wp2
    go_ret
    exact ⟨_,by first|rfl|(simp [errW_none,errW_some]<;>rfl)|(simp [*,errW_none,errW_some]<;>rfl),by (with_reducible repeat (first|apply Kd.R_alloc|apply Kd.R_drewN|apply Kd.R_drew));exact HO_5.out,zl0_ HB⟩

   rw [if_pos c5] at H
   have c5b0:decide (0≤x6_1)=true:=decide_eq_true c5
   clear c5
   by_cases c6:(x5_1.length:Int)≤(l0.length:Int)
   rotate_left
   ·rw [if_neg c6] at H
    have c6b0:decide ((x5_1.length:Int)≤(l0.length:Int))=false:=decide_eq_false c6
    have c6b1:decide (x5_1.length≤l0.length)=false:=decide_eq_false (fun h=>c6 (Int.ofNat_le.mpr h))
    clear c6
    obtain rfl:=Option.some.inj H
    obtain ⟨Ao14,co14,eo14⟩:=Kd.R_slice HO_5.out
    subst eo14
    go_wp2
    go_ret
    exact ⟨_,by first|rfl|(simp [errW_none,errW_some]<;>rfl)|(simp [*,errW_none,errW_some]<;>rfl),by (with_reducible repeat (first|apply Kd.R_alloc|apply Kd.R_drewN|apply Kd.R_drew));exact HO_5.out,zl0_ HB⟩
   rw [if_pos c6] at H
   have c6b0:decide ((x5_1.length:Int)≤(l0.length:Int))=true:=decide_eq_true c6
   have c6b1:decide (x5_1.length≤l0.length)=true:=decide_eq_true (Int.ofNat_le.mp c6)
   clear c6
   by_cases c7:0≤x6_1
   rotate_left
   ·rw [if_neg c7] at H
    exact absurd H (by simp)
   rw [if_pos c7] at H
   have c7b0:decide (0≤x6_1)=true:=decide_eq_true c7
   clear c7
   by_cases c8:x6_1<(l0.length:Int)
   rotate_left
   ·rw [if_neg c8] at H
    exact absurd H (by simp)
   rw [if_pos c8] at H
   have c8b0:decide (x6_1<(l0.length:Int))=true:=decide_eq_true c8
   clear c8
   by_cases c9:x5_1.length<8796093022208
   rotate_left
   ·rw [if_neg c9] at H
    exact absurd H (by simp)
   rw [if_pos c9] at H
   have LMc9:=Aside0.mk c9
   clear c9
   obtain ⟨y3,hy3⟩: ∃y_:List ByteArray,y_=(x5_1++ [(rd_T31 l0 x6_1).f0]):=⟨_,rfl⟩
   replace H:((tree_Find.f l0 ((rd_T31 l0 x6_1).f1)).bind fun t7=>(tree_Up.l0 k1 l0 y3 t7))=some r:=by first|(rw [hy3];with_reducible exact H)|(have H2_:=(Option.bind_some _ _).symm.trans H;rw [hy3];with_reducible exact H2_)|(have H2_:=(Option.bind_some _ _).symm.trans H;with_reducible exact H2_)|with_reducible exact H|(rw [hy3];exact H)|exact H
   have Ny3:=Aside0.mk hy3
   clear hy3
   replace H:=Option.bind_eq_some_iff.mp H
   obtain ⟨t7,A100,H⟩:=H
   try dsimp only at H
   have A10:=Aside0.mk A100
   clear A100
   have H':=Aside0.mk H
   clear H
   obtain ⟨Ao11,co11,eo11⟩:=Kd.R_slice HO_5.out
   subst eo11
   have p2:0≤(x6_1:Int):=of_decide_eq_true zq_
   have q2:x6_1<(l0.length:Int):=of_decide_eq_true zq_
   obtain ⟨ad2,e2,hx2_0,hx2_1,hx2_2,hx2_3,hx2_4,hx2_5,hx2_6,hx2_7,hx2_8,hx2_9,hx2_10,hx2_11⟩:=at_T31 HR0.out x6_1 p2 q2
   cases e2
   replace hx2_0:=zx_ HB hx2_0
   replace hx2_1:=zx_ HB hx2_1
   replace hx2_2:=zx_ HB hx2_2
   replace hx2_3:=zx_ HB hx2_3
   replace hx2_4:=zx_ HB hx2_4
   replace hx2_5:=zx_ HB hx2_5
   replace hx2_6:=zx_ HB hx2_6
   replace hx2_7:=zx_ HB hx2_7
   replace hx2_8:=zx_ HB hx2_8
   replace hx2_9:=zx_ HB hx2_9
   replace hx2_10:=zx_ HB hx2_10
   replace hx2_11:=zx_ HB hx2_11
   replace p2:=eq_true p2
   replace q2:=eq_true q2
   go_wp2_with (first|((with_reducible refine gate_builtin (b:= .append) (xs:=#[.tmp 26, .tmp 32]) rfl ?_);(try (refine gate_guard (by rfl) ?_;dsimp only));at_builtin;refine Kd.R_append Kd.string (w0:=w) w.heap.size rfl (.tmp 26) (.tmp 32) 74 9 (.string ⟨#[]⟩) 16 rfl Try.underlying74 info9 rfl (by decide) (by omega) (.slice Ao11 x5_1.length co11) x5_1 ((rd_T31 l0 x6_1).f0) [.string ((rd_T31 l0 x6_1).f0)] (fun _=>True) (fun _=>False) rfl rfl ?aP (fun _ hk=>hk.elim) ?aF ?aO ?aB ?aS ?aL ?_;(case aP=>exact rfl);(case aB=>exact (zl0_ HB));(case aF=>exact (fun _ _=>trivial));(case aO=>exact (zr_ HO_5));(case aS=>exact (below_size (zl0_ HB)));(case aL=>have:=LMc9.out;omega);intro v4 w12 ho hb hg hat;rw [←Ny3.out] at ho;have n0_:=am_ (hb);have n1_:=am_ (ho);clear HB;clear HO_5;have HB:=n0_;have HO5:=n1_;clear n0_ n1_;clear ho hb hg hat;have p6:0≤(x6_1:Int):=of_decide_eq_true zq_;have q6:x6_1<(l0.length:Int):=of_decide_eq_true zq_;obtain ⟨ad6,e6,hx6_0,hx6_1,hx6_2,hx6_3,hx6_4,hx6_5,hx6_6,hx6_7,hx6_8,hx6_9,hx6_10,hx6_11⟩:=at_T31 HR0.out x6_1 p6 q6;obtain rfl:ad2=ad6:=(by injection e6);replace hx6_0:=zx_ HB hx6_0;replace hx6_1:=zx_ HB hx6_1;replace hx6_2:=zx_ HB hx6_2;replace hx6_3:=zx_ HB hx6_3;replace hx6_4:=zx_ HB hx6_4;replace hx6_5:=zx_ HB hx6_5;replace hx6_6:=zx_ HB hx6_6;replace hx6_7:=zx_ HB hx6_7;replace hx6_8:=zx_ HB hx6_8;replace hx6_9:=zx_ HB hx6_9;replace hx6_10:=zx_ HB hx6_10;replace hx6_11:=zx_ HB hx6_11;replace p6:=eq_true p6;replace q6:=eq_true q6)|((with_reducible refine gate_callee (f:=71) rfl ?_);refine gl_ (some 25) Try.func71 #[.slice (some ad2) l0.length c0, .string ((rd_T31 l0 x6_1).f1)] ?_;(with_reducible refine (tree_Find.calls _ _ l0 ((rd_T31 l0 x6_1).f1) t7 _ ?side1 ?side2 A10.out).mono ?_);(case side1=>exact zc_ (Kd.C_below HR0.out HB.out));(case side2=>exact HC0.out);rintro e w13 ⟨rfl,hb⟩;refine ⟨_,rfl, ?_⟩;replace HO5:=am_ (Kd.R_below (zr_ HO5) hb);replace HB:=am_ (below_step (zl0_ HB) hb);(try clear hb);(try clear hb2);(try clear hk);(try clear hi)))
   go_roundg k1
   case measure=>have:=HK1.out;omega
   case rel=>exact ⟨(y3),(t7),(by first|rfl|(simp;done)|(simp [*];done)),H',⟨by have:=HK1.out;omega⟩,⟨by (with_reducible repeat (first|apply Kd.R_alloc|apply Kd.R_drewN|apply Kd.R_drew));exact HO5.out⟩,⟨zl0_ HB⟩⟩
theorem at_str {w:World} {A:Option Addr} {n:Nat} {xs:List ByteArray} (h:Kd.C Kd.string w A n xs) (i:Int) (h0:0≤i) (h1:i<n): ∃ad,A=some ad∧w.cell? (ad.add i.toNat)=some (.string (rdOf ByteArray.empty xs i)):=by
 obtain ⟨ad,c,e,_,hK,hc⟩:=Kd.C_get h ByteArray.empty i h0 h1
 have hc0: ∀j u,c[j]?=some u→w.cell? (ad.add (i.toNat*1+j))=some u:=hc
 obtain rfl:c=[.string (xs.getD i.toNat ByteArray.empty)]:=hK
 have:=hc0 0 _ rfl
 rw [Nat.mul_one,Nat.add_zero] at this
 exact ⟨ad,e,this⟩
-- uses fidx
def slices_Index_string_string.l0:Nat→List ByteArray→ByteArray→Int→Int→Option (Int)
 |0,_,_,_,_=>none
 |k+1,x0,x1,x7,x8=>if x8<x7 then (if 0≤x8 then (if x8<(x0.length:Int) then (if x1.toList=(rdOf ByteArray.empty x0 x8).toList then (some x8) else (slices_Index_string_string.l0 k x0 x1 x7 (wrap64 (x8+1)))) else (none)) else (none)) else (some (-1))
def slices_Index_string_string.f (k:Nat) (l0:List ByteArray) (a1:ByteArray):Option (Int):=slices_Index_string_string.l0 k l0 a1 (l0.length:Int) 0
theorem slices_Index_string_string.mono_l: ∀k,(∀y0 y1 y2 y3,LeO (slices_Index_string_string.l0 k y0 y1 y2 y3) (slices_Index_string_string.l0 (k+1) y0 y1 y2 y3))
 |0=>fun _ _ _ _ r h=>by simp [slices_Index_string_string.l0] at h
 |k+1=>by
  have ih0:=slices_Index_string_string.mono_l k
  intro y0 y1 y2 y3
  unfold slices_Index_string_string.l0
  repeat' first
  |(with_reducible exact ih0 _ _ _ _)
  |(with_reducible exact LeO.refl _)
  |(with_reducible exact LeO.none _)
  |(with_reducible refine LeO.ite ?_ ?_)
  |(with_reducible refine LeO.bind ?_ (fun _=> ?_))
  |exact ih0 _ _ _ _
  |exact LeO.none _
  |refine LeO.ite ?_ ?_
  |refine LeO.bind ?_ (fun _=> ?_)
theorem slices_Index_string_string.mono: ∀a0 a1 k,LeO (slices_Index_string_string.f k a0 a1) (slices_Index_string_string.f (k+1) a0 a1):=by
 intro a0 a1 k
 have ih0:=slices_Index_string_string.mono_l k
 unfold slices_Index_string_string.f
 repeat' first
  |(with_reducible exact ih0 _ _ _ _)
  |(with_reducible exact LeO.refl _)
  |(with_reducible exact LeO.none _)
  |(with_reducible refine LeO.ite ?_ ?_)
  |(with_reducible refine LeO.bind ?_ (fun _=> ?_))
  |exact ih0 _ _ _ _
  |exact LeO.none _
  |refine LeO.ite ?_ ?_
  |refine LeO.bind ?_ (fun _=> ?_)
set_option maxHeartbeats 8000000 in
set_option maxRecDepth 100000 in
theorem slices_Index_string_string.calls (k:Nat) (A0:Option Addr) (c0:Nat) (l0:List ByteArray) (a1:ByteArray) (r:Int) (w:World) (hr0:Kd.C Kd.string w A0 l0.length l0) (hc0:l0.length≤c0) (h:slices_Index_string_string.f k l0 a1=some r):
  Calls Try.prog 165 #[.slice A0 l0.length c0, .string a1] w fun e w'=>e= .returned (.int .i64 r)∧Drawn0 w w':=by
 have HR0:=Aside0.mk hr0
 have HC0:=Aside0.mk hc0
 clear hr0 hc0
 have H:(slices_Index_string_string.l0 k l0 a1 (l0.length:Int) 0)=some r:=h
 clear h
 have H':=Aside0.mk H
 clear H
 go_enter Try.func165,Try.ntmps165
 go_wp2
 go_loopg [8] k (fun kq v8 w'=> ∃(x8_1:Int),v8= .int .i64 x8_1∧Aside0 (slices_Index_string_string.l0 kq l0 a1 (l0.length:Int) x8_1=some r)∧Aside0 (kq≤k)∧Drawn0 w w')
 case atStart=>exact ⟨(0),(by first|rfl|(simp;done)|(simp [*];done)),H',⟨Nat.le_refl _⟩,by repeat (first|exact Drawn0.refl _|apply Drawn0.step)⟩
 case round=>
  clear H'
  try clear c1
  try clear p2
  obtain ⟨x8_1,rfl,HA,HK1,⟨m1,rfl⟩⟩:=hrel
  cases gk with
  |zero=>exact absurd HA.out (by simp [slices_Index_string_string.l0])
  |succ k1=>
   have H:=HA.out
   clear HA
   simp only [slices_Index_string_string.l0] at H
   by_cases c3:x8_1<(l0.length:Int)
   rotate_left
   ·rw [if_neg c3] at H
    have c3b0:decide (x8_1<(l0.length:Int))=false:=decide_eq_false c3
    clear c3
    obtain rfl:=Option.some.inj H
    go_wp2
    go_ret
    exact ⟨by first|rfl|(simp;done)|(simp [*];done),by repeat (first|exact Drawn0.refl _|apply Drawn0.step)⟩

   rw [if_pos c3] at H
   have c3b0:decide (x8_1<(l0.length:Int))=true:=decide_eq_true c3
   clear c3
   by_cases c4:0≤x8_1
   rotate_left
   ·rw [if_neg c4] at H
    exact absurd H (by simp)
   rw [if_pos c4] at H
   have c4b0:decide (0≤x8_1)=true:=decide_eq_true c4
   clear c4
   by_cases c5:x8_1<(l0.length:Int)
   rotate_left
   ·rw [if_neg c5] at H
    exact absurd H (by simp)
   rw [if_pos c5] at H
   have c5b0:decide (x8_1<(l0.length:Int))=true:=decide_eq_true c5
   clear c5
   by_cases c6:a1.toList=(rdOf ByteArray.empty l0 x8_1).toList
   ·rw [if_pos c6] at H
    have c6b0:(a1.toList==(rdOf ByteArray.empty l0 x8_1).toList)=true:=beq_iff_eq.mpr c6
    have c6b1:(a1.toList !=(rdOf ByteArray.empty l0 x8_1).toList)=false:=bne_eq_false_iff_eq.mpr c6
    clear c6
    obtain rfl:=Option.some.inj H
    have p1:0≤(x8_1:Int):=of_decide_eq_true zq_
    have q1:x8_1<(l0.length:Int):=of_decide_eq_true zq_
    obtain ⟨ad1,e1,hx1_0⟩:=Kd.at_string HR0.out x8_1 p1 q1
    cases e1
    replace p1:=eq_true p1
    replace q1:=eq_true q1
    go_wp2
    go_ret
    exact ⟨by first|rfl|(simp;done)|(simp [*];done),by repeat (first|exact Drawn0.refl _|apply Drawn0.step)⟩
   rw [if_neg c6] at H
   have c6b0:(a1.toList==(rdOf ByteArray.empty l0 x8_1).toList)=false:=beq_eq_false_iff_ne.mpr c6
   have c6b1:(a1.toList !=(rdOf ByteArray.empty l0 x8_1).toList)=true:=bne_iff_ne.mpr c6
   have H':=Aside0.mk H
   clear H
   have p1:0≤(x8_1:Int):=of_decide_eq_true zq_
   have q1:x8_1<(l0.length:Int):=of_decide_eq_true zq_
   obtain ⟨ad1,e1,hx1_0⟩:=Kd.at_string HR0.out x8_1 p1 q1
   cases e1
   replace p1:=eq_true p1
   replace q1:=eq_true q1
   go_wp2
   go_roundg k1
   case measure=>have:=HK1.out;omega
   case rel=>exact ⟨(wrap64 (x8_1+1)),(by first|rfl|(simp;done)|(simp [*];done)),H',⟨by have:=HK1.out;omega⟩,by repeat (first|exact Drawn0.refl _|apply Drawn0.step)⟩
def slices_Contains_string_string.f (k:Nat) (l0:List ByteArray) (a1:ByteArray):Option (Bool):=(slices_Index_string_string.f k l0 a1).bind fun t1=>(some (decide (t1≥0)))
theorem slices_Contains_string_string.mono: ∀a0 a1 k,LeO (slices_Contains_string_string.f k a0 a1) (slices_Contains_string_string.f (k+1) a0 a1):=by
 intro a0 a1 k
 unfold slices_Contains_string_string.f
 repeat' first
  |(with_reducible exact slices_Index_string_string.mono _ _ _)
  |(with_reducible exact LeO.refl _)
  |(with_reducible exact LeO.none _)
  |(with_reducible refine LeO.ite ?_ ?_)
  |(with_reducible refine LeO.bind ?_ (fun _=> ?_))
  |exact slices_Index_string_string.mono _ _ _
  |exact LeO.none _
  |refine LeO.ite ?_ ?_
  |refine LeO.bind ?_ (fun _=> ?_)
set_option maxHeartbeats 8000000 in
set_option maxRecDepth 100000 in
theorem slices_Contains_string_string.calls (k:Nat) (A0:Option Addr) (c0:Nat) (l0:List ByteArray) (a1:ByteArray) (r:Bool) (w:World) (hr0:Kd.C Kd.string w A0 l0.length l0) (hc0:l0.length≤c0) (h:slices_Contains_string_string.f k l0 a1=some r):
  Calls Try.prog 131 #[.slice A0 l0.length c0, .string a1] w fun e w'=>e= .returned (.bool r)∧Drawn0 w w':=by
 have HR0:=Aside0.mk hr0
 have HC0:=Aside0.mk hc0
 clear hr0 hc0
 have H:((slices_Index_string_string.f k l0 a1).bind fun t1=>(some (decide (t1≥0))))=some r:=h
 clear h
 replace H:=Option.bind_eq_some_iff.mp H
 obtain ⟨t1,A30,H⟩:=H
 try dsimp only at H
 have A3:=Aside0.mk A30
 clear A30
 obtain rfl:=Option.some.inj H
 go_enter Try.func131,Try.ntmps131
 go_wp2_with (first|((with_reducible refine gate_callee (f:=165) rfl ?_);refine gl_ (some 7) Try.func165 #[.slice A0 l0.length c0, .string a1] ?_;(with_reducible refine (slices_Index_string_string.calls k _ _ l0 a1 t1 _ ?side1 ?side2 A3.out).mono ?_);(case side1=>repeat (first|exact HR0.out|(with_reducible refine Kd.C_alloc ?_ _)|(with_reducible refine Kd.C_drewN ?_ _)|(with_reducible refine Kd.C_drew ?_)));(case side2=>exact HC0.out);rintro e w' ⟨rfl,⟨nd,rfl⟩⟩;refine ⟨_,rfl, ?_⟩))
 go_ret
 exact ⟨by first|rfl|(simp;done)|(simp [*];done),by repeat (first|exact Drawn0.refl _|apply Drawn0.step)⟩

def r10_copied.f (l0:List (S31)):Option ((List (S31))):=(some (([]:List (S31)):List (S31))).bind fun y1=>(if y1.length+l0.length<1256584717458 then (some (y1++l0)) else (none))
set_option maxHeartbeats 8000000 in
set_option maxRecDepth 100000 in
theorem r10_copied.calls (A0:Option Addr) (c0:Nat) (l0:List (S31)) (r:List (S31)) (w:World) (hr0:Kd.C k31 w A0 l0.length l0) (hc0:l0.length≤c0) (h:r10_copied.f l0=some r):
  Calls Try.prog 124 #[.slice A0 l0.length c0] w fun e w'=> ∃v0_:Value,e= .returned (v0_)∧Kd.R k31 31 w' w.heap.size (fun _=>True) v0_ r∧Below w.heap.size w w':=by
 have HR0:=Aside0.mk hr0
 have HC0:=Aside0.mk hc0
 clear hr0 hc0
 have HB:=am_ (Below.refl w.heap.size w)
 have H:((some (([]:List (S31)):List (S31))).bind fun y1=>(if y1.length+l0.length<1256584717458 then (some (y1++l0)) else (none)))=some r:=h
 clear h
 obtain ⟨y1,hy1⟩: ∃y_:List (S31),y_=(([]:List (S31))):=⟨_,rfl⟩
 replace H:(if y1.length+l0.length<1256584717458 then (some (y1++l0)) else (none))=some r:=by first|(rw [hy1];with_reducible exact H)|(have H2_:=(Option.bind_some _ _).symm.trans H;rw [hy1];with_reducible exact H2_)|(have H2_:=(Option.bind_some _ _).symm.trans H;with_reducible exact H2_)|with_reducible exact H|(rw [hy1];exact H)|exact H
 have Ny1:=Aside0.mk hy1
 clear hy1
 by_cases c2:y1.length+l0.length<1256584717458
 rotate_left
 ·rw [if_neg c2] at H
  exact absurd H (by simp)

 rw [if_pos c2] at H
 have LMc2:=Aside0.mk c2
 clear c2
 obtain ⟨y4,hy4⟩: ∃y_:List (S31),y_=(y1++l0):=⟨_,rfl⟩
 replace H:(some y4)=some r:=by first|(rw [hy4];with_reducible exact H)|(have H2_:=(Option.bind_some _ _).symm.trans H;rw [hy4];with_reducible exact H2_)|(have H2_:=(Option.bind_some _ _).symm.trans H;with_reducible exact H2_)|with_reducible exact H|(rw [hy4];exact H)|exact H
 have Ny4:=Aside0.mk hy4
 clear hy4
 obtain rfl:=Option.some.inj H
 go_enter Try.func124,Try.ntmps124
 go_wp2_with (first|((with_reducible refine gate_dst (N:=3) rfl ?_);refine Kd.R_lit k31 _ 31 ?hg (N:=3) ?hd (xs:=([]:List (S31))) (inner:=[]) (ok:=fun _=>True) (okp:=fun _=>True) ?hr ?hp (fun _ hk=>hk) trivial (Below.refl _ _) (Nat.le_refl _) (by simp) ?_;(case hd=>rfl);(case hg=>rfl);(case hr=>first|(go_simp;done)|(go_simp;rfl));(case hp=>exact (Reps.none _ _));intro v2 w3 ho4 hb hg_ hnew_;clear hg_ hnew_;(first|rw [←Ny1.out] at ho4|(simp only [Int.reduceToNat] at ho4;rw [←Ny1.out] at ho4));have HO3:=am_ (Kd.R_lower ho4 (below_size (zl0_ HB)));replace HB:=am_ (below_step (zl0_ HB) hb);clear hb ho4)|((with_reducible refine gate_builtin (b:= .append) (xs:=#[.tmp 3, .tmp 4]) rfl ?_);at_builtin;refine Kd.R_append_rows k31 (w0:=w) w.heap.size rfl (.tmp 3) (.tmp 4) 24 31 (.agg #[(.string ⟨#[]⟩),(.string ⟨#[]⟩),(.int .i64 0),(.int .i64 0),(.int .i64 0),(.int .i64 0),(.int .i64 0),(.int .i64 0),(.int .i64 0),(.int .i64 0),(.int .i64 0),(.int .i64 0)]) 112 rfl Try.underlying24 info31 rfl (by decide) (by omega) v2 y1 l0 _ _ _ (fun _=>True) (fun _=>False) rfl rfl ?aO ?aR (fun _ _ h=>h) (fun _ h=>h.elim) ?aF ?aB ?aS ?aL ?_;(case aR=>repeat (first|exact (Kd.C_below HR0.out HB.out)|(with_reducible refine Kd.C_alloc ?_ _)|(with_reducible refine Kd.C_drewN ?_ _)|(with_reducible refine Kd.C_drew ?_)));(case aB=>exact (zl0_ HB));(case aF=>exact (fun _ _=>trivial));(case aO=>exact (zr_ HO3));(case aS=>exact (below_size (zl0_ HB)));(case aL=>have:=LMc2.out;omega);intro v5 w5 ho hb hg hat;rw [←Ny4.out] at ho;have n0_:=am_ (hb);have n1_:=am_ (ho);clear HB;clear HO3;have HB:=n0_;have HO6:=n1_;clear n0_ n1_;clear ho hb hg hat))
 go_ret
 exact ⟨_,by first|rfl|(simp [errW_none,errW_some]<;>rfl)|(simp [*,errW_none,errW_some]<;>rfl),by (with_reducible repeat (first|apply Kd.R_alloc|apply Kd.R_drewN|apply Kd.R_drew));exact HO6.out,zl0_ HB⟩
def r10_no.f (a0:Int):Option ((List (S31))×Int):=some (([]:List (S31)),a0)
set_option maxHeartbeats 8000000 in
set_option maxRecDepth 100000 in
theorem r10_no.calls (a0:Int) (r1:List (S31)) (r2:Int) (w:World) (h:r10_no.f a0=some (r1,r2)):
  Calls Try.prog 113 #[.int .i64 a0] w fun e w'=> ∃v0_:Value,e= .returned (.agg #[v0_, .int .i64 r2])∧Kd.R k31 31 w' w.heap.size (fun _=>True) v0_ r1∧Below w.heap.size w w':=by
 have hu67:=Try.underlying67
 have HB:=am_ (Below.refl w.heap.size w)
 have H:(some (([]:List (S31)),a0))=some (r1,r2):=h
 clear h
 simp only [Option.some.injEq,Prod.mk.injEq] at H
 obtain ⟨rfl,rfl⟩:=H
 go_enter Try.func113,Try.ntmps113
 go_wp2_with (first|((with_reducible refine gate_dst (N:=2) rfl ?_);refine bx_ (N:=2) (cs:=#[.slice none 0 0, .int .i64 0]) (t:=67) ?_;intro gb1 hg w2 hbox hb;have BK1:=am_ (hbox);have GW1:=am_ ((zg0_ HB hg:w.heap.size≤gb1));have GE1:=am_ ((zg0_ HB hg:w.heap.size≤gb1));replace HB:=am_ (below_step (zl0_ HB) hb);clear hb hbox hg;obtain ⟨hcz3_0,hcz3_1⟩:=x2_ BK1;have hfz3_0:=blk_frozen BK1.out 0;have hfz3_1:=blk_frozen BK1.out 1))
 refine bodyPost_ret (results_cell_row rfl _ _ gb1 67 #[.slice none 0 0, .int .i64 a0] (0,0) _ rfl (zw_ BK1) Try.underlying67 rfl (by kernel_rfl)) rfl ?_
 exact ⟨_,by first|rfl|(simp [errW_none,errW_some]<;>rfl)|(simp [*,errW_none,errW_some]<;>rfl),by first|exact Kd.R_nil _ _ _ _ _|exact Kd.N_nil _ _ _ _ _|exact Kd.V_nil _ _ _ _ _|exact Kd.Q_nil _ _ _ _ _|exact Kd.S_nil _ _ _ _ _,zl1_ HB GE1⟩

def r10_old.f (k:Nat) (l0:List (S31)) (a1:ByteArray) (a2:Int):Option (Int):=(r10_Find.f k l0 a1).bind fun t1=>(if t1<0 then (some 2) else (if a2≥0 then (if 0≤t1 then (if t1<(l0.length:Int) then (if ((rd_T31 l0 t1).f5)=a2 then (some 0) else (some 14)) else (none)) else (none)) else (some 0)))
theorem r10_old.mono: ∀a0 a1 a2 k,LeO (r10_old.f k a0 a1 a2) (r10_old.f (k+1) a0 a1 a2):=by
 intro a0 a1 a2 k
 unfold r10_old.f
 repeat' first
  |(with_reducible exact r10_Find.mono _ _ _)
  |(with_reducible exact LeO.refl _)
  |(with_reducible exact LeO.none _)
  |(with_reducible refine LeO.ite ?_ ?_)
  |(with_reducible refine LeO.bind ?_ (fun _=> ?_))
  |exact r10_Find.mono _ _ _
  |exact LeO.none _
  |refine LeO.ite ?_ ?_
  |refine LeO.bind ?_ (fun _=> ?_)
set_option maxHeartbeats 8000000 in
set_option maxRecDepth 100000 in
theorem r10_old.calls (k:Nat) (A0:Option Addr) (c0:Nat) (l0:List (S31)) (a1:ByteArray) (a2:Int) (r:Int) (w:World) (hr0:Kd.C k31 w A0 l0.length l0) (hc0:l0.length≤c0) (h:r10_old.f k l0 a1 a2=some r):
  Calls Try.prog 147 #[.slice A0 l0.length c0, .string a1, .int .i64 a2] w fun e w'=>e= .returned (.int .i64 r)∧Drawn0 w w':=by
 have HR0:=Aside0.mk hr0
 have HC0:=Aside0.mk hc0
 clear hr0 hc0
 have H:((r10_Find.f k l0 a1).bind fun t1=>(if t1<0 then (some 2) else (if a2≥0 then (if 0≤t1 then (if t1<(l0.length:Int) then (if ((rd_T31 l0 t1).f5)=a2 then (some 0) else (some 14)) else (none)) else (none)) else (some 0))))=some r:=h
 clear h
 replace H:=Option.bind_eq_some_iff.mp H
 obtain ⟨t1,A40,H⟩:=H
 try dsimp only at H
 have A4:=Aside0.mk A40
 clear A40
 by_cases c5:t1<0
 ·rw [if_pos c5] at H
  have c5b0:decide (t1<0)=true:=decide_eq_true c5
  clear c5
  obtain rfl:=Option.some.inj H
  go_enter Try.func147,Try.ntmps147
  go_wp2_with (first|((with_reducible refine gate_callee (f:=50) rfl ?_);refine gl_ (some 10) Try.func50 #[.slice A0 l0.length c0, .string a1] ?_;(with_reducible refine (r10_Find.calls k _ _ l0 a1 t1 _ ?side1 ?side2 A4.out).mono ?_);(case side1=>repeat (first|exact HR0.out|(with_reducible refine Kd.C_alloc ?_ _)|(with_reducible refine Kd.C_drewN ?_ _)|(with_reducible refine Kd.C_drew ?_)));(case side2=>exact HC0.out);rintro e w' ⟨rfl,⟨nd,rfl⟩⟩;refine ⟨_,rfl, ?_⟩))
  go_ret
  exact ⟨by first|rfl|(simp;done)|(simp [*];done),by repeat (first|exact Drawn0.refl _|apply Drawn0.step)⟩
 rw [if_neg c5] at H
 have c5b0:decide (t1<0)=false:=decide_eq_false c5
 clear c5
 by_cases c6:a2≥0
 rotate_left
 ·rw [if_neg c6] at H
  have c6b0:decide (0≤a2)=false:=decide_eq_false c6
  clear c6
  obtain rfl:=Option.some.inj H
  go_enter Try.func147,Try.ntmps147
  go_wp2_with (first|((with_reducible refine gate_callee (f:=50) rfl ?_);refine gl_ (some 10) Try.func50 #[.slice A0 l0.length c0, .string a1] ?_;(with_reducible refine (r10_Find.calls k _ _ l0 a1 t1 _ ?side1 ?side2 A4.out).mono ?_);(case side1=>repeat (first|exact HR0.out|(with_reducible refine Kd.C_alloc ?_ _)|(with_reducible refine Kd.C_drewN ?_ _)|(with_reducible refine Kd.C_drew ?_)));(case side2=>exact HC0.out);rintro e w' ⟨rfl,⟨nd,rfl⟩⟩;refine ⟨_,rfl, ?_⟩))
  go_ret
  exact ⟨by first|rfl|(simp;done)|(simp [*];done),by repeat (first|exact Drawn0.refl _|apply Drawn0.step)⟩

 rw [if_pos c6] at H
 have c6b0:decide (0≤a2)=true:=decide_eq_true c6
 clear c6
 by_cases c7:0≤t1
 rotate_left
 ·rw [if_neg c7] at H
  exact absurd H (by simp)
 rw [if_pos c7] at H
 have c7b0:decide (0≤t1)=true:=decide_eq_true c7
 clear c7
 by_cases c8:t1<(l0.length:Int)
 rotate_left
 ·rw [if_neg c8] at H
  exact absurd H (by simp)
 rw [if_pos c8] at H
 have c8b0:decide (t1<(l0.length:Int))=true:=decide_eq_true c8
 clear c8
 by_cases c9:((rd_T31 l0 t1).f5)=a2
 ·rw [if_pos c9] at H
  have c9b0:(((rd_T31 l0 t1).f5)==a2)=true:=beq_iff_eq.mpr c9
  have c9b1:(((rd_T31 l0 t1).f5) !=a2)=false:=bne_eq_false_iff_eq.mpr c9
  clear c9
  obtain rfl:=Option.some.inj H
  go_enter Try.func147,Try.ntmps147
  go_wp2_with (first|((with_reducible refine gate_callee (f:=50) rfl ?_);refine gl_ (some 10) Try.func50 #[.slice A0 l0.length c0, .string a1] ?_;(with_reducible refine (r10_Find.calls k _ _ l0 a1 t1 _ ?side1 ?side2 A4.out).mono ?_);(case side1=>repeat (first|exact HR0.out|(with_reducible refine Kd.C_alloc ?_ _)|(with_reducible refine Kd.C_drewN ?_ _)|(with_reducible refine Kd.C_drew ?_)));(case side2=>exact HC0.out);rintro e w' ⟨rfl,⟨nd,rfl⟩⟩;refine ⟨_,rfl, ?_⟩;have p2:0≤(t1:Int):=of_decide_eq_true zq_;have q2:t1<(l0.length:Int):=of_decide_eq_true zq_;obtain ⟨ad2,e2,hx2_0,hx2_1,hx2_2,hx2_3,hx2_4,hx2_5,hx2_6,hx2_7,hx2_8,hx2_9,hx2_10,hx2_11⟩:=at_T31 HR0.out t1 p2 q2;cases e2;replace p2:=eq_true p2;replace q2:=eq_true q2))
  go_ret
  exact ⟨by first|rfl|(simp;done)|(simp [*];done),by repeat (first|exact Drawn0.refl _|apply Drawn0.step)⟩
 rw [if_neg c9] at H
 have c9b0:(((rd_T31 l0 t1).f5)==a2)=false:=beq_eq_false_iff_ne.mpr c9
 have c9b1:(((rd_T31 l0 t1).f5) !=a2)=true:=bne_iff_ne.mpr c9
 obtain rfl:=Option.some.inj H
 go_enter Try.func147,Try.ntmps147
 go_wp2_with (first|((with_reducible refine gate_callee (f:=50) rfl ?_);refine gl_ (some 10) Try.func50 #[.slice A0 l0.length c0, .string a1] ?_;(with_reducible refine (r10_Find.calls k _ _ l0 a1 t1 _ ?side1 ?side2 A4.out).mono ?_);(case side1=>repeat (first|exact HR0.out|(with_reducible refine Kd.C_alloc ?_ _)|(with_reducible refine Kd.C_drewN ?_ _)|(with_reducible refine Kd.C_drew ?_)));(case side2=>exact HC0.out);rintro e w' ⟨rfl,⟨nd,rfl⟩⟩;refine ⟨_,rfl, ?_⟩;have p2:0≤(t1:Int):=of_decide_eq_true zq_;have q2:t1<(l0.length:Int):=of_decide_eq_true zq_;obtain ⟨ad2,e2,hx2_0,hx2_1,hx2_2,hx2_3,hx2_4,hx2_5,hx2_6,hx2_7,hx2_8,hx2_9,hx2_10,hx2_11⟩:=at_T31 HR0.out t1 p2 q2;cases e2;replace p2:=eq_true p2;replace q2:=eq_true q2))
 go_ret
 exact ⟨by first|rfl|(simp;done)|(simp [*];done),by repeat (first|exact Drawn0.refl _|apply Drawn0.step)⟩
def r10_Sub.f (a0_0:Int) (a0_1:Int) (a0_2:Int) (a1_0:Int) (a1_1:Int) (a1_2:Int):Option (Int×Int×Int):=some (wrap64 (a0_0 - a1_0),wrap64 (a0_1 - a1_1),wrap64 (a0_2 - a1_2))
set_option maxHeartbeats 8000000 in
set_option maxRecDepth 100000 in
theorem r10_Sub.calls (a0_0:Int) (a0_1:Int) (a0_2:Int) (a1_0:Int) (a1_1:Int) (a1_2:Int) (r1:Int) (r2:Int) (r3:Int) (w:World) (h:r10_Sub.f a0_0 a0_1 a0_2 a1_0 a1_1 a1_2=some (r1,r2,r3)):
  Calls Try.prog 35 #[.agg #[.int .i64 a0_0, .int .i64 a0_1, .int .i64 a0_2], .agg #[.int .i64 a1_0, .int .i64 a1_1, .int .i64 a1_2]] w fun e w'=>e= .returned (.agg #[.int .i64 r1, .int .i64 r2, .int .i64 r3])∧Below w.heap.size w w':=by
 have hu27:=Try.underlying27
 have HB:=am_ (Below.refl w.heap.size w)
 have H:(some (wrap64 (a0_0 - a1_0),wrap64 (a0_1 - a1_1),wrap64 (a0_2 - a1_2)))=some (r1,r2,r3):=h
 clear h
 simp only [Option.some.injEq,Prod.mk.injEq] at H
 obtain ⟨rfl,rfl,rfl⟩:=H
 go_enter Try.func35,Try.ntmps35
 go_wp2_with (first|((with_reducible refine gate_dst (N:=2) rfl ?_);refine bx_ (N:=2) (cs:=#[.int .i64 a0_0, .int .i64 a0_1, .int .i64 a0_2]) (t:=27) ?_;intro gb1 hg w3 hbox hb;have BK1:=am_ (hbox);have GW1:=am_ ((zg0_ HB hg:w.heap.size≤gb1));have GE1:=am_ ((zg0_ HB hg:w.heap.size≤gb1));replace HB:=am_ (below_step (zl0_ HB) hb);clear hb hbox hg)|((with_reducible refine gate_dst (N:=3) rfl ?_);refine bx_ (N:=3) (cs:=#[.int .i64 a1_0, .int .i64 a1_1, .int .i64 a1_2]) (t:=27) ?_;intro gb2 hg w4 hbox hb;have BK2:=am_ (hbox);have GW2:=am_ ((zg1_ HB GE1 hg:w.heap.size≤gb2));have GE2:=am_ ((zg1_ HB GE1 hg:w.heap.size≤gb2));replace HB:=am_ (below_step (zl1_ HB GE1) hb);have NB1_2:=am_ ((zn_ BK1 hg:gb1≠gb2));have NB2_1:=am_ ((zm_ BK1 hg:gb2≠gb1));replace BK1:=am_ (blk_below (zb_ BK1) hb);clear hb hbox hg)|((with_reducible refine gate_dst (N:=4) rfl ?_);refine bx_ (N:=4) (cs:=#[.int .i64 0, .int .i64 0, .int .i64 0]) (t:=27) ?_;intro gb3 hg w5 hbox hb;have BK3:=am_ (hbox);have GW3:=am_ ((zg2_ HB GE1 GE2 hg:w.heap.size≤gb3));have GE3:=am_ ((zg2_ HB GE1 GE2 hg:w.heap.size≤gb3));replace HB:=am_ (below_step (zl2_ HB GE1 GE2) hb);have NB1_3:=am_ ((zn_ BK1 hg:gb1≠gb3));have NB3_1:=am_ ((zm_ BK1 hg:gb3≠gb1));replace BK1:=am_ (blk_below (zb_ BK1) hb);have NB2_3:=am_ ((zn_ BK2 hg:gb2≠gb3));have NB3_2:=am_ ((zm_ BK2 hg:gb3≠gb2));replace BK2:=am_ (blk_below (zb_ BK2) hb);clear hb hbox hg;have hnb6:=NB1_2.out;have hnc6:=NB2_1.out;have hnb7:=NB1_3.out;have hnc7:=NB3_1.out;obtain ⟨hcz8_0,hcz8_1,hcz8_2,hfz8_0,hfz8_1,hfz8_2⟩:=y3_ BK1;have hnb9:=NB2_3.out;have hnc9:=NB3_2.out;obtain ⟨hcz10_0,hcz10_1,hcz10_2,hfz10_0,hfz10_1,hfz10_2⟩:=y3_ BK2;obtain ⟨hcz11_0,hcz11_1,hcz11_2⟩:=x3_ BK3;have hfz11_0:=blk_frozen BK3.out 0;have hfz11_1:=blk_frozen BK3.out 1;have hfz11_2:=blk_frozen BK3.out 2))
 refine bodyPost_ret (results_cell_row rfl _ _ gb3 27 #[.int .i64 (wrap64 (a0_0 - a1_0)), .int .i64 (wrap64 (a0_1 - a1_1)), .int .i64 (wrap64 (a0_2 - a1_2))] (0,0) _ rfl (zw_ BK3) Try.underlying27 rfl (by kernel_rfl)) rfl ?_
 exact ⟨by first|rfl|(simp [errW_none,errW_some]<;>rfl)|(simp [*,errW_none,errW_some]<;>rfl),zl3_ HB GE1 GE2 GE3⟩

def r10_in.l0:Nat→List ByteArray→ByteArray→Int→Option (Bool)
 |0,_,_,_=>none
 |k+1,x0,x1,x5=>if x5<(x0.length:Int) then (if 0≤x5 then (if (rdOf ByteArray.empty x0 x5).toList=x1.toList then (some true) else (r10_in.l0 k x0 x1 (wrap64 (x5+1)))) else (none)) else (some false)
def r10_in.f (k:Nat) (l0:List ByteArray) (a1:ByteArray):Option (Bool):=r10_in.l0 k l0 a1 0
theorem r10_in.mono_l: ∀k,(∀y0 y1 y2,LeO (r10_in.l0 k y0 y1 y2) (r10_in.l0 (k+1) y0 y1 y2))
 |0=>fun _ _ _ r h=>by simp [r10_in.l0] at h
 |k+1=>by
  have ih0:=r10_in.mono_l k
  intro y0 y1 y2
  unfold r10_in.l0
  repeat' first
  |(with_reducible exact ih0 _ _ _)
  |(with_reducible exact LeO.refl _)
  |(with_reducible exact LeO.none _)
  |(with_reducible refine LeO.ite ?_ ?_)
  |(with_reducible refine LeO.bind ?_ (fun _=> ?_))
  |exact ih0 _ _ _
  |exact LeO.none _
  |refine LeO.ite ?_ ?_
  |refine LeO.bind ?_ (fun _=> ?_)
theorem r10_in.mono: ∀a0 a1 k,LeO (r10_in.f k a0 a1) (r10_in.f (k+1) a0 a1):=by
 intro a0 a1 k
 have ih0:=r10_in.mono_l k
 unfold r10_in.f
 repeat' first
  |(with_reducible exact ih0 _ _ _)
  |(with_reducible exact LeO.refl _)
  |(with_reducible exact LeO.none _)
  |(with_reducible refine LeO.ite ?_ ?_)
  |(with_reducible refine LeO.bind ?_ (fun _=> ?_))
  |exact ih0 _ _ _
  |exact LeO.none _
  |refine LeO.ite ?_ ?_
  |refine LeO.bind ?_ (fun _=> ?_)
set_option maxHeartbeats 8000000 in
set_option maxRecDepth 100000 in
theorem r10_in.calls (k:Nat) (A0:Option Addr) (c0:Nat) (l0:List ByteArray) (a1:ByteArray) (r:Bool) (w:World) (hr0:Kd.C Kd.string w A0 l0.length l0) (hc0:l0.length≤c0) (h:r10_in.f k l0 a1=some r):
  Calls Try.prog 136 #[.slice A0 l0.length c0, .string a1] w fun e w'=>e= .returned (.bool r)∧Drawn0 w w':=by
 have HR0:=Aside0.mk hr0
 have HC0:=Aside0.mk hc0
 clear hr0 hc0
 have H:(r10_in.l0 k l0 a1 0)=some r:=h
 clear h
 have H':=Aside0.mk H
 clear H
 go_enter Try.func136,Try.ntmps136
 go_wp2
 go_loopg [5] k (fun kq v5 w'=> ∃(x5_1:Int),v5= .int .i64 x5_1∧Aside0 (r10_in.l0 kq l0 a1 x5_1=some r)∧Aside0 (kq≤k)∧Drawn0 w w')
 case atStart=>exact ⟨(0),(by first|rfl|(simp;done)|(simp [*];done)),H',⟨Nat.le_refl _⟩,by repeat (first|exact Drawn0.refl _|apply Drawn0.step)⟩
 case round=>
  clear H'
  try clear c1
  try clear p2
  obtain ⟨x5_1,rfl,HA,HK1,⟨m1,rfl⟩⟩:=hrel
  cases gk with
  |zero=>exact absurd HA.out (by simp [r10_in.l0])
  |succ k1=>
   have H:=HA.out
   clear HA
   simp only [r10_in.l0] at H
   by_cases c3:x5_1<(l0.length:Int)
   rotate_left
   ·rw [if_neg c3] at H
    have c3b0:decide (x5_1<(l0.length:Int))=false:=decide_eq_false c3
    clear c3
    obtain rfl:=Option.some.inj H
    go_wp2
    go_ret
    exact ⟨by first|rfl|(simp;done)|(simp [*];done),by repeat (first|exact Drawn0.refl _|apply Drawn0.step)⟩

   rw [if_pos c3] at H
   have c3b0:decide (x5_1<(l0.length:Int))=true:=decide_eq_true c3
   clear c3
   by_cases c4:0≤x5_1
   rotate_left
   ·rw [if_neg c4] at H
    exact absurd H (by simp)
   rw [if_pos c4] at H
   have c4b0:decide (0≤x5_1)=true:=decide_eq_true c4
   clear c4
   by_cases c5:(rdOf ByteArray.empty l0 x5_1).toList=a1.toList
   ·rw [if_pos c5] at H
    have c5b0:((rdOf ByteArray.empty l0 x5_1).toList==a1.toList)=true:=beq_iff_eq.mpr c5
    have c5b1:((rdOf ByteArray.empty l0 x5_1).toList !=a1.toList)=false:=bne_eq_false_iff_eq.mpr c5
    clear c5
    obtain rfl:=Option.some.inj H
    have p1:0≤(x5_1:Int):=of_decide_eq_true zq_
    have q1:x5_1<(l0.length:Int):=of_decide_eq_true zq_
    obtain ⟨ad1,e1,hx1_0⟩:=Kd.at_string HR0.out x5_1 p1 q1
    cases e1
    replace p1:=eq_true p1
    replace q1:=eq_true q1
    go_wp2
    go_ret
    exact ⟨by first|rfl|(simp;done)|(simp [*];done),by repeat (first|exact Drawn0.refl _|apply Drawn0.step)⟩
   rw [if_neg c5] at H
   have c5b0:((rdOf ByteArray.empty l0 x5_1).toList==a1.toList)=false:=beq_eq_false_iff_ne.mpr c5
   have c5b1:((rdOf ByteArray.empty l0 x5_1).toList !=a1.toList)=true:=bne_iff_ne.mpr c5
   have H':=Aside0.mk H
   clear H
   have p1:0≤(x5_1:Int):=of_decide_eq_true zq_
   have q1:x5_1<(l0.length:Int):=of_decide_eq_true zq_
   obtain ⟨ad1,e1,hx1_0⟩:=Kd.at_string HR0.out x5_1 p1 q1
   cases e1
   replace p1:=eq_true p1
   replace q1:=eq_true q1
   go_wp2
   go_roundg k1
   case measure=>have:=HK1.out;omega
   case rel=>exact ⟨(wrap64 (x5_1+1)),(by first|rfl|(simp;done)|(simp [*];done)),H',⟨by have:=HK1.out;omega⟩,by repeat (first|exact Drawn0.refl _|apply Drawn0.step)⟩
def r10_Below.l0:Nat→List (S31)→ByteArray→List ByteArray→Int→Option (List ByteArray)
 |0,_,_,_,_=>none
 |k+1,x0,x1,x5,x6=>if x6<(x0.length:Int) then (if 0≤x6 then (if ((rd_T31 x0 x6).f1).toList=x1.toList then (if x5.length<8796093022208 then (r10_Below.l0 k x0 x1 (x5++ [(rd_T31 x0 x6).f0]) (wrap64 (x6+1))) else (none)) else (r10_Below.l0 k x0 x1 x5 (wrap64 (x6+1)))) else (none)) else (some x5)
def r10_Below.f (k:Nat) (l0:List (S31)) (a1:ByteArray):Option (List ByteArray):=r10_Below.l0 k l0 a1 ([]:List ByteArray) 0
theorem r10_Below.mono_l: ∀k,(∀y0 y1 y2 y3,LeO (r10_Below.l0 k y0 y1 y2 y3) (r10_Below.l0 (k+1) y0 y1 y2 y3))
 |0=>fun _ _ _ _ r h=>by simp [r10_Below.l0] at h
 |k+1=>by
  have ih0:=r10_Below.mono_l k
  intro y0 y1 y2 y3
  unfold r10_Below.l0
  repeat' first
  |(with_reducible exact ih0 _ _ _ _)
  |(with_reducible exact LeO.refl _)
  |(with_reducible exact LeO.none _)
  |(with_reducible refine LeO.ite ?_ ?_)
  |(with_reducible refine LeO.bind ?_ (fun _=> ?_))
  |exact ih0 _ _ _ _
  |exact LeO.none _
  |refine LeO.ite ?_ ?_
  |refine LeO.bind ?_ (fun _=> ?_)
theorem r10_Below.mono: ∀a0 a1 k,LeO (r10_Below.f k a0 a1) (r10_Below.f (k+1) a0 a1):=by
 intro a0 a1 k
 have ih0:=r10_Below.mono_l k
 unfold r10_Below.f
 repeat' first
  |(with_reducible exact ih0 _ _ _ _)
  |(with_reducible exact LeO.refl _)
  |(with_reducible exact LeO.none _)
  |(with_reducible refine LeO.ite ?_ ?_)
  |(with_reducible refine LeO.bind ?_ (fun _=> ?_))
  |exact ih0 _ _ _ _
  |exact LeO.none _
  |refine LeO.ite ?_ ?_
  |refine LeO.bind ?_ (fun _=> ?_)
set_option maxHeartbeats 8000000 in
set_option maxRecDepth 100000 in
theorem r10_Below.calls (k:Nat) (A0:Option Addr) (c0:Nat) (l0:List (S31)) (a1:ByteArray) (r:List ByteArray) (w:World) (hr0:Kd.C k31 w A0 l0.length l0) (hc0:l0.length≤c0) (h:r10_Below.f k l0 a1=some r):
  Calls Try.prog 75 #[.slice A0 l0.length c0, .string a1] w fun e w'=> ∃v0_:Value,e= .returned (v0_)∧Kd.R Kd.string 9 w' w.heap.size (fun _=>True) v0_ r∧Below w.heap.size w w':=by
 have HR0:=Aside0.mk hr0
 have HC0:=Aside0.mk hc0
 clear hr0 hc0
 have HB:=am_ (Below.refl w.heap.size w)
 have H:(r10_Below.l0 k l0 a1 ([]:List ByteArray) 0)=some r:=h
 clear h
 have H':=Aside0.mk H
 clear H
 go_enter Try.func75,Try.ntmps75
 go_wp2
 go_loopg [5,6] k (fun kq v5 v6 w'=> ∃(x5_1:List ByteArray) (x6_1:Int),v6= .int .i64 x6_1∧Aside0 (r10_Below.l0 kq l0 a1 x5_1 x6_1=some r)∧Aside0 (kq≤k)∧Aside0 (Kd.R Kd.string 9 w' w.heap.size (fun _=>True) v5 x5_1)∧Aside0 (Below w.heap.size w w'))
 case atStart=>exact ⟨(([]:List ByteArray)),(0),(by first|rfl|(simp;done)|(simp [*];done)),H',⟨Nat.le_refl _⟩,⟨by first|exact Kd.R_nil _ _ _ _ _|exact Kd.N_nil _ _ _ _ _|exact Kd.V_nil _ _ _ _ _|exact Kd.Q_nil _ _ _ _ _|exact Kd.S_nil _ _ _ _ _⟩,⟨zl0_ HB⟩⟩
 case round=>
  clear H'
  try clear p2
  obtain ⟨x5_1,x6_1,rfl,HA,HK1,HO_5,HB⟩:=hrel
  cases gk with
  |zero=>exact absurd HA.out (by simp [r10_Below.l0])
  |succ k1=>
   have H:=HA.out
   clear HA
   simp only [r10_Below.l0] at H
   by_cases c3:x6_1<(l0.length:Int)
   rotate_left
   ·rw [if_neg c3] at H
    have c3b0:decide (x6_1<(l0.length:Int))=false:=decide_eq_false c3
    clear c3
    obtain rfl:=Option.some.inj H
    go_wp2
    go_ret
    exact ⟨_,by first|rfl|(simp [errW_none,errW_some]<;>rfl)|(simp [*,errW_none,errW_some]<;>rfl),by (with_reducible repeat (first|apply Kd.R_alloc|apply Kd.R_drewN|apply Kd.R_drew));exact HO_5.out,zl0_ HB⟩

   rw [if_pos c3] at H
   have c3b0:decide (x6_1<(l0.length:Int))=true:=decide_eq_true c3
   clear c3
   by_cases c4:0≤x6_1
   rotate_left
   ·rw [if_neg c4] at H
    exact absurd H (by simp)
   rw [if_pos c4] at H
   have c4b0:decide (0≤x6_1)=true:=decide_eq_true c4
   clear c4
   by_cases c5:((rd_T31 l0 x6_1).f1).toList=a1.toList
   rotate_left
   ·rw [if_neg c5] at H
    have c5b0:(((rd_T31 l0 x6_1).f1).toList==a1.toList)=false:=beq_eq_false_iff_ne.mpr c5
    have c5b1:(((rd_T31 l0 x6_1).f1).toList !=a1.toList)=true:=bne_iff_ne.mpr c5
    have H':=Aside0.mk H
    clear H
    have p1:0≤(x6_1:Int):=of_decide_eq_true zq_
    have q1:x6_1<(l0.length:Int):=of_decide_eq_true zq_
    obtain ⟨ad1,e1,hx1_0,hx1_1,hx1_2,hx1_3,hx1_4,hx1_5,hx1_6,hx1_7,hx1_8,hx1_9,hx1_10,hx1_11⟩:=at_T31 HR0.out x6_1 p1 q1
    cases e1
    replace hx1_0:=zx_ HB hx1_0
    replace hx1_1:=zx_ HB hx1_1
    replace hx1_2:=zx_ HB hx1_2
    replace hx1_3:=zx_ HB hx1_3
    replace hx1_4:=zx_ HB hx1_4
    replace hx1_5:=zx_ HB hx1_5
    replace hx1_6:=zx_ HB hx1_6
    replace hx1_7:=zx_ HB hx1_7
    replace hx1_8:=zx_ HB hx1_8
    replace hx1_9:=zx_ HB hx1_9
    replace hx1_10:=zx_ HB hx1_10
    replace hx1_11:=zx_ HB hx1_11
    replace p1:=eq_true p1
    replace q1:=eq_true q1
    go_wp2
    go_roundg k1
    case measure=>have:=HK1.out;omega
    case rel=>exact ⟨(x5_1),(wrap64 (x6_1+1)),(by first|rfl|(simp;done)|(simp [*];done)),H',⟨by have:=HK1.out;omega⟩,⟨by (with_reducible repeat (first|apply Kd.R_alloc|apply Kd.R_drewN|apply Kd.R_drew));exact HO_5.out⟩,⟨zl0_ HB⟩⟩
   rw [if_pos c5] at H
   have c5b0:(((rd_T31 l0 x6_1).f1).toList==a1.toList)=true:=beq_iff_eq.mpr c5
   have c5b1:(((rd_T31 l0 x6_1).f1).toList !=a1.toList)=false:=bne_eq_false_iff_eq.mpr c5
   clear c5
   by_cases c6:x5_1.length<8796093022208
   rotate_left
   ·rw [if_neg c6] at H
    exact absurd H (by simp)
   rw [if_pos c6] at H
   have LMc6:=Aside0.mk c6
   clear c6
   obtain ⟨y3,hy3⟩: ∃y_:List ByteArray,y_=(x5_1++ [(rd_T31 l0 x6_1).f0]):=⟨_,rfl⟩
   replace H:(r10_Below.l0 k1 l0 a1 y3 (wrap64 (x6_1+1)))=some r:=by first|(rw [hy3];with_reducible exact H)|(have H2_:=(Option.bind_some _ _).symm.trans H;rw [hy3];with_reducible exact H2_)|(have H2_:=(Option.bind_some _ _).symm.trans H;with_reducible exact H2_)|with_reducible exact H|(rw [hy3];exact H)|exact H
   have Ny3:=Aside0.mk hy3
   clear hy3
   have H':=Aside0.mk H
   clear H
   have p1:0≤(x6_1:Int):=of_decide_eq_true zq_
   have q1:x6_1<(l0.length:Int):=of_decide_eq_true zq_
   obtain ⟨ad1,e1,hx1_0,hx1_1,hx1_2,hx1_3,hx1_4,hx1_5,hx1_6,hx1_7,hx1_8,hx1_9,hx1_10,hx1_11⟩:=at_T31 HR0.out x6_1 p1 q1
   cases e1
   replace hx1_0:=zx_ HB hx1_0
   replace hx1_1:=zx_ HB hx1_1
   replace hx1_2:=zx_ HB hx1_2
   replace hx1_3:=zx_ HB hx1_3
   replace hx1_4:=zx_ HB hx1_4
   replace hx1_5:=zx_ HB hx1_5
   replace hx1_6:=zx_ HB hx1_6
   replace hx1_7:=zx_ HB hx1_7
   replace hx1_8:=zx_ HB hx1_8
   replace hx1_9:=zx_ HB hx1_9
   replace hx1_10:=zx_ HB hx1_10
   replace hx1_11:=zx_ HB hx1_11
   replace p1:=eq_true p1
   replace q1:=eq_true q1
   have p2:0≤(x6_1:Int):=of_decide_eq_true zq_
   have q2:x6_1<(l0.length:Int):=of_decide_eq_true zq_
   obtain ⟨ad2,e2,hx2_0,hx2_1,hx2_2,hx2_3,hx2_4,hx2_5,hx2_6,hx2_7,hx2_8,hx2_9,hx2_10,hx2_11⟩:=at_T31 HR0.out x6_1 p2 q2
   obtain rfl:ad1=ad2:=(by injection e2)
   replace hx2_0:=zx_ HB hx2_0
   replace hx2_1:=zx_ HB hx2_1
   replace hx2_2:=zx_ HB hx2_2
   replace hx2_3:=zx_ HB hx2_3
   replace hx2_4:=zx_ HB hx2_4
   replace hx2_5:=zx_ HB hx2_5
   replace hx2_6:=zx_ HB hx2_6
   replace hx2_7:=zx_ HB hx2_7
   replace hx2_8:=zx_ HB hx2_8
   replace hx2_9:=zx_ HB hx2_9
   replace hx2_10:=zx_ HB hx2_10
   replace hx2_11:=zx_ HB hx2_11
   replace p2:=eq_true p2
   replace q2:=eq_true q2
   go_wp2_with (first|((with_reducible refine gate_builtin (b:= .append) (xs:=#[.tmp 20, .tmp 26]) rfl ?_);at_builtin;refine Kd.R_append Kd.string (w0:=w) w.heap.size rfl (.tmp 20) (.tmp 26) 74 9 (.string ⟨#[]⟩) 16 rfl Try.underlying74 info9 rfl (by decide) (by omega) u5 x5_1 ((rd_T31 l0 x6_1).f0) [.string ((rd_T31 l0 x6_1).f0)] (fun _=>True) (fun _=>False) rfl rfl ?aP (fun _ hk=>hk.elim) ?aF ?aO ?aB ?aS ?aL ?_;(case aP=>exact rfl);(case aB=>exact (zl0_ HB));(case aF=>exact (fun _ _=>trivial));(case aO=>exact (zr_ HO_5));(case aS=>exact (below_size (zl0_ HB)));(case aL=>have:=LMc6.out;omega);intro v4 w7 ho hb hg hat;rw [←Ny3.out] at ho;have n0_:=am_ (hb);have n1_:=am_ (ho);clear HB;clear HO_5;have HB:=n0_;have HO5:=n1_;clear n0_ n1_;clear ho hb hg hat))
   go_roundg k1
   case measure=>have:=HK1.out;omega
   case rel=>exact ⟨(y3),(wrap64 (x6_1+1)),(by first|rfl|(simp;done)|(simp [*];done)),H',⟨by have:=HK1.out;omega⟩,⟨by (with_reducible repeat (first|apply Kd.R_alloc|apply Kd.R_drewN|apply Kd.R_drew));exact HO5.out⟩,⟨zl0_ HB⟩⟩
theorem vecMax1_calls (x y:Int) (W:World):Calls Try.prog 173 #[.int .i64 x, .int .i64 y] W fun e w'=>e= .returned (.int .i64 (mx x y))∧w'=W:=by
 unfold mx
 go_enter Try.func173,Try.ntmps173
 go_wp2<;>(go_ret;exact ⟨rfl,rfl⟩)
def vec_Max.f (l0:List (S27)):Option (Int×Int×Int):=some (vecByF (fun x y=>mx x y) l0 0 0 0)
set_option maxHeartbeats 1000000 in
set_option maxRecDepth 100000 in
theorem vec_Max.calls (A0:Option Addr) (c0:Nat) (l0:List (S27)) (r1:Int) (r2:Int) (r3:Int) (w:World) (hr0:Kd.C k27 w A0 l0.length l0) (hc0:l0.length≤c0) (h:vec_Max.f l0=some (r1,r2,r3)):
  Calls Try.prog 159 #[.slice A0 l0.length c0] w fun e w'=>e= .returned (.agg #[.int .i64 r1, .int .i64 r2, .int .i64 r3])∧Below w.heap.size w w':=by
 have hu27:=Try.underlying27
 have hm:l0.length≤maxLen:=hr0.2.1
 have HC:=am_ (vecBy_calls 173 (fun x y=>mx x y) (enters_of Try.func173 (by kernel_rfl) rfl) vecMax1_calls A0 c0 l0 0 0 0 (w.alloc (.cells #[.int .i64 0, .int .i64 0, .int .i64 0] 27)) (Kd.C_below hr0 (below_alloc (Below.refl _ _) _)) hc0 hm)
 have HH:=Aside0.mk h
 clear hr0 h
 go_enter Try.func159,Try.ntmps159
 go_wp2_with fail
 refine HC.out.mono ?_
 rintro e w1 ⟨rfl,hb⟩
 have h:=Option.some.inj (show some (vecByF (fun x y=>mx x y) l0 0 0 0)=some (r1,r2,r3) from HH.out)
 rw [h]
 have hZ:=blk_below (blk_new w (.cells #[.int .i64 0, .int .i64 0, .int .i64 0] 27)) hb
 have HB:=Aside0.mk hb
 have HZ:=Aside0.mk hZ
 clear h hb hZ
 have g0:=(blk_cell HZ.out 0).trans rfl
 have g1:=(blk_cell HZ.out 1).trans rfl
 have g2:=(blk_cell HZ.out 2).trans rfl
 have z0:=blk_frozen HZ.out 0
 have z1:=blk_frozen HZ.out 1
 have z2:=blk_frozen HZ.out 2
 have hs1:w.heap.size<w1.heap.size:=blk_lt HZ.out
 go_wp2
 refine bodyPost_ret (results_cell_row rfl _ _ w.heap.size 27 #[.int .i64 r1, .int .i64 r2, .int .i64 r3] (0,0) _ rfl (blk_put (blk_put (blk_put HZ.out 0 _ rfl) 1 _ rfl) 2 _ rfl) Try.underlying27 rfl (by kernel_rfl)) rfl ?_
 exact ⟨rfl,below_set (below_set (below_set (below_step (below_alloc (Below.refl _ _) _) HB.out) (Nat.le_refl _)) (Nat.le_refl _)) (Nat.le_refl _)⟩


def law1_Num.f (a0:Int):Option (Int):=some a0
set_option maxHeartbeats 8000000 in
set_option maxRecDepth 100000 in
theorem law1_Num.calls (a0:Int) (r:Int) (w:World) (h:law1_Num.f a0=some r):
  Calls Try.prog 61 #[.int .i64 a0] w fun e w'=>e= .returned (.int .i64 r)∧Drawn0 w w':=by
 have H:(some a0)=some r:=h
 clear h
 obtain rfl:=Option.some.inj H
 go_enter Try.func61,Try.ntmps61
 go_wp2
 go_ret
 exact ⟨by first|rfl|(simp;done)|(simp [*];done),by repeat (first|exact Drawn0.refl _|apply Drawn0.step)⟩

end Go.Proofs.Ytcgefpklljclgaa.Print

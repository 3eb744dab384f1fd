/- EffectAll: a part -/
import Derived.Test.YtcgefpklljclgaaProg
import Derived.Below
import Derived.Deep.Draws
import Derived.Deep.AppendLies
import Derived.Maps.AppendAt
import Derived.OwnWalk
import Derived.Laws.BytesArg
import Derived.Laws.MakeOwn
import Derived.Laws.OwnMore
import Derived.Deep.OwnRows
import Derived.Tactics
import Derived.Lib.ConvBytes
import Derived.Laws.Slices
import Derived.WalkKit
import Derived.KernelRfl
import Derived.RowKit3
import Derived.Deep.LoopGhost
import Derived.Deep.QuietTactic
import Derived.BigQuiet
import Derived.WideLaws
import Derived.Deep.DeepCutAuto
import Derived.Deep.CutBlock
import Derived.Deep.RegionHeld3
import Derived.Laws.Rows
import Derived.Lib.AppendStr
import Derived.ArgAppend
import Derived.Laws.IdiomCopy
import Derived.OrdersHeld
import Derived.Laws.BitsLemmas
import Derived.RowKit
import Derived.Laws.Cover1
import Derived.Shelf.Abstract
import Derived.WalkSpells
import Derived.Test.YtcgefpklljclgaaBEffectAll0
set_option linter.unusedVariables false
set_option linter.unusedSimpArgs false
namespace Go.Proofs.Ytcgefpklljclgaa.Print
open Go.RowKit Go.Proofs.YtcgefpklljclgaaW.PrintWords Go.Proofs.YtcgefpklljclgaaW.PrintLast Go.Proofs.YtcgefpklljclgaaW.PrintMore
attribute [local go_sem] max2_int min2_int max_two min_two max_three min_three max_four min_four



def errW:Option Int→Value
 |none=> .nilIface
 |some c=> .iface 0 (.int .i64 c)
theorem errW_none:errW none= .nilIface:=rfl
theorem errW_some (c:Int):errW (some c)= .iface 0 (.int .i64 c):=rfl

theorem info9:(Try.prog.info? 9).map (fun i=>(i.zero,i.size,i.bytes))=some (some (.string ⟨#[]⟩),1,16):=by kernel_rfl
theorem info54:(Try.prog.info? 54).map (fun i=>(i.zero,i.size,i.bytes))=some (some (.agg #[(.string ⟨#[]⟩),(.string ⟨#[]⟩),(.int .i64 0),(.int .i64 0),(.int .i64 0),(.int .i64 0)]),6,64):=by kernel_rfl
-- the values' own types
structure S27 where
 f0:Int
 f1:Int
 f2:Int
def z27:S27:=⟨(0:Int),(0:Int),(0:Int)⟩
def k27:Kd S27:=Kd.iso (Kd.pair (Kd.int .i64) (Kd.pair (Kd.int .i64) (Kd.int .i64))) (fun x:S27=>(x.f0,x.f1,x.f2))
theorem k27_open {w:World} {x:S27} {cs:List Value} (h:k27.K w x cs):cs=[.int .i64 x.f0, .int .i64 x.f1, .int .i64 x.f2]:=by
 obtain ⟨_,_,rfl,rfl,⟨_,_,rfl,rfl,rfl⟩⟩:=h
 exact rfl
theorem k27_mk (w:World) (x:S27):k27.K w x [.int .i64 x.f0, .int .i64 x.f1, .int .i64 x.f2]:=⟨[.int .i64 x.f0],[.int .i64 x.f1, .int .i64 x.f2],rfl,rfl,⟨[.int .i64 x.f1],[.int .i64 x.f2],rfl,rfl,rfl⟩⟩
theorem k27_mkM (w:World) (base:Nat) (ok:Nat→Prop) (x:S27):k27.M w base ok x [.int .i64 x.f0, .int .i64 x.f1, .int .i64 x.f2]:=⟨[.int .i64 x.f0],[.int .i64 x.f1, .int .i64 x.f2],rfl,rfl,⟨[.int .i64 x.f1],[.int .i64 x.f2],rfl,rfl,rfl⟩⟩
structure S31 where
 f0:ByteArray
 f1:ByteArray
 f2:S27
 f3:S27
 f4:S27
 f5:Int
def z31:S31:=⟨(⟨#[]⟩:ByteArray),(⟨#[]⟩:ByteArray),z27,z27,z27,(0:Int)⟩
def k31:Kd S31:=Kd.iso (Kd.pair Kd.string (Kd.pair Kd.string (Kd.pair k27 (Kd.pair k27 (Kd.pair k27 (Kd.int .i64)))))) (fun x:S31=>(x.f0,x.f1,x.f2,x.f3,x.f4,x.f5))
theorem k31_open {w:World} {x:S31} {cs:List Value} (h:k31.K w x cs):cs=[.string x.f0, .string x.f1, .int .i64 x.f2.f0, .int .i64 x.f2.f1, .int .i64 x.f2.f2, .int .i64 x.f3.f0, .int .i64 x.f3.f1, .int .i64 x.f3.f2, .int .i64 x.f4.f0, .int .i64 x.f4.f1, .int .i64 x.f4.f2, .int .i64 x.f5]:=by
 obtain ⟨_,_,rfl,rfl,⟨_,_,rfl,rfl,⟨_,_,rfl,s2,⟨_,_,rfl,s5,⟨_,_,rfl,s8,rfl⟩⟩⟩⟩⟩:=h
 obtain rfl:=k27_open s2
 obtain rfl:=k27_open s5
 obtain rfl:=k27_open s8
 exact rfl
theorem k31_mk (w:World) (x:S31):k31.K w x [.string x.f0, .string x.f1, .int .i64 x.f2.f0, .int .i64 x.f2.f1, .int .i64 x.f2.f2, .int .i64 x.f3.f0, .int .i64 x.f3.f1, .int .i64 x.f3.f2, .int .i64 x.f4.f0, .int .i64 x.f4.f1, .int .i64 x.f4.f2, .int .i64 x.f5]:=⟨[.string x.f0],[.string x.f1, .int .i64 x.f2.f0, .int .i64 x.f2.f1, .int .i64 x.f2.f2, .int .i64 x.f3.f0, .int .i64 x.f3.f1, .int .i64 x.f3.f2, .int .i64 x.f4.f0, .int .i64 x.f4.f1, .int .i64 x.f4.f2, .int .i64 x.f5],rfl,rfl,⟨[.string x.f1],[.int .i64 x.f2.f0, .int .i64 x.f2.f1, .int .i64 x.f2.f2, .int .i64 x.f3.f0, .int .i64 x.f3.f1, .int .i64 x.f3.f2, .int .i64 x.f4.f0, .int .i64 x.f4.f1, .int .i64 x.f4.f2, .int .i64 x.f5],rfl,rfl,⟨[.int .i64 x.f2.f0, .int .i64 x.f2.f1, .int .i64 x.f2.f2],[.int .i64 x.f3.f0, .int .i64 x.f3.f1, .int .i64 x.f3.f2, .int .i64 x.f4.f0, .int .i64 x.f4.f1, .int .i64 x.f4.f2, .int .i64 x.f5],rfl,(k27_mk w x.f2),⟨[.int .i64 x.f3.f0, .int .i64 x.f3.f1, .int .i64 x.f3.f2],[.int .i64 x.f4.f0, .int .i64 x.f4.f1, .int .i64 x.f4.f2, .int .i64 x.f5],rfl,(k27_mk w x.f3),⟨[.int .i64 x.f4.f0, .int .i64 x.f4.f1, .int .i64 x.f4.f2],[.int .i64 x.f5],rfl,(k27_mk w x.f4),rfl⟩⟩⟩⟩⟩
theorem k31_mkM (w:World) (base:Nat) (ok:Nat→Prop) (x:S31):k31.M w base ok x [.string x.f0, .string x.f1, .int .i64 x.f2.f0, .int .i64 x.f2.f1, .int .i64 x.f2.f2, .int .i64 x.f3.f0, .int .i64 x.f3.f1, .int .i64 x.f3.f2, .int .i64 x.f4.f0, .int .i64 x.f4.f1, .int .i64 x.f4.f2, .int .i64 x.f5]:=⟨[.string x.f0],[.string x.f1, .int .i64 x.f2.f0, .int .i64 x.f2.f1, .int .i64 x.f2.f2, .int .i64 x.f3.f0, .int .i64 x.f3.f1, .int .i64 x.f3.f2, .int .i64 x.f4.f0, .int .i64 x.f4.f1, .int .i64 x.f4.f2, .int .i64 x.f5],rfl,rfl,⟨[.string x.f1],[.int .i64 x.f2.f0, .int .i64 x.f2.f1, .int .i64 x.f2.f2, .int .i64 x.f3.f0, .int .i64 x.f3.f1, .int .i64 x.f3.f2, .int .i64 x.f4.f0, .int .i64 x.f4.f1, .int .i64 x.f4.f2, .int .i64 x.f5],rfl,rfl,⟨[.int .i64 x.f2.f0, .int .i64 x.f2.f1, .int .i64 x.f2.f2],[.int .i64 x.f3.f0, .int .i64 x.f3.f1, .int .i64 x.f3.f2, .int .i64 x.f4.f0, .int .i64 x.f4.f1, .int .i64 x.f4.f2, .int .i64 x.f5],rfl,(k27_mkM w base ok x.f2),⟨[.int .i64 x.f3.f0, .int .i64 x.f3.f1, .int .i64 x.f3.f2],[.int .i64 x.f4.f0, .int .i64 x.f4.f1, .int .i64 x.f4.f2, .int .i64 x.f5],rfl,(k27_mkM w base ok x.f3),⟨[.int .i64 x.f4.f0, .int .i64 x.f4.f1, .int .i64 x.f4.f2],[.int .i64 x.f5],rfl,(k27_mkM w base ok x.f4),rfl⟩⟩⟩⟩⟩
def rd_T31 (xs:List S31) (i:Int):S31:=xs.getD i.toNat z31
theorem at_T31 {w:World} {A:Option Addr} {n:Nat} {xs:List S31} (h:Kd.C k31 w A n xs) (i:Int) (h0:0≤i) (h1:i<n): ∃ad,A=some ad∧w.cell? (ad.add (i.toNat*12))=some (.string (rd_T31 xs i).f0)∧w.cell? ⟨(ad.add (i.toNat*12)).block,(ad.add (i.toNat*12)).off+1,none⟩=some (.string (rd_T31 xs i).f1)∧w.cell? ⟨(ad.add (i.toNat*12)).block,(ad.add (i.toNat*12)).off+2,none⟩=some (.int .i64 (rd_T31 xs i).f2.f0)∧w.cell? ⟨(ad.add (i.toNat*12)).block,(ad.add (i.toNat*12)).off+3,none⟩=some (.int .i64 (rd_T31 xs i).f2.f1)∧w.cell? ⟨(ad.add (i.toNat*12)).block,(ad.add (i.toNat*12)).off+4,none⟩=some (.int .i64 (rd_T31 xs i).f2.f2)∧w.cell? ⟨(ad.add (i.toNat*12)).block,(ad.add (i.toNat*12)).off+5,none⟩=some (.int .i64 (rd_T31 xs i).f3.f0)∧w.cell? ⟨(ad.add (i.toNat*12)).block,(ad.add (i.toNat*12)).off+6,none⟩=some (.int .i64 (rd_T31 xs i).f3.f1)∧w.cell? ⟨(ad.add (i.toNat*12)).block,(ad.add (i.toNat*12)).off+7,none⟩=some (.int .i64 (rd_T31 xs i).f3.f2)∧w.cell? ⟨(ad.add (i.toNat*12)).block,(ad.add (i.toNat*12)).off+8,none⟩=some (.int .i64 (rd_T31 xs i).f4.f0)∧w.cell? ⟨(ad.add (i.toNat*12)).block,(ad.add (i.toNat*12)).off+9,none⟩=some (.int .i64 (rd_T31 xs i).f4.f1)∧w.cell? ⟨(ad.add (i.toNat*12)).block,(ad.add (i.toNat*12)).off+10,none⟩=some (.int .i64 (rd_T31 xs i).f4.f2)∧w.cell? ⟨(ad.add (i.toNat*12)).block,(ad.add (i.toNat*12)).off+11,none⟩=some (.int .i64 (rd_T31 xs i).f5):=by
 obtain ⟨ad,c,e,_,hK,hc0⟩:=Kd.C_get h z31 i h0 h1
 have hc: ∀j u,c[j]?=some u→w.cell? (ad.add (i.toNat*12+j))=some u:=hc0
 obtain rfl:=k31_open hK
 exact ⟨ad,e,hc 0 _ rfl,by rw [←add_field _ _ 1 (by omega)];exact hc 1 _ rfl,by rw [←add_field _ _ 2 (by omega)];exact hc 2 _ rfl,by rw [←add_field _ _ 3 (by omega)];exact hc 3 _ rfl,by rw [←add_field _ _ 4 (by omega)];exact hc 4 _ rfl,by rw [←add_field _ _ 5 (by omega)];exact hc 5 _ rfl,by rw [←add_field _ _ 6 (by omega)];exact hc 6 _ rfl,by rw [←add_field _ _ 7 (by omega)];exact hc 7 _ rfl,by rw [←add_field _ _ 8 (by omega)];exact hc 8 _ rfl,by rw [←add_field _ _ 9 (by omega)];exact hc 9 _ rfl,by rw [←add_field _ _ 10 (by omega)];exact hc 10 _ rfl,by rw [←add_field _ _ 11 (by omega)];exact hc 11 _ rfl⟩

structure S37 where
 f0:ByteArray
 f1:Int
structure S54 where
 f0:ByteArray
 f1:ByteArray
 f2:S27
 f3:Int
def z54:S54:=⟨(⟨#[]⟩:ByteArray),(⟨#[]⟩:ByteArray),z27,(0:Int)⟩
def k54:Kd S54:=Kd.iso (Kd.pair Kd.string (Kd.pair Kd.string (Kd.pair k27 (Kd.int .i64)))) (fun x:S54=>(x.f0,x.f1,x.f2,x.f3))
theorem k54_open {w:World} {x:S54} {cs:List Value} (h:k54.K w x cs):cs=[.string x.f0, .string x.f1, .int .i64 x.f2.f0, .int .i64 x.f2.f1, .int .i64 x.f2.f2, .int .i64 x.f3]:=by
 obtain ⟨_,_,rfl,rfl,⟨_,_,rfl,rfl,⟨_,_,rfl,s2,rfl⟩⟩⟩:=h
 obtain rfl:=k27_open s2
 exact rfl
theorem k54_mk (w:World) (x:S54):k54.K w x [.string x.f0, .string x.f1, .int .i64 x.f2.f0, .int .i64 x.f2.f1, .int .i64 x.f2.f2, .int .i64 x.f3]:=⟨[.string x.f0],[.string x.f1, .int .i64 x.f2.f0, .int .i64 x.f2.f1, .int .i64 x.f2.f2, .int .i64 x.f3],rfl,rfl,⟨[.string x.f1],[.int .i64 x.f2.f0, .int .i64 x.f2.f1, .int .i64 x.f2.f2, .int .i64 x.f3],rfl,rfl,⟨[.int .i64 x.f2.f0, .int .i64 x.f2.f1, .int .i64 x.f2.f2],[.int .i64 x.f3],rfl,(k27_mk w x.f2),rfl⟩⟩⟩
theorem k54_mkM (w:World) (base:Nat) (ok:Nat→Prop) (x:S54):k54.M w base ok x [.string x.f0, .string x.f1, .int .i64 x.f2.f0, .int .i64 x.f2.f1, .int .i64 x.f2.f2, .int .i64 x.f3]:=⟨[.string x.f0],[.string x.f1, .int .i64 x.f2.f0, .int .i64 x.f2.f1, .int .i64 x.f2.f2, .int .i64 x.f3],rfl,rfl,⟨[.string x.f1],[.int .i64 x.f2.f0, .int .i64 x.f2.f1, .int .i64 x.f2.f2, .int .i64 x.f3],rfl,rfl,⟨[.int .i64 x.f2.f0, .int .i64 x.f2.f1, .int .i64 x.f2.f2],[.int .i64 x.f3],rfl,(k27_mkM w base ok x.f2),rfl⟩⟩⟩
def rd_T54 (xs:List S54) (i:Int):S54:=xs.getD i.toNat z54
theorem at_T54 {w:World} {A:Option Addr} {n:Nat} {xs:List S54} (h:Kd.C k54 w A n xs) (i:Int) (h0:0≤i) (h1:i<n): ∃ad,A=some ad∧w.cell? (ad.add (i.toNat*6))=some (.string (rd_T54 xs i).f0)∧w.cell? ⟨(ad.add (i.toNat*6)).block,(ad.add (i.toNat*6)).off+1,none⟩=some (.string (rd_T54 xs i).f1)∧w.cell? ⟨(ad.add (i.toNat*6)).block,(ad.add (i.toNat*6)).off+2,none⟩=some (.int .i64 (rd_T54 xs i).f2.f0)∧w.cell? ⟨(ad.add (i.toNat*6)).block,(ad.add (i.toNat*6)).off+3,none⟩=some (.int .i64 (rd_T54 xs i).f2.f1)∧w.cell? ⟨(ad.add (i.toNat*6)).block,(ad.add (i.toNat*6)).off+4,none⟩=some (.int .i64 (rd_T54 xs i).f2.f2)∧w.cell? ⟨(ad.add (i.toNat*6)).block,(ad.add (i.toNat*6)).off+5,none⟩=some (.int .i64 (rd_T54 xs i).f3):=by
 obtain ⟨ad,c,e,_,hK,hc0⟩:=Kd.C_get h z54 i h0 h1
 have hc: ∀j u,c[j]?=some u→w.cell? (ad.add (i.toNat*6+j))=some u:=hc0
 obtain rfl:=k54_open hK
 exact ⟨ad,e,hc 0 _ rfl,by rw [←add_field _ _ 1 (by omega)];exact hc 1 _ rfl,by rw [←add_field _ _ 2 (by omega)];exact hc 2 _ rfl,by rw [←add_field _ _ 3 (by omega)];exact hc 3 _ rfl,by rw [←add_field _ _ 4 (by omega)];exact hc 4 _ rfl,by rw [←add_field _ _ 5 (by omega)];exact hc 5 _ rfl⟩

structure S58 where
 f0:Int
 f1:ByteArray
 f2:ByteArray
 f3:S27
def z58:S58:=⟨(0:Int),(⟨#[]⟩:ByteArray),(⟨#[]⟩:ByteArray),z27⟩
def k58:Kd S58:=Kd.iso (Kd.pair (Kd.int .i64) (Kd.pair Kd.string (Kd.pair Kd.string k27))) (fun x:S58=>(x.f0,x.f1,x.f2,x.f3))
theorem k58_open {w:World} {x:S58} {cs:List Value} (h:k58.K w x cs):cs=[.int .i64 x.f0, .string x.f1, .string x.f2, .int .i64 x.f3.f0, .int .i64 x.f3.f1, .int .i64 x.f3.f2]:=by
 obtain ⟨_,_,rfl,rfl,⟨_,_,rfl,rfl,⟨_,_,rfl,rfl,s3⟩⟩⟩:=h
 obtain rfl:=k27_open s3
 exact rfl
def rd_T58 (xs:List S58) (i:Int):S58:=xs.getD i.toNat z58
theorem at_T58 {w:World} {A:Option Addr} {n:Nat} {xs:List S58} (h:Kd.C k58 w A n xs) (i:Int) (h0:0≤i) (h1:i<n): ∃ad,A=some ad∧w.cell? (ad.add (i.toNat*6))=some (.int .i64 (rd_T58 xs i).f0)∧w.cell? ⟨(ad.add (i.toNat*6)).block,(ad.add (i.toNat*6)).off+1,none⟩=some (.string (rd_T58 xs i).f1)∧w.cell? ⟨(ad.add (i.toNat*6)).block,(ad.add (i.toNat*6)).off+2,none⟩=some (.string (rd_T58 xs i).f2)∧w.cell? ⟨(ad.add (i.toNat*6)).block,(ad.add (i.toNat*6)).off+3,none⟩=some (.int .i64 (rd_T58 xs i).f3.f0)∧w.cell? ⟨(ad.add (i.toNat*6)).block,(ad.add (i.toNat*6)).off+4,none⟩=some (.int .i64 (rd_T58 xs i).f3.f1)∧w.cell? ⟨(ad.add (i.toNat*6)).block,(ad.add (i.toNat*6)).off+5,none⟩=some (.int .i64 (rd_T58 xs i).f3.f2):=by
 obtain ⟨ad,c,e,_,hK,hc0⟩:=Kd.C_get h z58 i h0 h1
 have hc: ∀j u,c[j]?=some u→w.cell? (ad.add (i.toNat*6+j))=some u:=hc0
 obtain rfl:=k58_open hK
 exact ⟨ad,e,hc 0 _ rfl,by rw [←add_field _ _ 1 (by omega)];exact hc 1 _ rfl,by rw [←add_field _ _ 2 (by omega)];exact hc 2 _ rfl,by rw [←add_field _ _ 3 (by omega)];exact hc 3 _ rfl,by rw [←add_field _ _ 4 (by omega)];exact hc 4 _ rfl,by rw [←add_field _ _ 5 (by omega)];exact hc 5 _ rfl⟩

structure S180 where
 f0:ByteArray
 f1:ByteArray
 f2:S27
structure S113 where
 f0:(List S31)
 f1:Int
 f2:Int
theorem eqA27 (d:Nat) (w:World) (x0 y0:Int) (x1 y1:Int) (x2 y2:Int):
  (Op.equalIn (d+2) 27 (.agg #[.int .i64 x0, .int .i64 x1, .int .i64 x2]) (.agg #[.int .i64 y0, .int .i64 y1, .int .i64 y2])).run Try.prog w= .ok (x0==y0 && (x1==y1 && (x2==y2))) w:=by
 refine eqA_of Try.underlying27 (by kernel_rfl) ?_
 refine eqf_cons (by rfl) (by go_simp;rfl) (by go_simp;rfl) (by go_simp) ?_
 refine eqf_cons (by rfl) (by go_simp;rfl) (by go_simp;rfl) (by go_simp) ?_
 exact eqf_last (by rfl) (by go_simp;rfl) (by go_simp;rfl) (by go_simp)
def r10_Le.f (a0_0:Int) (a0_1:Int) (a0_2:Int) (a1_0:Int) (a1_1:Int) (a1_2:Int):Option (Bool):=if a0_0≤a1_0 then (if a0_1≤a1_1 then (some (decide (a0_2≤a1_2))) else (some false)) else (some false)
set_option maxHeartbeats 8000000 in
set_option maxRecDepth 100000 in
theorem r10_Le.calls (a0_0:Int) (a0_1:Int) (a0_2:Int) (a1_0:Int) (a1_1:Int) (a1_2:Int) (r:Bool) (w:World) (h:r10_Le.f a0_0 a0_1 a0_2 a1_0 a1_1 a1_2=some r):
  Calls Try.prog 34 #[.agg #[.int .i64 a0_0, .int .i64 a0_1, .int .i64 a0_2], .agg #[.int .i64 a1_0, .int .i64 a1_1, .int .i64 a1_2]] w fun e w'=>e= .returned (.bool r)∧Below w.heap.size w w':=by
 have hu27:=Try.underlying27
 have HB:=am_ (Below.refl w.heap.size w)
 have H:(if a0_0≤a1_0 then (if a0_1≤a1_1 then (some (decide (a0_2≤a1_2))) else (some false)) else (some false))=some r:=h
 clear h
 by_cases c3:a0_0≤a1_0
 rotate_left
 ·rw [if_neg c3] at H
  have c3b0:decide (a0_0≤a1_0)=false:=decide_eq_false c3
  clear c3
  obtain rfl:=Option.some.inj H
  go_enter Try.func34,Try.ntmps34
  go_wp2_with (first|((with_reducible refine gate_dst (N:=2) rfl ?_);refine bx_ (N:=2) (cs:=#[.int .i64 a0_0, .int .i64 a0_1, .int .i64 a0_2]) (t:=27) ?_;intro gb1 hg w15 hbox hb;have BK1:=am_ (hbox);have GW1:=am_ ((zg0_ HB hg:w.heap.size≤gb1));have GE1:=am_ ((zg0_ HB hg:w.heap.size≤gb1));replace HB:=am_ (below_step (zl0_ HB) hb);clear hb hbox hg)|((with_reducible refine gate_dst (N:=3) rfl ?_);refine bx_ (N:=3) (cs:=#[.int .i64 a1_0, .int .i64 a1_1, .int .i64 a1_2]) (t:=27) ?_;intro gb2 hg w16 hbox hb;have BK2:=am_ (hbox);have GW2:=am_ ((zg1_ HB GE1 hg:w.heap.size≤gb2));have GE2:=am_ ((zg1_ HB GE1 hg:w.heap.size≤gb2));replace HB:=am_ (below_step (zl1_ HB GE1) hb);have NB1_2:=am_ ((zn_ BK1 hg:gb1≠gb2));have NB2_1:=am_ ((zm_ BK1 hg:gb2≠gb1));replace BK1:=am_ (blk_below (zb_ BK1) hb);clear hb hbox hg;have hnb17:=NB1_2.out;have hnc17:=NB2_1.out;obtain ⟨hcz18_0,hcz18_1,hcz18_2,hfz18_0,hfz18_1,hfz18_2⟩:=y3_ BK1;obtain ⟨hcz19_0,hcz19_1,hcz19_2⟩:=x3_ BK2;have hfz19_0:=blk_frozen BK2.out 0;have hfz19_1:=blk_frozen BK2.out 1;have hfz19_2:=blk_frozen BK2.out 2))
  go_ret
  exact ⟨by first|rfl|(simp [errW_none,errW_some]<;>rfl)|(simp [*,errW_none,errW_some]<;>rfl),zl2_ HB GE1 GE2⟩

 rw [if_pos c3] at H
 have c3b0:decide (a0_0≤a1_0)=true:=decide_eq_true c3
 clear c3
 by_cases c4:a0_1≤a1_1
 ·rw [if_pos c4] at H
  have c4b0:decide (a0_1≤a1_1)=true:=decide_eq_true c4
  clear c4
  obtain rfl:=Option.some.inj H
  go_enter Try.func34,Try.ntmps34
  go_wp2_with (first|((with_reducible refine gate_dst (N:=2) rfl ?_);refine bx_ (N:=2) (cs:=#[.int .i64 a0_0, .int .i64 a0_1, .int .i64 a0_2]) (t:=27) ?_;intro gb1 hg w5 hbox hb;have BK1:=am_ (hbox);have GW1:=am_ ((zg0_ HB hg:w.heap.size≤gb1));have GE1:=am_ ((zg0_ HB hg:w.heap.size≤gb1));replace HB:=am_ (below_step (zl0_ HB) hb);clear hb hbox hg)|((with_reducible refine gate_dst (N:=3) rfl ?_);refine bx_ (N:=3) (cs:=#[.int .i64 a1_0, .int .i64 a1_1, .int .i64 a1_2]) (t:=27) ?_;intro gb2 hg w6 hbox hb;have BK2:=am_ (hbox);have GW2:=am_ ((zg1_ HB GE1 hg:w.heap.size≤gb2));have GE2:=am_ ((zg1_ HB GE1 hg:w.heap.size≤gb2));replace HB:=am_ (below_step (zl1_ HB GE1) hb);have NB1_2:=am_ ((zn_ BK1 hg:gb1≠gb2));have NB2_1:=am_ ((zm_ BK1 hg:gb2≠gb1));replace BK1:=am_ (blk_below (zb_ BK1) hb);clear hb hbox hg;have hnb7:=NB1_2.out;have hnc7:=NB2_1.out;obtain ⟨hcz8_0,hcz8_1,hcz8_2,hfz8_0,hfz8_1,hfz8_2⟩:=y3_ BK1;obtain ⟨hcz9_0,hcz9_1,hcz9_2⟩:=x3_ BK2;have hfz9_0:=blk_frozen BK2.out 0;have hfz9_1:=blk_frozen BK2.out 1;have hfz9_2:=blk_frozen BK2.out 2))
  go_ret
  exact ⟨by first|rfl|(simp [errW_none,errW_some]<;>rfl)|(simp [*,errW_none,errW_some]<;>rfl),zl2_ HB GE1 GE2⟩
 rw [if_neg c4] at H
 have c4b0:decide (a0_1≤a1_1)=false:=decide_eq_false c4
 clear c4
 obtain rfl:=Option.some.inj H
 go_enter Try.func34,Try.ntmps34
 go_wp2_with (first|((with_reducible refine gate_dst (N:=2) rfl ?_);refine bx_ (N:=2) (cs:=#[.int .i64 a0_0, .int .i64 a0_1, .int .i64 a0_2]) (t:=27) ?_;intro gb1 hg w10 hbox hb;have BK1:=am_ (hbox);have GW1:=am_ ((zg0_ HB hg:w.heap.size≤gb1));have GE1:=am_ ((zg0_ HB hg:w.heap.size≤gb1));replace HB:=am_ (below_step (zl0_ HB) hb);clear hb hbox hg)|((with_reducible refine gate_dst (N:=3) rfl ?_);refine bx_ (N:=3) (cs:=#[.int .i64 a1_0, .int .i64 a1_1, .int .i64 a1_2]) (t:=27) ?_;intro gb2 hg w11 hbox hb;have BK2:=am_ (hbox);have GW2:=am_ ((zg1_ HB GE1 hg:w.heap.size≤gb2));have GE2:=am_ ((zg1_ HB GE1 hg:w.heap.size≤gb2));replace HB:=am_ (below_step (zl1_ HB GE1) hb);have NB1_2:=am_ ((zn_ BK1 hg:gb1≠gb2));have NB2_1:=am_ ((zm_ BK1 hg:gb2≠gb1));replace BK1:=am_ (blk_below (zb_ BK1) hb);clear hb hbox hg;have hnb12:=NB1_2.out;have hnc12:=NB2_1.out;obtain ⟨hcz13_0,hcz13_1,hcz13_2,hfz13_0,hfz13_1,hfz13_2⟩:=y3_ BK1;obtain ⟨hcz14_0,hcz14_1,hcz14_2⟩:=x3_ BK2;have hfz14_0:=blk_frozen BK2.out 0;have hfz14_1:=blk_frozen BK2.out 1;have hfz14_2:=blk_frozen BK2.out 2))
 go_ret
 exact ⟨by first|rfl|(simp [errW_none,errW_some]<;>rfl)|(simp [*,errW_none,errW_some]<;>rfl),zl2_ HB GE1 GE2⟩
def r10_Find.l0:Nat→List (S31)→ByteArray→Int→Option (Int)
 |0,_,_,_=>none
 |k+1,x0,x1,x5=>if x5<(x0.length:Int) then (if 0≤x5 then (if ((rd_T31 x0 x5).f0).toList=x1.toList then (some x5) else (r10_Find.l0 k x0 x1 (wrap64 (x5+1)))) else (none)) else (some (-1))
def r10_Find.f (k:Nat) (l0:List (S31)) (a1:ByteArray):Option (Int):=r10_Find.l0 k l0 a1 0
theorem r10_Find.mono_l: ∀k,(∀y0 y1 y2,LeO (r10_Find.l0 k y0 y1 y2) (r10_Find.l0 (k+1) y0 y1 y2))
 |0=>fun _ _ _ r h=>by simp [r10_Find.l0] at h
 |k+1=>by
  have ih0:=r10_Find.mono_l k
  intro y0 y1 y2
  unfold r10_Find.l0
  repeat' first
  |(with_reducible exact ih0 _ _ _)
  |(with_reducible exact LeO.refl _)
  |(with_reducible exact LeO.none _)
  |(with_reducible refine LeO.ite ?_ ?_)
  |(with_reducible refine LeO.bind ?_ (fun _=> ?_))
  |exact ih0 _ _ _
  |exact LeO.none _
  |refine LeO.ite ?_ ?_
  |refine LeO.bind ?_ (fun _=> ?_)
theorem r10_Find.mono: ∀a0 a1 k,LeO (r10_Find.f k a0 a1) (r10_Find.f (k+1) a0 a1):=by
 intro a0 a1 k
 have ih0:=r10_Find.mono_l k
 unfold r10_Find.f
 repeat' first
  |(with_reducible exact ih0 _ _ _)
  |(with_reducible exact LeO.refl _)
  |(with_reducible exact LeO.none _)
  |(with_reducible refine LeO.ite ?_ ?_)
  |(with_reducible refine LeO.bind ?_ (fun _=> ?_))
  |exact ih0 _ _ _
  |exact LeO.none _
  |refine LeO.ite ?_ ?_
  |refine LeO.bind ?_ (fun _=> ?_)
set_option maxHeartbeats 8000000 in
set_option maxRecDepth 100000 in
theorem r10_Find.calls (k:Nat) (A0:Option Addr) (c0:Nat) (l0:List (S31)) (a1:ByteArray) (r:Int) (w:World) (hr0:Kd.C k31 w A0 l0.length l0) (hc0:l0.length≤c0) (h:r10_Find.f k l0 a1=some r):
  Calls Try.prog 50 #[.slice A0 l0.length c0, .string a1] w fun e w'=>e= .returned (.int .i64 r)∧Drawn0 w w':=by
 have HR0:=Aside0.mk hr0
 have HC0:=Aside0.mk hc0
 clear hr0 hc0
 have H:(r10_Find.l0 k l0 a1 0)=some r:=h
 clear h
 have H':=Aside0.mk H
 clear H
 go_enter Try.func50,Try.ntmps50
 go_wp2
 go_loopg [5] k (fun kq v5 w'=> ∃(x5_1:Int),v5= .int .i64 x5_1∧Aside0 (r10_Find.l0 kq l0 a1 x5_1=some r)∧Aside0 (kq≤k)∧Drawn0 w w')
 case atStart=>exact ⟨(0),(by first|rfl|(simp;done)|(simp [*];done)),H',⟨Nat.le_refl _⟩,by repeat (first|exact Drawn0.refl _|apply Drawn0.step)⟩
 case round=>
  clear H'
  try clear p2
  obtain ⟨x5_1,rfl,HA,HK1,⟨m1,rfl⟩⟩:=hrel
  cases gk with
  |zero=>exact absurd HA.out (by simp [r10_Find.l0])
  |succ k1=>
   have H:=HA.out
   clear HA
   simp only [r10_Find.l0] at H
   by_cases c3:x5_1<(l0.length:Int)
   rotate_left
   ·rw [if_neg c3] at H
    have c3b0:decide (x5_1<(l0.length:Int))=false:=decide_eq_false c3
    clear c3
    obtain rfl:=Option.some.inj H
    go_wp2
    go_ret
    exact ⟨by first|rfl|(simp;done)|(simp [*];done),by repeat (first|exact Drawn0.refl _|apply Drawn0.step)⟩

   rw [if_pos c3] at H
   have c3b0:decide (x5_1<(l0.length:Int))=true:=decide_eq_true c3
   clear c3
   by_cases c4:0≤x5_1
   rotate_left
   ·rw [if_neg c4] at H
    exact absurd H (by simp)
   rw [if_pos c4] at H
   have c4b0:decide (0≤x5_1)=true:=decide_eq_true c4
   clear c4
   by_cases c5:((rd_T31 l0 x5_1).f0).toList=a1.toList
   ·rw [if_pos c5] at H
    have c5b0:(((rd_T31 l0 x5_1).f0).toList==a1.toList)=true:=beq_iff_eq.mpr c5
    have c5b1:(((rd_T31 l0 x5_1).f0).toList !=a1.toList)=false:=bne_eq_false_iff_eq.mpr c5
    clear c5
    obtain rfl:=Option.some.inj H
    have p1:0≤(x5_1:Int):=of_decide_eq_true zq_
    have q1:x5_1<(l0.length:Int):=of_decide_eq_true zq_
    obtain ⟨ad1,e1,hx1_0,hx1_1,hx1_2,hx1_3,hx1_4,hx1_5,hx1_6,hx1_7,hx1_8,hx1_9,hx1_10,hx1_11⟩:=at_T31 HR0.out x5_1 p1 q1
    cases e1
    replace p1:=eq_true p1
    replace q1:=eq_true q1
    go_wp2
    go_ret
    exact ⟨by first|rfl|(simp;done)|(simp [*];done),by repeat (first|exact Drawn0.refl _|apply Drawn0.step)⟩
   rw [if_neg c5] at H
   have c5b0:(((rd_T31 l0 x5_1).f0).toList==a1.toList)=false:=beq_eq_false_iff_ne.mpr c5
   have c5b1:(((rd_T31 l0 x5_1).f0).toList !=a1.toList)=true:=bne_iff_ne.mpr c5
   have H':=Aside0.mk H
   clear H
   have p1:0≤(x5_1:Int):=of_decide_eq_true zq_
   have q1:x5_1<(l0.length:Int):=of_decide_eq_true zq_
   obtain ⟨ad1,e1,hx1_0,hx1_1,hx1_2,hx1_3,hx1_4,hx1_5,hx1_6,hx1_7,hx1_8,hx1_9,hx1_10,hx1_11⟩:=at_T31 HR0.out x5_1 p1 q1
   cases e1
   replace p1:=eq_true p1
   replace q1:=eq_true q1
   go_wp2
   go_roundg k1
   case measure=>have:=HK1.out;omega
   case rel=>exact ⟨(wrap64 (x5_1+1)),(by first|rfl|(simp;done)|(simp [*];done)),H',⟨by have:=HK1.out;omega⟩,by repeat (first|exact Drawn0.refl _|apply Drawn0.step)⟩
def r10_Add.f (a0_0:Int) (a0_1:Int) (a0_2:Int) (a1_0:Int) (a1_1:Int) (a1_2:Int):Option (Int×Int×Int):=some (wrap64 (a0_0+a1_0),wrap64 (a0_1+a1_1),wrap64 (a0_2+a1_2))
set_option maxHeartbeats 8000000 in
set_option maxRecDepth 100000 in
theorem r10_Add.calls (a0_0:Int) (a0_1:Int) (a0_2:Int) (a1_0:Int) (a1_1:Int) (a1_2:Int) (r1:Int) (r2:Int) (r3:Int) (w:World) (h:r10_Add.f a0_0 a0_1 a0_2 a1_0 a1_1 a1_2=some (r1,r2,r3)):
  Calls Try.prog 63 #[.agg #[.int .i64 a0_0, .int .i64 a0_1, .int .i64 a0_2], .agg #[.int .i64 a1_0, .int .i64 a1_1, .int .i64 a1_2]] w fun e w'=>e= .returned (.agg #[.int .i64 r1, .int .i64 r2, .int .i64 r3])∧Below w.heap.size w w':=by
 have hu27:=Try.underlying27
 have HB:=am_ (Below.refl w.heap.size w)
 have H:(some (wrap64 (a0_0+a1_0),wrap64 (a0_1+a1_1),wrap64 (a0_2+a1_2)))=some (r1,r2,r3):=h
 clear h
 simp only [Option.some.injEq,Prod.mk.injEq] at H
 obtain ⟨rfl,rfl,rfl⟩:=H
 go_enter Try.func63,Try.ntmps63
 go_wp2_with (first|((with_reducible refine gate_dst (N:=2) rfl ?_);refine bx_ (N:=2) (cs:=#[.int .i64 a0_0, .int .i64 a0_1, .int .i64 a0_2]) (t:=27) ?_;intro gb1 hg w3 hbox hb;have BK1:=am_ (hbox);have GW1:=am_ ((zg0_ HB hg:w.heap.size≤gb1));have GE1:=am_ ((zg0_ HB hg:w.heap.size≤gb1));replace HB:=am_ (below_step (zl0_ HB) hb);clear hb hbox hg)|((with_reducible refine gate_dst (N:=3) rfl ?_);refine bx_ (N:=3) (cs:=#[.int .i64 a1_0, .int .i64 a1_1, .int .i64 a1_2]) (t:=27) ?_;intro gb2 hg w4 hbox hb;have BK2:=am_ (hbox);have GW2:=am_ ((zg1_ HB GE1 hg:w.heap.size≤gb2));have GE2:=am_ ((zg1_ HB GE1 hg:w.heap.size≤gb2));replace HB:=am_ (below_step (zl1_ HB GE1) hb);have NB1_2:=am_ ((zn_ BK1 hg:gb1≠gb2));have NB2_1:=am_ ((zm_ BK1 hg:gb2≠gb1));replace BK1:=am_ (blk_below (zb_ BK1) hb);clear hb hbox hg)|((with_reducible refine gate_dst (N:=4) rfl ?_);refine bx_ (N:=4) (cs:=#[.int .i64 0, .int .i64 0, .int .i64 0]) (t:=27) ?_;intro gb3 hg w5 hbox hb;have BK3:=am_ (hbox);have GW3:=am_ ((zg2_ HB GE1 GE2 hg:w.heap.size≤gb3));have GE3:=am_ ((zg2_ HB GE1 GE2 hg:w.heap.size≤gb3));replace HB:=am_ (below_step (zl2_ HB GE1 GE2) hb);have NB1_3:=am_ ((zn_ BK1 hg:gb1≠gb3));have NB3_1:=am_ ((zm_ BK1 hg:gb3≠gb1));replace BK1:=am_ (blk_below (zb_ BK1) hb);have NB2_3:=am_ ((zn_ BK2 hg:gb2≠gb3));have NB3_2:=am_ ((zm_ BK2 hg:gb3≠gb2));replace BK2:=am_ (blk_below (zb_ BK2) hb);clear hb hbox hg;have hnb6:=NB1_2.out;have hnc6:=NB2_1.out;have hnb7:=NB1_3.out;have hnc7:=NB3_1.out;obtain ⟨hcz8_0,hcz8_1,hcz8_2,hfz8_0,hfz8_1,hfz8_2⟩:=y3_ BK1;have hnb9:=NB2_3.out;have hnc9:=NB3_2.out;obtain ⟨hcz10_0,hcz10_1,hcz10_2,hfz10_0,hfz10_1,hfz10_2⟩:=y3_ BK2;obtain ⟨hcz11_0,hcz11_1,hcz11_2⟩:=x3_ BK3;have hfz11_0:=blk_frozen BK3.out 0;have hfz11_1:=blk_frozen BK3.out 1;have hfz11_2:=blk_frozen BK3.out 2))
 refine bodyPost_ret (results_cell_row rfl _ _ gb3 27 #[.int .i64 (wrap64 (a0_0+a1_0)), .int .i64 (wrap64 (a0_1+a1_1)), .int .i64 (wrap64 (a0_2+a1_2))] (0,0) _ rfl (zw_ BK3) Try.underlying27 rfl (by kernel_rfl)) rfl ?_
 exact ⟨by first|rfl|(simp [errW_none,errW_some]<;>rfl)|(simp [*,errW_none,errW_some]<;>rfl),zl3_ HB GE1 GE2 GE3⟩

def r10_unit.f (a0:Int):Option (Bool):=if a0≥0 then (some (decide (a0≤1099511627776))) else (some false)
set_option maxHeartbeats 8000000 in
set_option maxRecDepth 100000 in
theorem r10_unit.calls (a0:Int) (r:Bool) (w:World) (h:r10_unit.f a0=some r):
  Calls Try.prog 123 #[.int .i64 a0] w fun e w'=>e= .returned (.bool r)∧Drawn0 w w':=by
 have H:(if a0≥0 then (some (decide (a0≤1099511627776))) else (some false))=some r:=h
 clear h
 by_cases c2:a0≥0
 ·rw [if_pos c2] at H
  have c2b0:decide (0≤a0)=true:=decide_eq_true c2
  clear c2
  obtain rfl:=Option.some.inj H
  go_enter Try.func123,Try.ntmps123
  go_wp2
  go_ret
  exact ⟨by first|rfl|(simp;done)|(simp [*];done),by repeat (first|exact Drawn0.refl _|apply Drawn0.step)⟩
 rw [if_neg c2] at H
 have c2b0:decide (0≤a0)=false:=decide_eq_false c2
 clear c2
 obtain rfl:=Option.some.inj H
 go_enter Try.func123,Try.ntmps123
 go_wp2
 go_ret
 exact ⟨by first|rfl|(simp;done)|(simp [*];done),by repeat (first|exact Drawn0.refl _|apply Drawn0.step)⟩

def r10_MayVec.f (a0_0:Int) (a0_1:Int) (a0_2:Int):Option (Bool):=(r10_unit.f a0_0).bind fun t2=>(if t2=true then ((r10_unit.f a0_1).bind fun t3=>(if t3=true then ((r10_unit.f a0_2).bind fun t4=>(some t4)) else (some false))) else (some false))
set_option maxHeartbeats 8000000 in
set_option maxRecDepth 100000 in
theorem r10_MayVec.calls (a0_0:Int) (a0_1:Int) (a0_2:Int) (r:Bool) (w:World) (h:r10_MayVec.f a0_0 a0_1 a0_2=some r):
  Calls Try.prog 65 #[.agg #[.int .i64 a0_0, .int .i64 a0_1, .int .i64 a0_2]] w fun e w'=>e= .returned (.bool r)∧Below w.heap.size w w':=by
 have hu27:=Try.underlying27
 have HB:=am_ (Below.refl w.heap.size w)
 have H:((r10_unit.f a0_0).bind fun t2=>(if t2=true then ((r10_unit.f a0_1).bind fun t3=>(if t3=true then ((r10_unit.f a0_2).bind fun t4=>(some t4)) else (some false))) else (some false)))=some r:=h
 clear h
 replace H:=Option.bind_eq_some_iff.mp H
 obtain ⟨t2,A20,H⟩:=H
 try dsimp only at H
 have A2:=Aside0.mk A20
 clear A20
 by_cases c3:t2=true
 rotate_left
 ·replace c3:=Bool.eq_false_iff.mpr c3
  subst c3
  have H1:(some false)=some r:=by rw [if_neg (show¬(false=true) by decide)] at H;exact H
  clear H
  have H:=H1
  clear H1
  obtain rfl:=Option.some.inj H
  go_enter Try.func65,Try.ntmps65
  go_wp2_with (first|((with_reducible refine gate_dst (N:=1) rfl ?_);refine bx_ (N:=1) (cs:=#[.int .i64 a0_0, .int .i64 a0_1, .int .i64 a0_2]) (t:=27) ?_;intro gb1 hg w11 hbox hb;have BK1:=am_ (hbox);have GW1:=am_ ((zg0_ HB hg:w.heap.size≤gb1));have GE1:=am_ ((zg0_ HB hg:w.heap.size≤gb1));replace HB:=am_ (below_step (zl0_ HB) hb);clear hb hbox hg;obtain ⟨hcz12_0,hcz12_1,hcz12_2⟩:=x3_ BK1;have hfz12_0:=blk_frozen BK1.out 0;have hfz12_1:=blk_frozen BK1.out 1;have hfz12_2:=blk_frozen BK1.out 2)|((with_reducible refine gate_callee (f:=123) rfl ?_);refine gl_ (some 5) Try.func123 #[.int .i64 a0_0] ?_;(with_reducible refine (r10_unit.calls a0_0 false _ A2.out).mono ?_);rintro e w' ⟨rfl,⟨nd,rfl⟩⟩;refine ⟨_,rfl, ?_⟩))
  go_ret
  exact ⟨by first|rfl|(simp [errW_none,errW_some]<;>rfl)|(simp [*,errW_none,errW_some]<;>rfl),zl1_ HB GE1⟩

 subst c3
 have H1:((r10_unit.f a0_1).bind fun t3=>(if t3=true then ((r10_unit.f a0_2).bind fun t4=>(some t4)) else (some false)))=some r:=by rw [if_pos rfl] at H;exact H
 clear H
 have H:=H1
 clear H1
 replace H:=Option.bind_eq_some_iff.mp H
 obtain ⟨t3,A40,H⟩:=H
 try dsimp only at H
 have A4:=Aside0.mk A40
 clear A40
 by_cases c5:t3=true
 rotate_left
 ·replace c5:=Bool.eq_false_iff.mpr c5
  subst c5
  have H1:(some false)=some r:=by rw [if_neg (show¬(false=true) by decide)] at H;exact H
  clear H
  have H:=H1
  clear H1
  obtain rfl:=Option.some.inj H
  go_enter Try.func65,Try.ntmps65
  go_wp2_with (first|((with_reducible refine gate_dst (N:=1) rfl ?_);refine bx_ (N:=1) (cs:=#[.int .i64 a0_0, .int .i64 a0_1, .int .i64 a0_2]) (t:=27) ?_;intro gb1 hg w9 hbox hb;have BK1:=am_ (hbox);have GW1:=am_ ((zg0_ HB hg:w.heap.size≤gb1));have GE1:=am_ ((zg0_ HB hg:w.heap.size≤gb1));replace HB:=am_ (below_step (zl0_ HB) hb);clear hb hbox hg;obtain ⟨hcz10_0,hcz10_1,hcz10_2⟩:=x3_ BK1;have hfz10_0:=blk_frozen BK1.out 0;have hfz10_1:=blk_frozen BK1.out 1;have hfz10_2:=blk_frozen BK1.out 2)|((with_reducible refine gate_callee (f:=123) rfl ?_);refine gl_ (some 5) Try.func123 #[.int .i64 a0_0] ?_;(with_reducible refine (r10_unit.calls a0_0 true _ A2.out).mono ?_);rintro e w' ⟨rfl,⟨nd,rfl⟩⟩;refine ⟨_,rfl, ?_⟩)|(go_at_call 123;(with_reducible refine (r10_unit.calls a0_1 false _ A4.out).mono ?_);rintro e w' ⟨rfl,⟨nd,rfl⟩⟩))
  go_ret
  exact ⟨by first|rfl|(simp [errW_none,errW_some]<;>rfl)|(simp [*,errW_none,errW_some]<;>rfl),zl1_ HB GE1⟩
 subst c5
 have H1:((r10_unit.f a0_2).bind fun t4=>(some t4))=some r:=by rw [if_pos rfl] at H;exact H
 clear H
 have H:=H1
 clear H1
 replace H:=Option.bind_eq_some_iff.mp H
 obtain ⟨t4,A60,H⟩:=H
 try dsimp only at H
 have A6:=Aside0.mk A60
 clear A60
 obtain rfl:=Option.some.inj H
 go_enter Try.func65,Try.ntmps65
 go_wp2_with (first|((with_reducible refine gate_dst (N:=1) rfl ?_);refine bx_ (N:=1) (cs:=#[.int .i64 a0_0, .int .i64 a0_1, .int .i64 a0_2]) (t:=27) ?_;intro gb1 hg w7 hbox hb;have BK1:=am_ (hbox);have GW1:=am_ ((zg0_ HB hg:w.heap.size≤gb1));have GE1:=am_ ((zg0_ HB hg:w.heap.size≤gb1));replace HB:=am_ (below_step (zl0_ HB) hb);clear hb hbox hg;obtain ⟨hcz8_0,hcz8_1,hcz8_2⟩:=x3_ BK1;have hfz8_0:=blk_frozen BK1.out 0;have hfz8_1:=blk_frozen BK1.out 1;have hfz8_2:=blk_frozen BK1.out 2)|((with_reducible refine gate_callee (f:=123) rfl ?_);refine gl_ (some 5) Try.func123 #[.int .i64 a0_0] ?_;(with_reducible refine (r10_unit.calls a0_0 true _ A2.out).mono ?_);rintro e w' ⟨rfl,⟨nd,rfl⟩⟩;refine ⟨_,rfl, ?_⟩)|(go_at_call 123;(with_reducible refine (r10_unit.calls a0_1 true _ A4.out).mono ?_);rintro e w' ⟨rfl,⟨nd,rfl⟩⟩)|(go_at_call 123;(with_reducible refine (r10_unit.calls a0_2 t4 _ A6.out).mono ?_);rintro e w' ⟨rfl,⟨nd,rfl⟩⟩))
 go_ret
 exact ⟨by first|rfl|(simp [errW_none,errW_some]<;>rfl)|(simp [*,errW_none,errW_some]<;>rfl),zl1_ HB GE1⟩
def r10_MayName.f (a0:ByteArray):Option (Bool):=if a0.toList=([]:List UInt8) then (some false) else (some (decide ((a0.size:Int)≤24)))
set_option maxHeartbeats 8000000 in
set_option maxRecDepth 100000 in
theorem r10_MayName.calls (a0:ByteArray) (r:Bool) (w:World) (h:r10_MayName.f a0=some r):
  Calls Try.prog 105 #[.string a0] w fun e w'=>e= .returned (.bool r)∧Drawn0 w w':=by
 have H:(if a0.toList=([]:List UInt8) then (some false) else (some (decide ((a0.size:Int)≤24))))=some r:=h
 clear h
 by_cases c2:a0.toList=([]:List UInt8)
 ·rw [if_pos c2] at H
  have c2b0:(a0.toList==([]:List UInt8))=true:=beq_iff_eq.mpr c2
  have c2b1:(a0.toList !=([]:List UInt8))=false:=bne_eq_false_iff_eq.mpr c2
  clear c2
  obtain rfl:=Option.some.inj H
  go_enter Try.func105,Try.ntmps105
  go_wp2
  go_ret
  exact ⟨by first|rfl|(simp;done)|(simp [*];done),by repeat (first|exact Drawn0.refl _|apply Drawn0.step)⟩
 rw [if_neg c2] at H
 have c2b0:(a0.toList==([]:List UInt8))=false:=beq_eq_false_iff_ne.mpr c2
 have c2b1:(a0.toList !=([]:List UInt8))=true:=bne_iff_ne.mpr c2
 obtain rfl:=Option.some.inj H
 go_enter Try.func105,Try.ntmps105
 go_wp2
 go_ret
 exact ⟨by first|rfl|(simp;done)|(simp [*];done),by repeat (first|exact Drawn0.refl _|apply Drawn0.step)⟩

def r10_Up.l0:Nat→List (S31)→List ByteArray→Int→Option (List ByteArray)
 |0,_,_,_=>none
 |k+1,x0,x5,x6=>if x6≥0 then (if (x5.length:Int)≤(x0.length:Int) then (if 0≤x6 then (if x6<(x0.length:Int) then (if x5.length<8796093022208 then ((r10_Find.f k x0 ((rd_T31 x0 x6).f1)).bind fun t7=>(r10_Up.l0 k x0 (x5++ [(rd_T31 x0 x6).f0]) t7)) else (none)) else (none)) else (none)) else (some x5)) else (some x5)
def r10_Up.f (k:Nat) (l0:List (S31)) (a1:ByteArray):Option (List ByteArray):=(r10_Find.f k l0 a1).bind fun t1=>(r10_Up.l0 k l0 ([]:List ByteArray) t1)
theorem r10_Up.mono_l: ∀k,(∀y0 y1 y2,LeO (r10_Up.l0 k y0 y1 y2) (r10_Up.l0 (k+1) y0 y1 y2))
 |0=>fun _ _ _ r h=>by simp [r10_Up.l0] at h
 |k+1=>by
  have ih0:=r10_Up.mono_l k
  intro y0 y1 y2
  unfold r10_Up.l0
  repeat' first
  |(with_reducible exact ih0 _ _ _)
  |(with_reducible exact r10_Find.mono _ _ _)
  |(with_reducible exact LeO.refl _)
  |(with_reducible exact LeO.none _)
  |(with_reducible refine LeO.ite ?_ ?_)
  |(with_reducible refine LeO.bind ?_ (fun _=> ?_))
  |exact ih0 _ _ _
  |exact r10_Find.mono _ _ _
  |exact LeO.none _
  |refine LeO.ite ?_ ?_
  |refine LeO.bind ?_ (fun _=> ?_)
theorem r10_Up.mono: ∀a0 a1 k,LeO (r10_Up.f k a0 a1) (r10_Up.f (k+1) a0 a1):=by
 intro a0 a1 k
 have ih0:=r10_Up.mono_l k
 unfold r10_Up.f
 repeat' first
  |(with_reducible exact ih0 _ _ _)
  |(with_reducible exact r10_Find.mono _ _ _)
  |(with_reducible exact LeO.refl _)
  |(with_reducible exact LeO.none _)
  |(with_reducible refine LeO.ite ?_ ?_)
  |(with_reducible refine LeO.bind ?_ (fun _=> ?_))
  |exact ih0 _ _ _
  |exact r10_Find.mono _ _ _
  |exact LeO.none _
  |refine LeO.ite ?_ ?_
  |refine LeO.bind ?_ (fun _=> ?_)
set_option maxHeartbeats 8000000 in
set_option maxRecDepth 100000 in
theorem r10_Up.calls (k:Nat) (A0:Option Addr) (c0:Nat) (l0:List (S31)) (a1:ByteArray) (r:List ByteArray) (w:World) (hr0:Kd.C k31 w A0 l0.length l0) (hc0:l0.length≤c0) (h:r10_Up.f k l0 a1=some r):
  Calls Try.prog 106 #[.slice A0 l0.length c0, .string a1] w fun e w'=> ∃v0_:Value,e= .returned (v0_)∧Kd.R Kd.string 9 w' w.heap.size (fun _=>True) v0_ r∧Below w.heap.size w w':=by
 have HR0:=Aside0.mk hr0
 have HC0:=Aside0.mk hc0
 clear hr0 hc0
 have HB:=am_ (Below.refl w.heap.size w)
 have H:((r10_Find.f k l0 a1).bind fun t1=>(r10_Up.l0 k l0 ([]:List ByteArray) t1))=some r:=h
 clear h
 replace H:=Option.bind_eq_some_iff.mp H
 obtain ⟨t1,A30,H⟩:=H
 try dsimp only at H
 have A3:=Aside0.mk A30
 clear A30
 have H':=Aside0.mk H
 clear H
 go_enter Try.func106,Try.ntmps106
 go_wp2_with (first|((with_reducible refine gate_callee (f:=50) rfl ?_);refine gl_ (some 9) Try.func50 #[.slice A0 l0.length c0, .string a1] ?_;(with_reducible refine (r10_Find.calls k _ _ l0 a1 t1 _ ?side1 ?side2 A3.out).mono ?_);(case side1=>repeat (first|exact HR0.out|(with_reducible refine Kd.C_alloc ?_ _)|(with_reducible refine Kd.C_drewN ?_ _)|(with_reducible refine Kd.C_drew ?_)));(case side2=>exact HC0.out);rintro e w' ⟨rfl,⟨nd,rfl⟩⟩;refine ⟨_,rfl, ?_⟩))
 go_loopg [5,6] k (fun kq v5 v6 w'=> ∃(x5_1:List ByteArray) (x6_1:Int),v6= .int .i64 x6_1∧Aside0 (r10_Up.l0 kq l0 x5_1 x6_1=some r)∧Aside0 (kq≤k)∧Aside0 (Kd.R Kd.string 9 w' w.heap.size (fun _=>True) v5 x5_1)∧Aside0 (Below w.heap.size w w'))
 case atStart=>exact ⟨(([]:List ByteArray)),(t1),(by first|rfl|(simp;done)|(simp [*];done)),H',⟨Nat.le_refl _⟩,⟨by first|exact Kd.R_nil _ _ _ _ _|exact Kd.N_nil _ _ _ _ _|exact Kd.V_nil _ _ _ _ _|exact Kd.Q_nil _ _ _ _ _|exact Kd.S_nil _ _ _ _ _⟩,⟨zl0_ HB⟩⟩
 case round=>
  clear H'
  try clear c1
  try clear p2
  obtain ⟨x5_1,x6_1,rfl,HA,HK1,HO_5,HB⟩:=hrel
  cases gk with
  |zero=>exact absurd HA.out (by simp [r10_Up.l0])
  |succ k1=>
   have H:=HA.out
   clear HA
   simp only [r10_Up.l0] at H
   by_cases c4:x6_1≥0
   rotate_left
   ·rw [if_neg c4] at H
    have c4b0:decide (0≤x6_1)=false:=decide_eq_false c4
    clear c4
    obtain rfl:=Option.some.inj H
    go_wp2
    go_ret
    exact ⟨_,by first|rfl|(simp [errW_none,errW_some]<;>rfl)|(simp [*,errW_none,errW_some]<;>rfl),by (with_reducible repeat (first|apply Kd.R_alloc|apply Kd.R_drewN|apply Kd.R_drew));exact HO_5.out,zl0_ HB⟩

   rw [if_pos c4] at H
   have c4b0:decide (0≤x6_1)=true:=decide_eq_true c4
   clear c4
   by_cases c5:(x5_1.length:Int)≤(l0.length:Int)
   rotate_left
   ·rw [if_neg c5] at H
    have c5b0:decide ((x5_1.length:Int)≤(l0.length:Int))=false:=decide_eq_false c5
    have c5b1:decide (x5_1.length≤l0.length)=false:=decide_eq_false (fun h=>c5 (Int.ofNat_le.mpr h))
    clear c5
    obtain rfl:=Option.some.inj H
    obtain ⟨Ao12,co12,eo12⟩:=Kd.R_slice HO_5.out
    subst eo12
    go_wp2
    go_ret
    exact ⟨_,by first|rfl|(simp [errW_none,errW_some]<;>rfl)|(simp [*,errW_none,errW_some]<;>rfl),by (with_reducible repeat (first|apply Kd.R_alloc|apply Kd.R_drewN|apply Kd.R_drew));exact HO_5.out,zl0_ HB⟩
   rw [if_pos c5] at H
   have c5b0:decide ((x5_1.length:Int)≤(l0.length:Int))=true:=decide_eq_true c5
   have c5b1:decide (x5_1.length≤l0.length)=true:=decide_eq_true (Int.ofNat_le.mp c5)
   clear c5
   by_cases c6:0≤x6_1
   rotate_left
   ·rw [if_neg c6] at H
    exact absurd H (by simp)
   rw [if_pos c6] at H
   have c6b0:decide (0≤x6_1)=true:=decide_eq_true c6
   clear c6
   by_cases c7:x6_1<(l0.length:Int)
   rotate_left
   ·rw [if_neg c7] at H
    exact absurd H (by simp)
   rw [if_pos c7] at H
   have c7b0:decide (x6_1<(l0.length:Int))=true:=decide_eq_true c7
   clear c7
   by_cases c8:x5_1.length<8796093022208
   rotate_left
   ·rw [if_neg c8] at H
    exact absurd H (by simp)
   rw [if_pos c8] at H
   have LMc8:=Aside0.mk c8
   clear c8
   obtain ⟨y3,hy3⟩: ∃y_:List ByteArray,y_=(x5_1++ [(rd_T31 l0 x6_1).f0]):=⟨_,rfl⟩
   replace H:((r10_Find.f k1 l0 ((rd_T31 l0 x6_1).f1)).bind fun t7=>(r10_Up.l0 k1 l0 y3 t7))=some r:=by first|(rw [hy3];with_reducible exact H)|(have H2_:=(Option.bind_some _ _).symm.trans H;rw [hy3];with_reducible exact H2_)|(have H2_:=(Option.bind_some _ _).symm.trans H;with_reducible exact H2_)|with_reducible exact H|(rw [hy3];exact H)|exact H
   have Ny3:=Aside0.mk hy3
   clear hy3
   replace H:=Option.bind_eq_some_iff.mp H
   obtain ⟨t7,A90,H⟩:=H
   try dsimp only at H
   have A9:=Aside0.mk A90
   clear A90
   have H':=Aside0.mk H
   clear H
   obtain ⟨Ao10,co10,eo10⟩:=Kd.R_slice HO_5.out
   subst eo10
   have p2:0≤(x6_1:Int):=of_decide_eq_true zq_
   have q2:x6_1<(l0.length:Int):=of_decide_eq_true zq_
   obtain ⟨ad2,e2,hx2_0,hx2_1,hx2_2,hx2_3,hx2_4,hx2_5,hx2_6,hx2_7,hx2_8,hx2_9,hx2_10,hx2_11⟩:=at_T31 HR0.out x6_1 p2 q2
   cases e2
   replace hx2_0:=zx_ HB hx2_0
   replace hx2_1:=zx_ HB hx2_1
   replace hx2_2:=zx_ HB hx2_2
   replace hx2_3:=zx_ HB hx2_3
   replace hx2_4:=zx_ HB hx2_4
   replace hx2_5:=zx_ HB hx2_5
   replace hx2_6:=zx_ HB hx2_6
   replace hx2_7:=zx_ HB hx2_7
   replace hx2_8:=zx_ HB hx2_8
   replace hx2_9:=zx_ HB hx2_9
   replace hx2_10:=zx_ HB hx2_10
   replace hx2_11:=zx_ HB hx2_11
   replace p2:=eq_true p2
   replace q2:=eq_true q2
   go_wp2_with (first|((with_reducible refine gate_builtin (b:= .append) (xs:=#[.tmp 26, .tmp 32]) rfl ?_);(try (refine gate_guard (by rfl) ?_;dsimp only));at_builtin;refine Kd.R_append Kd.string (w0:=w) w.heap.size rfl (.tmp 26) (.tmp 32) 74 9 (.string ⟨#[]⟩) 16 rfl Try.underlying74 info9 rfl (by decide) (by omega) (.slice Ao10 x5_1.length co10) x5_1 ((rd_T31 l0 x6_1).f0) [.string ((rd_T31 l0 x6_1).f0)] (fun _=>True) (fun _=>False) rfl rfl ?aP (fun _ hk=>hk.elim) ?aF ?aO ?aB ?aS ?aL ?_;(case aP=>exact rfl);(case aB=>exact (zl0_ HB));(case aF=>exact (fun _ _=>trivial));(case aO=>exact (zr_ HO_5));(case aS=>exact (below_size (zl0_ HB)));(case aL=>have:=LMc8.out;omega);intro v4 w11 ho hb hg hat;rw [←Ny3.out] at ho;have n0_:=am_ (hb);have n1_:=am_ (ho);clear HB;clear HO_5;have HB:=n0_;have HO5:=n1_;clear n0_ n1_;clear ho hb hg hat;have p6:0≤(x6_1:Int):=of_decide_eq_true zq_;have q6:x6_1<(l0.length:Int):=of_decide_eq_true zq_;obtain ⟨ad6,e6,hx6_0,hx6_1,hx6_2,hx6_3,hx6_4,hx6_5,hx6_6,hx6_7,hx6_8,hx6_9,hx6_10,hx6_11⟩:=at_T31 HR0.out x6_1 p6 q6;obtain rfl:ad2=ad6:=(by injection e6);replace hx6_0:=zx_ HB hx6_0;replace hx6_1:=zx_ HB hx6_1;replace hx6_2:=zx_ HB hx6_2;replace hx6_3:=zx_ HB hx6_3;replace hx6_4:=zx_ HB hx6_4;replace hx6_5:=zx_ HB hx6_5;replace hx6_6:=zx_ HB hx6_6;replace hx6_7:=zx_ HB hx6_7;replace hx6_8:=zx_ HB hx6_8;replace hx6_9:=zx_ HB hx6_9;replace hx6_10:=zx_ HB hx6_10;replace hx6_11:=zx_ HB hx6_11;replace p6:=eq_true p6;replace q6:=eq_true q6)|((with_reducible refine gate_callee (f:=50) rfl ?_);refine gl_ (some 25) Try.func50 #[.slice (some ad2) l0.length c0, .string ((rd_T31 l0 x6_1).f1)] ?_;(with_reducible refine (r10_Find.calls k1 _ _ l0 ((rd_T31 l0 x6_1).f1) t7 _ ?side1 ?side2 A9.out).mono ?_);(case side1=>exact zc_ (Kd.C_below HR0.out HB.out));(case side2=>exact HC0.out);rintro e w' ⟨rfl,⟨nd,rfl⟩⟩;refine ⟨_,rfl, ?_⟩))
   go_roundg k1
   case measure=>have:=HK1.out;omega
   case rel=>exact ⟨(y3),(t7),(by first|rfl|(simp;done)|(simp [*];done)),H',⟨by have:=HK1.out;omega⟩,⟨by (with_reducible repeat (first|apply Kd.R_alloc|apply Kd.R_drewN|apply Kd.R_drew));exact HO5.out⟩,⟨zl0_ HB⟩⟩
attribute [local go_sem high] eqA27
mutual
def r10_Right.l0:Nat→List (S31)→Int→Option (Bool)
 |0,_,_=>none
 |k+1,x0,x3=>if x3<(x0.length:Int) then (if 0≤x3 then ((r10_MayName.f ((rd_T31 x0 x3).f0)).bind fun t3=>(if t3=true then (if x3>0 then (if 0≤(wrap64 (x3 - 1)) then (if (wrap64 (x3 - 1))<(x0.length:Int) then (if ((Op.bytesLess (((rd_T31 x0 (wrap64 (x3 - 1))).f0).toList) (((rd_T31 x0 x3).f0).toList))=true) then ((r10_MayVec.f ((rd_T31 x0 x3).f2.f0) ((rd_T31 x0 x3).f2.f1) ((rd_T31 x0 x3).f2.f2)).bind fun t5=>(if t5=true then ((r10_MayVec.f ((rd_T31 x0 x3).f3.f0) ((rd_T31 x0 x3).f3.f1) ((rd_T31 x0 x3).f3.f2)).bind fun t6=>(if t6=true then (if ((rd_T31 x0 x3).f1).toList=([]:List UInt8) then (if ((rd_T31 x0 x3).f5)<1 then (some false) else (if ((rd_T31 x0 x3).f5)>9007199254740992 then (some false) else ((r10_Le.f ((rd_T31 x0 x3).f4.f0) ((rd_T31 x0 x3).f4.f1) ((rd_T31 x0 x3).f4.f2) ((rd_T31 x0 x3).f2.f0) ((rd_T31 x0 x3).f2.f1) ((rd_T31 x0 x3).f2.f2)).bind fun t7=>(if t7=true then ((r10_MayVec.f ((rd_T31 x0 x3).f4.f0) ((rd_T31 x0 x3).f4.f1) ((rd_T31 x0 x3).f4.f2)).bind fun t8=>(if t8=true then (r10_Right.l0 k x0 (wrap64 (x3+1))) else (some false))) else (some false))))) else ((r10_Find.f k x0 ((rd_T31 x0 x3).f1)).bind fun t9=>(if t9<0 then (some false) else (if ((rd_T31 x0 x3).f5)<1 then (some false) else (if ((rd_T31 x0 x3).f5)>9007199254740992 then (some false) else ((r10_Le.f ((rd_T31 x0 x3).f4.f0) ((rd_T31 x0 x3).f4.f1) ((rd_T31 x0 x3).f4.f2) ((rd_T31 x0 x3).f2.f0) ((rd_T31 x0 x3).f2.f1) ((rd_T31 x0 x3).f2.f2)).bind fun t10=>(if t10=true then ((r10_MayVec.f ((rd_T31 x0 x3).f4.f0) ((rd_T31 x0 x3).f4.f1) ((rd_T31 x0 x3).f4.f2)).bind fun t11=>(if t11=true then (r10_Right.l0 k x0 (wrap64 (x3+1))) else (some false))) else (some false)))))))) else (some false))) else (some false))) else (some false)) else (none)) else (none)) else ((r10_MayVec.f ((rd_T31 x0 x3).f2.f0) ((rd_T31 x0 x3).f2.f1) ((rd_T31 x0 x3).f2.f2)).bind fun t12=>(if t12=true then ((r10_MayVec.f ((rd_T31 x0 x3).f3.f0) ((rd_T31 x0 x3).f3.f1) ((rd_T31 x0 x3).f3.f2)).bind fun t13=>(if t13=true then (if ((rd_T31 x0 x3).f1).toList=([]:List UInt8) then (if ((rd_T31 x0 x3).f5)<1 then (some false) else (if ((rd_T31 x0 x3).f5)>9007199254740992 then (some false) else ((r10_Le.f ((rd_T31 x0 x3).f4.f0) ((rd_T31 x0 x3).f4.f1) ((rd_T31 x0 x3).f4.f2) ((rd_T31 x0 x3).f2.f0) ((rd_T31 x0 x3).f2.f1) ((rd_T31 x0 x3).f2.f2)).bind fun t14=>(if t14=true then ((r10_MayVec.f ((rd_T31 x0 x3).f4.f0) ((rd_T31 x0 x3).f4.f1) ((rd_T31 x0 x3).f4.f2)).bind fun t15=>(if t15=true then (r10_Right.l0 k x0 (wrap64 (x3+1))) else (some false))) else (some false))))) else ((r10_Find.f k x0 ((rd_T31 x0 x3).f1)).bind fun t16=>(if t16<0 then (some false) else (if ((rd_T31 x0 x3).f5)<1 then (some false) else (if ((rd_T31 x0 x3).f5)>9007199254740992 then (some false) else ((r10_Le.f ((rd_T31 x0 x3).f4.f0) ((rd_T31 x0 x3).f4.f1) ((rd_T31 x0 x3).f4.f2) ((rd_T31 x0 x3).f2.f0) ((rd_T31 x0 x3).f2.f1) ((rd_T31 x0 x3).f2.f2)).bind fun t17=>(if t17=true then ((r10_MayVec.f ((rd_T31 x0 x3).f4.f0) ((rd_T31 x0 x3).f4.f1) ((rd_T31 x0 x3).f4.f2)).bind fun t18=>(if t18=true then (r10_Right.l0 k x0 (wrap64 (x3+1))) else (some false))) else (some false)))))))) else (some false))) else (some false)))) else (some false))) else (none)) else (r10_Right.l1 k x0 0)
def r10_Right.l1:Nat→List (S31)→Int→Option (Bool)
 |0,_,_=>none
 |k+1,x0,x5=>if x5<(x0.length:Int) then (if 0≤x5 then (r10_Right.l2 k x0 x5 0 ((rd_T31 x0 x5).f3.f0) ((rd_T31 x0 x5).f3.f1) ((rd_T31 x0 x5).f3.f2)) else (none)) else (some true)
def r10_Right.l2:Nat→List (S31)→Int→Int→Int→Int→Int→Option (Bool)
 |0,_,_,_,_,_,_=>none
 |k+1,x0,x5,x7,x21000,x21001,x21002=>if x7<(x0.length:Int) then (if 0≤x7 then (if 0≤x5 then (if x5<(x0.length:Int) then (if ((rd_T31 x0 x7).f1).toList=((rd_T31 x0 x5).f0).toList then ((r10_Add.f x21000 x21001 x21002 ((rd_T31 x0 x7).f4.f0) ((rd_T31 x0 x7).f4.f1) ((rd_T31 x0 x7).f4.f2)).bind fun bt24=>(r10_Right.l2 k x0 x5 (wrap64 (x7+1)) bt24.1 bt24.2.1 bt24.2.2)) else (r10_Right.l2 k x0 x5 (wrap64 (x7+1)) x21000 x21001 x21002)) else (none)) else (none)) else (none)) else (if 0≤x5 then (if x5<(x0.length:Int) then (if (!(x21000==((rd_T31 x0 x5).f4.f0))||(!(x21001==((rd_T31 x0 x5).f4.f1))||(!(x21002==((rd_T31 x0 x5).f4.f2)))))=true then (some false) else ((r10_Up.f k x0 ((rd_T31 x0 x5).f0)).bind fun t29=>(if (t29.length:Int)>(x0.length:Int) then (some false) else (r10_Right.l1 k x0 (wrap64 (x5+1)))))) else (none)) else (none))
end
def r10_Right.f (k:Nat) (l0:List (S31)):Option (Bool):=if (l0.length:Int)>120 then (some false) else (r10_Right.l0 k l0 0)
theorem r10_Right.mono_l: ∀k,(∀y0 y1,LeO (r10_Right.l0 k y0 y1) (r10_Right.l0 (k+1) y0 y1))∧(∀y0 y1,LeO (r10_Right.l1 k y0 y1) (r10_Right.l1 (k+1) y0 y1))∧(∀y0 y1 y2 y3 y4 y5,LeO (r10_Right.l2 k y0 y1 y2 y3 y4 y5) (r10_Right.l2 (k+1) y0 y1 y2 y3 y4 y5))
 |0=>⟨fun _ _ r h=>by simp [r10_Right.l0] at h,fun _ _ r h=>by simp [r10_Right.l1] at h,fun _ _ _ _ _ _ r h=>by simp [r10_Right.l2] at h⟩
 |k+1=>by
  obtain ⟨ih0,ih1,ih2⟩:=r10_Right.mono_l k
  refine ⟨?_, ?_, ?_⟩
  ·intro y0 y1
   unfold r10_Right.l0
   repeat' first
   |(with_reducible exact ih0 _ _)
   |(with_reducible exact ih1 _ _)
   |(with_reducible exact ih2 _ _ _ _ _ _)
   |(with_reducible exact r10_Find.mono _ _ _)
   |(with_reducible exact r10_Up.mono _ _ _)
   |(with_reducible exact LeO.refl _)
   |(with_reducible exact LeO.none _)
   |(with_reducible refine LeO.ite ?_ ?_)
   |(with_reducible refine LeO.bind ?_ (fun _=> ?_))
   |exact ih0 _ _
   |exact ih1 _ _
   |exact ih2 _ _ _ _ _ _
   |exact r10_Find.mono _ _ _
   |exact r10_Up.mono _ _ _
   |exact LeO.none _
   |refine LeO.ite ?_ ?_
   |refine LeO.bind ?_ (fun _=> ?_)
  ·intro y0 y1
   unfold r10_Right.l1
   repeat' first
   |(with_reducible exact ih0 _ _)
   |(with_reducible exact ih1 _ _)
   |(with_reducible exact ih2 _ _ _ _ _ _)
   |(with_reducible exact r10_Find.mono _ _ _)
   |(with_reducible exact r10_Up.mono _ _ _)
   |(with_reducible exact LeO.refl _)
   |(with_reducible exact LeO.none _)
   |(with_reducible refine LeO.ite ?_ ?_)
   |(with_reducible refine LeO.bind ?_ (fun _=> ?_))
   |exact ih0 _ _
   |exact ih1 _ _
   |exact ih2 _ _ _ _ _ _
   |exact r10_Find.mono _ _ _
   |exact r10_Up.mono _ _ _
   |exact LeO.none _
   |refine LeO.ite ?_ ?_
   |refine LeO.bind ?_ (fun _=> ?_)
  ·intro y0 y1 y2 y3 y4 y5
   unfold r10_Right.l2
   repeat' first
   |(with_reducible exact ih0 _ _)
   |(with_reducible exact ih1 _ _)
   |(with_reducible exact ih2 _ _ _ _ _ _)
   |(with_reducible exact r10_Find.mono _ _ _)
   |(with_reducible exact r10_Up.mono _ _ _)
   |(with_reducible exact LeO.refl _)
   |(with_reducible exact LeO.none _)
   |(with_reducible refine LeO.ite ?_ ?_)
   |(with_reducible refine LeO.bind ?_ (fun _=> ?_))
   |exact ih0 _ _
   |exact ih1 _ _
   |exact ih2 _ _ _ _ _ _
   |exact r10_Find.mono _ _ _
   |exact r10_Up.mono _ _ _
   |exact LeO.none _
   |refine LeO.ite ?_ ?_
   |refine LeO.bind ?_ (fun _=> ?_)
theorem r10_Right.mono: ∀a0 k,LeO (r10_Right.f k a0) (r10_Right.f (k+1) a0):=by
 intro a0 k
 obtain ⟨ih0,ih1,ih2⟩:=r10_Right.mono_l k
 unfold r10_Right.f
 repeat' first
  |(with_reducible exact ih0 _ _)
  |(with_reducible exact ih1 _ _)
  |(with_reducible exact ih2 _ _ _ _ _ _)
  |(with_reducible exact r10_Find.mono _ _ _)
  |(with_reducible exact r10_Up.mono _ _ _)
  |(with_reducible exact LeO.refl _)
  |(with_reducible exact LeO.none _)
  |(with_reducible refine LeO.ite ?_ ?_)
  |(with_reducible refine LeO.bind ?_ (fun _=> ?_))
  |exact ih0 _ _
  |exact ih1 _ _
  |exact ih2 _ _ _ _ _ _
  |exact r10_Find.mono _ _ _
  |exact r10_Up.mono _ _ _
  |exact LeO.none _
  |refine LeO.ite ?_ ?_
  |refine LeO.bind ?_ (fun _=> ?_)
def r10_Right.T7:Bool×List (List Nat×List Nat):=(true,[([],[]),([0],[0]),([1],[1]),([2],[2]),([3,2],[3]),([4],[4]),([5,4],[4,5]),([6,4,4],[4,6]),([7],[7]),([7],[7]),([9,7],[7,9]),([8,10,7],[7,8,10]),([11,7],[7,11]),([12,7],[7,12]),([7],[7]),([14,7],[7,14]),([13,15,7],[7,13,15]),([7,16,4],[4,7,16]),([4,17],[4,17]),([18,7],[18]),([19],[19]),([20,19],[19,20]),([21,19,19],[19,21]),([22,19],[19,22]),([19,23],[19,23]),([24,22],[24]),([25],[25]),([26,25],[25,26]),([27,25,25],[25,27]),([28,25],[25,28]),([25,29],[25,29]),([30,28],[30]),([31],[31]),([32,31],[31,32]),([33,31],[31,33]),([34,31,31],[31,34]),([35],[35]),([35],[35]),([37,35],[35,37]),([36,38,35,35],[35,36,38]),([39,35],[35,39]),([35,40,31],[31,35,40]),([31,41],[31,41]),([42,39],[42]),([43],[43]),([44,43],[43,44]),([45,43],[43,45]),([43,46],[43,46]),([47,43],[47]),([48],[48]),([49,48],[48,49]),([50,48],[48,50]),([48,51],[48,51]),([52,48],[52]),([53],[53]),([54,53],[53,54]),([53],[53]),([56,53],[53,56]),([55,57,53,53],[53,55,57]),([58,53],[53,58]),([53,59],[53,59]),([60,58],[60]),([61],[61]),([62,61],[61,62]),([63,61,61],[61,63]),([64,61],[61,64]),([61,65],[61,65])])
def r10_Right.B7:List Nat:=[0,1,3,7,15,31,63,127,255,255,767,2047,4095,8191,255,16639,65535,131071,262143,524287,1048575,2097151,4194303,8388607,16777215,33554431,67108863,134217727,268435455,536870911,1073741823,2147483647,4294967295,8589934591,17179869183,34359738367,68719476735,68719476735,206158430207,549755813887,1099511627775,2199023255551,4398046511103,8796093022207,17592186044415,35184372088831,70368744177663,140737488355327,281474976710655,562949953421311,1125899906842623,2251799813685247,4503599627370495,9007199254740991,18014398509481983,36028797018963967,18014398509481983,90071992547409919,288230376151711743,576460752303423487,1152921504606846975,2305843009213693951,4611686018427387903,9223372036854775807,18446744073709551615,36893488147419103231,73786976294838206463]
theorem r10_Right.tab7:rtab .any (opsOf Try.f41 7)=r10_Right.T7:=by kernel_rfl
theorem r10_Right.bits7:waitsOk r10_Right.T7.2 r10_Right.B7=true:=by kernel_rfl
def r10_Right.T16:Bool×List (List Nat×List Nat):=(true,[([],[]),([],[]),([0,1],[0,1]),([2],[2]),([3],[3]),([],[]),([],[]),([5,6],[5,6]),([7],[7]),([8],[8]),([4,9],[4,9])])
def r10_Right.B16:List Nat:=[0,0,3,7,15,0,0,96,224,480,1023]
theorem r10_Right.tab16:rtab .any (opsOf Try.f41 16)=r10_Right.T16:=by kernel_rfl
theorem r10_Right.bits16:waitsOk r10_Right.T16.2 r10_Right.B16=true:=by kernel_rfl
def r10_Right.T17:Bool×List (List Nat×List Nat):=(true,[([],[]),([],[]),([],[]),([1,2],[1,2]),([3],[3]),([4],[4]),([0,5],[0,5]),([6,6,0,1,2,3,4,5,6],[6])])
def r10_Right.B17:List Nat:=[0,0,0,6,14,30,63,127]
theorem r10_Right.tab17:rtab .any (opsOf Try.f41 17)=r10_Right.T17:=by kernel_rfl
theorem r10_Right.bits17:waitsOk r10_Right.T17.2 r10_Right.B17=true:=by kernel_rfl
def r10_Right.T18:Bool×List (List Nat×List Nat):=(true,[([],[]),([],[]),([],[]),([1,2],[1,2]),([3],[3]),([4],[4]),([0,5],[0,5]),([6],[6]),([7],[7]),([7],[7]),([7],[7]),([9,10,7],[7,9,10]),([11,7],[7,11]),([12,7],[7,12]),([8,13,7,7],[7,8,13]),([14,7],[7,14]),([7],[7]),([16,7],[7,16]),([15,17,7],[7,15,17]),([7,18],[7,18])])
def r10_Right.B18:List Nat:=[0,0,0,6,14,30,63,127,255,255,255,1791,3839,7935,16383,32767,255,65791,262143,524287]
theorem r10_Right.tab18:rtab .any (opsOf Try.f41 18)=r10_Right.T18:=by kernel_rfl
theorem r10_Right.bits18:waitsOk r10_Right.T18.2 r10_Right.B18=true:=by kernel_rfl
def r10_Right.tk (k:Nat):Array Bool:=(List.replicate k true++List.replicate (67 - k) false).toArray
set_option maxHeartbeats 8000000 in
set_option maxRecDepth 100000 in
theorem r10_Right.calls (k:Nat) (A0:Option Addr) (c0:Nat) (l0:List (S31)) (r:Bool) (w:World) (hr0:Kd.C k31 w A0 l0.length l0) (hc0:l0.length≤c0) (h:r10_Right.f k l0=some r):
  Calls Try.prog 41 #[.slice A0 l0.length c0] w fun e w'=>e= .returned (.bool r)∧Below w.heap.size w w':=by
 have hu31:=Try.underlying31
 have hu27:=Try.underlying27
 have HR0:=Aside0.mk hr0
 have HC0:=Aside0.mk hc0
 clear hr0 hc0
 have HB:=am_ (Below.refl w.heap.size w)
 have H:(if (l0.length:Int)>120 then (some false) else (r10_Right.l0 k l0 0))=some r:=h
 clear h
 by_cases c2:(l0.length:Int)>120
 ·rw [if_pos c2] at H
  have c2b0:decide (120<(l0.length:Int))=true:=decide_eq_true c2
  have c2b1:decide (120<l0.length)=true:=decide_eq_true (by omega)
  clear c2
  obtain rfl:=Option.some.inj H
  go_enter Try.func41,Try.ntmps41
  go_wp2
  go_ret
  exact ⟨by first|rfl|(simp [errW_none,errW_some]<;>rfl)|(simp [*,errW_none,errW_some]<;>rfl),zl0_ HB⟩
 ·rw [if_neg c2] at H
  have c2b0:decide (120<(l0.length:Int))=false:=decide_eq_false c2
  have c2b1:decide (120<l0.length)=false:=decide_eq_false (by omega)
  clear c2
  have H':=Aside0.mk H
  clear H
  go_enter Try.func41,Try.ntmps41
  go_wp2
  go_loopg [3] k (fun kq v3 w'=> ∃(x3_1:Int),v3= .int .i64 x3_1∧Aside0 (r10_Right.l0 kq l0 x3_1=some r)∧Aside0 (kq≤k)∧Aside0 (Below w.heap.size w w'))
  case atStart=>exact ⟨(0),(by first|rfl|(simp;done)|(simp [*];done)),H',⟨Nat.le_refl _⟩,⟨zl0_ HB⟩⟩
  case round=>
   clear H'
   try clear c2
   try clear c2b0
   try clear c2b1
   try clear p2
   obtain ⟨x3_1,rfl,HA,HK1,HB⟩:=hrel
   cases gk with
   |zero=>exact absurd HA.out (by simp [r10_Right.l0])
   |succ k1=>
    have H:=HA.out
    clear HA
    simp only [r10_Right.l0] at H
    by_cases c3:x3_1<(l0.length:Int)
    ·rw [if_pos c3] at H
     have c3b0:decide (x3_1<(l0.length:Int))=true:=decide_eq_true c3
     clear c3
     by_cases c4:0≤x3_1
     ·rw [if_pos c4] at H
      have c4b0:decide (0≤x3_1)=true:=decide_eq_true c4
      clear c4
      have HC7:=Aside0.mk H
      clear H
      have p1:0≤(x3_1:Int):=of_decide_eq_true zq_
      have q1:x3_1<(l0.length:Int):=of_decide_eq_true zq_
      obtain ⟨ad1,e1,hx1_0,hx1_1,hx1_2,hx1_3,hx1_4,hx1_5,hx1_6,hx1_7,hx1_8,hx1_9,hx1_10,hx1_11⟩:=at_T31 HR0.out x3_1 p1 q1
      cases e1
      replace hx1_0:=zx_ HB hx1_0
      replace hx1_1:=zx_ HB hx1_1
      replace hx1_2:=zx_ HB hx1_2
      replace hx1_3:=zx_ HB hx1_3
      replace hx1_4:=zx_ HB hx1_4
      replace hx1_5:=zx_ HB hx1_5
      replace hx1_6:=zx_ HB hx1_6
      replace hx1_7:=zx_ HB hx1_7
      replace hx1_8:=zx_ HB hx1_8
      replace hx1_9:=zx_ HB hx1_9
      replace hx1_10:=zx_ HB hx1_10
      replace hx1_11:=zx_ HB hx1_11
      replace p1:=eq_true p1
      replace q1:=eq_true q1
      try go_wp2_with (first|((with_reducible refine gate_dst (N:=4) rfl ?_);(try (refine gate_guard (by rfl) ?_;dsimp only));refine bx_ (N:=4) (cs:=#[.string (⟨#[]⟩:ByteArray), .string (⟨#[]⟩:ByteArray), .int .i64 0, .int .i64 0, .int .i64 0, .int .i64 0, .int .i64 0, .int .i64 0, .int .i64 0, .int .i64 0, .int .i64 0, .int .i64 0]) (t:=31) ?_;intro gb2 hg w18 hbox hb;have BK2:=am_ (hbox);have GW2:=am_ ((zg0_ HB hg:w.heap.size≤gb2));have GE2:=am_ ((zg0_ HB hg:w.heap.size≤gb2));replace HB:=am_ (below_step (zl0_ HB) hb);clear hb hbox hg;obtain ⟨hcz19_0,hcz19_1,hcz19_2,hcz19_3,hcz19_4,hcz19_5,hcz19_6,hcz19_7,hcz19_8,hcz19_9,hcz19_10,hcz19_11⟩:=x12_ BK2;have hfz19_0:=blk_frozen BK2.out 0;have hfz19_1:=blk_frozen BK2.out 1;have hfz19_2:=blk_frozen BK2.out 2;have hfz19_3:=blk_frozen BK2.out 3;have hfz19_4:=blk_frozen BK2.out 4;have hfz19_5:=blk_frozen BK2.out 5;have hfz19_6:=blk_frozen BK2.out 6;have hfz19_7:=blk_frozen BK2.out 7;have hfz19_8:=blk_frozen BK2.out 8;have hfz19_9:=blk_frozen BK2.out 9;have hfz19_10:=blk_frozen BK2.out 10;have hfz19_11:=blk_frozen BK2.out 11))
      have n0_:Aside0 (((((((((((((w18.setCell ⟨gb2,0,none⟩ (.string ((rd_T31 l0 x3_1).f0))).setCell ⟨gb2,1,none⟩ (.string ((rd_T31 l0 x3_1).f1))).setCell ⟨gb2,2,none⟩ (.int .i64 ((rd_T31 l0 x3_1).f2.f0))).setCell ⟨gb2,3,none⟩ (.int .i64 ((rd_T31 l0 x3_1).f2.f1))).setCell ⟨gb2,4,none⟩ (.int .i64 ((rd_T31 l0 x3_1).f2.f2))).setCell ⟨gb2,5,none⟩ (.int .i64 ((rd_T31 l0 x3_1).f3.f0))).setCell ⟨gb2,6,none⟩ (.int .i64 ((rd_T31 l0 x3_1).f3.f1))).setCell ⟨gb2,7,none⟩ (.int .i64 ((rd_T31 l0 x3_1).f3.f2))).setCell ⟨gb2,8,none⟩ (.int .i64 ((rd_T31 l0 x3_1).f4.f0))).setCell ⟨gb2,9,none⟩ (.int .i64 ((rd_T31 l0 x3_1).f4.f1))).setCell ⟨gb2,10,none⟩ (.int .i64 ((rd_T31 l0 x3_1).f4.f2))).setCell ⟨gb2,11,none⟩ (.int .i64 ((rd_T31 l0 x3_1).f5))).heap[gb2]?=some (.cells #[.string ((rd_T31 l0 x3_1).f0), .string ((rd_T31 l0 x3_1).f1), .int .i64 ((rd_T31 l0 x3_1).f2.f0), .int .i64 ((rd_T31 l0 x3_1).f2.f1), .int .i64 ((rd_T31 l0 x3_1).f2.f2), .int .i64 ((rd_T31 l0 x3_1).f3.f0), .int .i64 ((rd_T31 l0 x3_1).f3.f1), .int .i64 ((rd_T31 l0 x3_1).f3.f2), .int .i64 ((rd_T31 l0 x3_1).f4.f0), .int .i64 ((rd_T31 l0 x3_1).f4.f1), .int .i64 ((rd_T31 l0 x3_1).f4.f2), .int .i64 ((rd_T31 l0 x3_1).f5)] 31 (0,0))):=⟨zw_ BK2⟩
      have n1_:Aside0 (Below w.heap.size w ((((((((((((w18.setCell ⟨gb2,0,none⟩ (.string ((rd_T31 l0 x3_1).f0))).setCell ⟨gb2,1,none⟩ (.string ((rd_T31 l0 x3_1).f1))).setCell ⟨gb2,2,none⟩ (.int .i64 ((rd_T31 l0 x3_1).f2.f0))).setCell ⟨gb2,3,none⟩ (.int .i64 ((rd_T31 l0 x3_1).f2.f1))).setCell ⟨gb2,4,none⟩ (.int .i64 ((rd_T31 l0 x3_1).f2.f2))).setCell ⟨gb2,5,none⟩ (.int .i64 ((rd_T31 l0 x3_1).f3.f0))).setCell ⟨gb2,6,none⟩ (.int .i64 ((rd_T31 l0 x3_1).f3.f1))).setCell ⟨gb2,7,none⟩ (.int .i64 ((rd_T31 l0 x3_1).f3.f2))).setCell ⟨gb2,8,none⟩ (.int .i64 ((rd_T31 l0 x3_1).f4.f0))).setCell ⟨gb2,9,none⟩ (.int .i64 ((rd_T31 l0 x3_1).f4.f1))).setCell ⟨gb2,10,none⟩ (.int .i64 ((rd_T31 l0 x3_1).f4.f2))).setCell ⟨gb2,11,none⟩ (.int .i64 ((rd_T31 l0 x3_1).f5)))):=⟨zl1_ HB GE2⟩
      (try clear BK2)
      (try clear HB)
      generalize ((((((((((((w18.setCell ⟨gb2,0,none⟩ (.string ((rd_T31 l0 x3_1).f0))).setCell ⟨gb2,1,none⟩ (.string ((rd_T31 l0 x3_1).f1))).setCell ⟨gb2,2,none⟩ (.int .i64 ((rd_T31 l0 x3_1).f2.f0))).setCell ⟨gb2,3,none⟩ (.int .i64 ((rd_T31 l0 x3_1).f2.f1))).setCell ⟨gb2,4,none⟩ (.int .i64 ((rd_T31 l0 x3_1).f2.f2))).setCell ⟨gb2,5,none⟩ (.int .i64 ((rd_T31 l0 x3_1).f3.f0))).setCell ⟨gb2,6,none⟩ (.int .i64 ((rd_T31 l0 x3_1).f3.f1))).setCell ⟨gb2,7,none⟩ (.int .i64 ((rd_T31 l0 x3_1).f3.f2))).setCell ⟨gb2,8,none⟩ (.int .i64 ((rd_T31 l0 x3_1).f4.f0))).setCell ⟨gb2,9,none⟩ (.int .i64 ((rd_T31 l0 x3_1).f4.f1))).setCell ⟨gb2,10,none⟩ (.int .i64 ((rd_T31 l0 x3_1).f4.f2))).setCell ⟨gb2,11,none⟩ (.int .i64 ((rd_T31 l0 x3_1).f5)))=w20 at n0_ n1_ ⊢
      have BK2:=n0_
      have HB:=n1_
      clear n0_ n1_
      have b0:w20.cell? ⟨gb2,0,none⟩=some (.string ((rd_T31 l0 x3_1).f0)):=(blk_cell BK2.out 0).trans rfl
      have b1:w20.cell? ⟨gb2,1,none⟩=some (.string ((rd_T31 l0 x3_1).f1)):=(blk_cell BK2.out 1).trans rfl
      have b2:w20.cell? ⟨gb2,2,none⟩=some (.int .i64 ((rd_T31 l0 x3_1).f2.f0)):=(blk_cell BK2.out 2).trans rfl
      have b3:w20.cell? ⟨gb2,3,none⟩=some (.int .i64 ((rd_T31 l0 x3_1).f2.f1)):=(blk_cell BK2.out 3).trans rfl
      have b4:w20.cell? ⟨gb2,4,none⟩=some (.int .i64 ((rd_T31 l0 x3_1).f2.f2)):=(blk_cell BK2.out 4).trans rfl
      have b5:w20.cell? ⟨gb2,5,none⟩=some (.int .i64 ((rd_T31 l0 x3_1).f3.f0)):=(blk_cell BK2.out 5).trans rfl
      have b6:w20.cell? ⟨gb2,6,none⟩=some (.int .i64 ((rd_T31 l0 x3_1).f3.f1)):=(blk_cell BK2.out 6).trans rfl
      have b7:w20.cell? ⟨gb2,7,none⟩=some (.int .i64 ((rd_T31 l0 x3_1).f3.f2)):=(blk_cell BK2.out 7).trans rfl
      have b8:w20.cell? ⟨gb2,8,none⟩=some (.int .i64 ((rd_T31 l0 x3_1).f4.f0)):=(blk_cell BK2.out 8).trans rfl
      have b9:w20.cell? ⟨gb2,9,none⟩=some (.int .i64 ((rd_T31 l0 x3_1).f4.f1)):=(blk_cell BK2.out 9).trans rfl
      have b10:w20.cell? ⟨gb2,10,none⟩=some (.int .i64 ((rd_T31 l0 x3_1).f4.f2)):=(blk_cell BK2.out 10).trans rfl
      have b11:w20.cell? ⟨gb2,11,none⟩=some (.int .i64 ((rd_T31 l0 x3_1).f5)):=(blk_cell BK2.out 11).trans rfl
      obtain ⟨t3,A50,H⟩:=Option.bind_eq_some_iff.mp HC7.out
      have A5:=Aside0.mk A50
      have HC:=Aside0.mk H
      clear A50 H HC7
      have c9:0<x3_1→0≤wrap64 (x3_1 - 1)∧wrap64 (x3_1 - 1)<(l0.length:Int):=fun q=>by have:=of_eq_true p1;have:=of_eq_true q1;have:l0.length≤9223372036854775807:=HR0.out.2.1;unfold wrap64;omega
      by_cases c7:x3_1>0
      obtain ⟨c9,c10⟩:=c9 c7
      have c7b0:decide (0<x3_1)=true:=decide_eq_true c7
      obtain ⟨ji8,hji8⟩: ∃j_:Int,(wrap64 (x3_1 - 1))=j_:=⟨_,rfl⟩
      rw [hji8] at c9 c10
      have hji8w:(IntKind.i64.wrap (x3_1 - 1))=ji8:=(i64_w _).trans hji8
      obtain ⟨ad7,e7,hp, -⟩:=at_T31 HR0.out ji8 c9 c10
      obtain rfl:ad1=ad7:=(by injection e7)
      replace hp:=zx_ HB hp
      have p7:=eq_true c9
      have q7:=eq_true c10
      have C7:=Aside0.mk c7
      have C9:=Aside0.mk c9
      have C10:=Aside0.mk c10
      clear c7 c9 c10
      rotate_left
      have c7b0:decide (0<x3_1)=false:=decide_eq_false c7
      have N7:=Aside0.mk c7
      clear c7 c9
      all_goals (
        have HBc:=am_ (below_drew1 (Below.refl w20.heap.size w20))
        first|(refine start_ (n:=67) (S:=fun w'=>w'.cell? ⟨gb2,0,none⟩=some (.string ((rd_T31 l0 x3_1).f0))∧w'.cell? ⟨gb2,1,none⟩=some (.string ((rd_T31 l0 x3_1).f1))∧w'.cell? ⟨gb2,2,none⟩=some (.int .i64 ((rd_T31 l0 x3_1).f2.f0))∧w'.cell? ⟨gb2,3,none⟩=some (.int .i64 ((rd_T31 l0 x3_1).f2.f1))∧w'.cell? ⟨gb2,4,none⟩=some (.int .i64 ((rd_T31 l0 x3_1).f2.f2))∧w'.cell? ⟨gb2,5,none⟩=some (.int .i64 ((rd_T31 l0 x3_1).f3.f0))∧w'.cell? ⟨gb2,6,none⟩=some (.int .i64 ((rd_T31 l0 x3_1).f3.f1))∧w'.cell? ⟨gb2,7,none⟩=some (.int .i64 ((rd_T31 l0 x3_1).f3.f2))∧w'.cell? ⟨gb2,8,none⟩=some (.int .i64 ((rd_T31 l0 x3_1).f4.f0))∧w'.cell? ⟨gb2,9,none⟩=some (.int .i64 ((rd_T31 l0 x3_1).f4.f1))∧w'.cell? ⟨gb2,10,none⟩=some (.int .i64 ((rd_T31 l0 x3_1).f4.f2))∧w'.cell? ⟨gb2,11,none⟩=some (.int .i64 ((rd_T31 l0 x3_1).f5))∧w'.cell? (ad1.add (((ji8)).toNat*12))=some (.string ((rd_T31 l0 (ji8)).f0))) (ds:=[]) (bt_ 67 0) (by kernel_rfl) rfl rfl ?_ (fun hHeld=> ?_);(refine ⟨?_, ?_, ?_, ?_, ?_, ?_, ?_, ?_, ?_, ?_, ?_, ?_, ?_⟩<;>first|exact pw_cell_below HBc.out (by assumption)|(go_keep;done)))|(refine start_ (n:=67) (S:=fun w'=>w'.cell? ⟨gb2,0,none⟩=some (.string ((rd_T31 l0 x3_1).f0))∧w'.cell? ⟨gb2,1,none⟩=some (.string ((rd_T31 l0 x3_1).f1))∧w'.cell? ⟨gb2,2,none⟩=some (.int .i64 ((rd_T31 l0 x3_1).f2.f0))∧w'.cell? ⟨gb2,3,none⟩=some (.int .i64 ((rd_T31 l0 x3_1).f2.f1))∧w'.cell? ⟨gb2,4,none⟩=some (.int .i64 ((rd_T31 l0 x3_1).f2.f2))∧w'.cell? ⟨gb2,5,none⟩=some (.int .i64 ((rd_T31 l0 x3_1).f3.f0))∧w'.cell? ⟨gb2,6,none⟩=some (.int .i64 ((rd_T31 l0 x3_1).f3.f1))∧w'.cell? ⟨gb2,7,none⟩=some (.int .i64 ((rd_T31 l0 x3_1).f3.f2))∧w'.cell? ⟨gb2,8,none⟩=some (.int .i64 ((rd_T31 l0 x3_1).f4.f0))∧w'.cell? ⟨gb2,9,none⟩=some (.int .i64 ((rd_T31 l0 x3_1).f4.f1))∧w'.cell? ⟨gb2,10,none⟩=some (.int .i64 ((rd_T31 l0 x3_1).f4.f2))∧w'.cell? ⟨gb2,11,none⟩=some (.int .i64 ((rd_T31 l0 x3_1).f5))) (ds:=[]) (bt_ 67 0) (by kernel_rfl) rfl rfl ?_ (fun hHeld=> ?_);(refine ⟨?_, ?_, ?_, ?_, ?_, ?_, ?_, ?_, ?_, ?_, ?_, ?_⟩<;>first|exact pw_cell_below HBc.out (by assumption)|(go_keep;done)))
        refine with_tabW r10_Right.tab7 r10_Right.bits7 (fun HT_ HW_=> ?_)
        generalize w20.drew=wd at HBc hHeld ⊢)
      all_goals (refine pu_ (i:=0) (N:=some 21) (r10_Right.tk 1) HT_ ?_)
      all_goals (refine tk_ (i:=1) (N:=some 22) (r10_Right.tk 2) HT_ HW_ hHeld ?_)
      all_goals (refine on_ (i:=2) (N:=some 23) (r10_Right.tk 3) HT_ (fun K hK=> ?_);refine gs_ Try.func105 #[.string ((rd_T31 l0 x3_1).f0)] ?_;with_reducible refine (r10_MayName.calls _ _ _ A5.out).mono ?_;rintro e wx2 ⟨rfl,hd⟩;have hb:=hd.below;clear hd;refine ⟨_,rfl, ?_⟩;have HBn:=am_ (below_step HBc.out hb);clear HBc;have HBc:=HBn;clear HBn;refine hK.out _ _ (by first|exact ⟨pw_cell_below hb hHeld.1,pw_cell_below hb hHeld.2.1,pw_cell_below hb hHeld.2.2.1,pw_cell_below hb hHeld.2.2.2.1,pw_cell_below hb hHeld.2.2.2.2.1,pw_cell_below hb hHeld.2.2.2.2.2.1,pw_cell_below hb hHeld.2.2.2.2.2.2.1,pw_cell_below hb hHeld.2.2.2.2.2.2.2.1,pw_cell_below hb hHeld.2.2.2.2.2.2.2.2.1,pw_cell_below hb hHeld.2.2.2.2.2.2.2.2.2.1,pw_cell_below hb hHeld.2.2.2.2.2.2.2.2.2.2.1,pw_cell_below hb hHeld.2.2.2.2.2.2.2.2.2.2.2.1,pw_cell_below hb hHeld.2.2.2.2.2.2.2.2.2.2.2.2⟩|exact ⟨pw_cell_below hb hHeld.1,pw_cell_below hb hHeld.2.1,pw_cell_below hb hHeld.2.2.1,pw_cell_below hb hHeld.2.2.2.1,pw_cell_below hb hHeld.2.2.2.2.1,pw_cell_below hb hHeld.2.2.2.2.2.1,pw_cell_below hb hHeld.2.2.2.2.2.2.1,pw_cell_below hb hHeld.2.2.2.2.2.2.2.1,pw_cell_below hb hHeld.2.2.2.2.2.2.2.2.1,pw_cell_below hb hHeld.2.2.2.2.2.2.2.2.2.1,pw_cell_below hb hHeld.2.2.2.2.2.2.2.2.2.2.1,pw_cell_below hb hHeld.2.2.2.2.2.2.2.2.2.2.2⟩) (fun hHeld=> ?_);clear hK K hb;refine norm_ (a':= ?_) ?_ ?_;rotate_left;(show Act.put _ (some 23) _=_;simp only [Act.put,List.setIfInBounds_toArray,List.set_cons_zero,List.set_cons_succ,i64_w,i32_w];rfl))
      all_goals (try (have H:=HC.out;clear HC;by_cases c6:t3=true;(case' pos=>subst c6;rw [if_pos rfl] at H;have HC:=Aside0.mk H;clear H);(case' neg=>rw [if_neg c6] at H;have q_:t3=false:=Bool.eq_false_iff.mpr c6;subst q_;clear c6;have HC:=Aside0.mk H;clear H)))
      all_goals (refine pu_ (i:=3) (N:=some 24) (r10_Right.tk 4) HT_ ?_)
      all_goals (refine pu_ (i:=4) (N:=some 25) (r10_Right.tk 5) HT_ ?_)
      all_goals (first|(refine pu_ (i:=5) (N:=some 26) (r10_Right.tk 6) HT_ ?_)|(refine pn_ (i:=5) (N:=some 26) (r10_Right.tk 6) HT_ ?_))
      all_goals (first|(refine pu_ (i:=6) (N:=some 27) (r10_Right.tk 7) HT_ ?_)|(refine pn_ (i:=6) (N:=some 27) (r10_Right.tk 7) HT_ ?_))
      all_goals (first|(refine pu_ (i:=7) (N:=some 28) (r10_Right.tk 8) HT_ ?_)|(refine pn_ (i:=7) (N:=some 28) (r10_Right.tk 8) HT_ ?_))
      all_goals (first|(refine pu_ (i:=8) (N:=some 29) (r10_Right.tk 9) HT_ ?_)|(refine pn_ (i:=8) (N:=some 29) (r10_Right.tk 9) HT_ ?_))
      all_goals (first|(refine pu_ (i:=9) (N:=some 30) (r10_Right.tk 10) HT_ ?_)|(refine pn_ (i:=9) (N:=some 30) (r10_Right.tk 10) HT_ ?_))
      all_goals (first|(refine pu_ (i:=10) (N:=some 31) (r10_Right.tk 11) HT_ ?_)|(refine pn_ (i:=10) (N:=some 31) (r10_Right.tk 11) HT_ ?_))
      all_goals (first|(refine pu_ (i:=11) (N:=some 32) (r10_Right.tk 12) HT_ ?_)|(refine pn_ (i:=11) (N:=some 32) (r10_Right.tk 12) HT_ ?_))
      all_goals (first|(refine pu_ (i:=12) (N:=some 33) (r10_Right.tk 13) HT_ ?_)|(refine pn_ (i:=12) (N:=some 33) (r10_Right.tk 13) HT_ ?_))
      all_goals (try (have H:=HC.out;clear HC;rw [if_neg N7.out] at H;have HC:=Aside0.mk H;clear H))
      all_goals (try (have H:=HC.out;clear HC;rw [if_pos C7.out,hji8,if_pos C9.out,if_pos C10.out] at H;by_cases c11:((Op.bytesLess (((rd_T31 l0 ji8).f0).toList) (((rd_T31 l0 x3_1).f0).toList))=true);(case' pos=>rw [if_pos c11] at H;have c11b0:(Op.bytesLess (((rd_T31 l0 ji8).f0).toList) (((rd_T31 l0 x3_1).f0).toList))=true:=c11;clear c11;have HC:=Aside0.mk H;clear H);(case' neg=>rw [if_neg c11] at H;have c11b0:(Op.bytesLess (((rd_T31 l0 ji8).f0).toList) (((rd_T31 l0 x3_1).f0).toList))=false:=Bool.eq_false_iff.mpr c11;clear c11;have HC:=Aside0.mk H;clear H)))
      all_goals (first|(refine tk_ (i:=13) (N:=some 34) (r10_Right.tk 14) HT_ HW_ hHeld ?_)|(refine pn_ (i:=13) (N:=some 34) (r10_Right.tk 14) HT_ ?_))
      all_goals (first|(refine pu_ (i:=14) (N:=some 35) (r10_Right.tk 15) HT_ ?_)|(refine pn_ (i:=14) (N:=some 35) (r10_Right.tk 15) HT_ ?_))
      all_goals (first|(refine tk_ (i:=15) (N:=some 36) (r10_Right.tk 16) HT_ HW_ hHeld ?_)|(refine pn_ (i:=15) (N:=some 36) (r10_Right.tk 16) HT_ ?_))
      all_goals (first|(refine pu_ (i:=16) (N:=some 37) (r10_Right.tk 17) HT_ ?_)|(refine pn_ (i:=16) (N:=some 37) (r10_Right.tk 17) HT_ ?_))
      all_goals (first|(refine pu_ (i:=17) (N:=some 38) (r10_Right.tk 18) HT_ ?_)|(refine pn_ (i:=17) (N:=some 38) (r10_Right.tk 18) HT_ ?_))
      all_goals (refine pu_ (i:=18) (N:=some 39) (r10_Right.tk 19) HT_ ?_)
      all_goals (refine pu_ (i:=19) (N:=some 40) (r10_Right.tk 20) HT_ ?_)
      all_goals (try (have H:=HC.out;obtain ⟨t5,A120,H2⟩:=Option.bind_eq_some_iff.mp H;clear H HC;have A12:=Aside0.mk A120;clear A120;have HC:=Aside0.mk H2;clear H2))
      all_goals (first|(refine pu_ (i:=20) (N:=some 41) (r10_Right.tk 21) HT_ ?_)|(refine pn_ (i:=20) (N:=some 41) (r10_Right.tk 21) HT_ ?_))
      all_goals (first|(refine tk_ (i:=21) (N:=some 42) (r10_Right.tk 22) HT_ HW_ hHeld ?_)|(refine pn_ (i:=21) (N:=some 42) (r10_Right.tk 22) HT_ ?_))
      all_goals (first|(refine on_ (i:=22) (N:=some 43) (r10_Right.tk 23) HT_ (fun K hK=> ?_);refine gs_ Try.func65 #[.agg #[.int .i64 ((rd_T31 l0 x3_1).f2.f0), .int .i64 ((rd_T31 l0 x3_1).f2.f1), .int .i64 ((rd_T31 l0 x3_1).f2.f2)]] ?_;with_reducible refine (r10_MayVec.calls _ _ _ _ _ A12.out).mono ?_;rintro e wx22 ⟨rfl,hb⟩;refine ⟨_,rfl, ?_⟩;have HBn:=am_ (below_step HBc.out hb);clear HBc;have HBc:=HBn;clear HBn;refine hK.out _ _ (by first|exact ⟨pw_cell_below hb hHeld.1,pw_cell_below hb hHeld.2.1,pw_cell_below hb hHeld.2.2.1,pw_cell_below hb hHeld.2.2.2.1,pw_cell_below hb hHeld.2.2.2.2.1,pw_cell_below hb hHeld.2.2.2.2.2.1,pw_cell_below hb hHeld.2.2.2.2.2.2.1,pw_cell_below hb hHeld.2.2.2.2.2.2.2.1,pw_cell_below hb hHeld.2.2.2.2.2.2.2.2.1,pw_cell_below hb hHeld.2.2.2.2.2.2.2.2.2.1,pw_cell_below hb hHeld.2.2.2.2.2.2.2.2.2.2.1,pw_cell_below hb hHeld.2.2.2.2.2.2.2.2.2.2.2.1,pw_cell_below hb hHeld.2.2.2.2.2.2.2.2.2.2.2.2⟩|exact ⟨pw_cell_below hb hHeld.1,pw_cell_below hb hHeld.2.1,pw_cell_below hb hHeld.2.2.1,pw_cell_below hb hHeld.2.2.2.1,pw_cell_below hb hHeld.2.2.2.2.1,pw_cell_below hb hHeld.2.2.2.2.2.1,pw_cell_below hb hHeld.2.2.2.2.2.2.1,pw_cell_below hb hHeld.2.2.2.2.2.2.2.1,pw_cell_below hb hHeld.2.2.2.2.2.2.2.2.1,pw_cell_below hb hHeld.2.2.2.2.2.2.2.2.2.1,pw_cell_below hb hHeld.2.2.2.2.2.2.2.2.2.2.1,pw_cell_below hb hHeld.2.2.2.2.2.2.2.2.2.2.2⟩) (fun hHeld=> ?_);clear hK K hb;refine norm_ (a':= ?_) ?_ ?_;rotate_left;(show Act.put _ (some 43) _=_;simp only [Act.put,List.setIfInBounds_toArray,List.set_cons_zero,List.set_cons_succ,i64_w,i32_w];rfl))|(refine pn_ (i:=22) (N:=some 43) (r10_Right.tk 23) HT_ ?_))
      all_goals (try (have H:=HC.out;clear HC;by_cases c13:t5=true;(case' pos=>subst c13;rw [if_pos rfl] at H;have HC:=Aside0.mk H;clear H);(case' neg=>rw [if_neg c13] at H;have q_:t5=false:=Bool.eq_false_iff.mpr c13;subst q_;clear c13;have HC:=Aside0.mk H;clear H)))
      all_goals (first|(refine pu_ (i:=23) (N:=some 44) (r10_Right.tk 24) HT_ ?_)|(refine pn_ (i:=23) (N:=some 44) (r10_Right.tk 24) HT_ ?_))
      all_goals (refine pu_ (i:=24) (N:=some 45) (r10_Right.tk 25) HT_ ?_)
      all_goals (refine pu_ (i:=25) (N:=some 46) (r10_Right.tk 26) HT_ ?_)
      all_goals (try (have H:=HC.out;obtain ⟨t6,A140,H2⟩:=Option.bind_eq_some_iff.mp H;clear H HC;have A14:=Aside0.mk A140;clear A140;have HC:=Aside0.mk H2;clear H2))
      all_goals (first|(refine pu_ (i:=26) (N:=some 47) (r10_Right.tk 27) HT_ ?_)|(refine pn_ (i:=26) (N:=some 47) (r10_Right.tk 27) HT_ ?_))
      all_goals (first|(refine tk_ (i:=27) (N:=some 48) (r10_Right.tk 28) HT_ HW_ hHeld ?_)|(refine pn_ (i:=27) (N:=some 48) (r10_Right.tk 28) HT_ ?_))
      all_goals (first|(refine on_ (i:=28) (N:=some 49) (r10_Right.tk 29) HT_ (fun K hK=> ?_);refine gs_ Try.func65 #[.agg #[.int .i64 ((rd_T31 l0 x3_1).f3.f0), .int .i64 ((rd_T31 l0 x3_1).f3.f1), .int .i64 ((rd_T31 l0 x3_1).f3.f2)]] ?_;with_reducible refine (r10_MayVec.calls _ _ _ _ _ A14.out).mono ?_;rintro e wx28 ⟨rfl,hb⟩;refine ⟨_,rfl, ?_⟩;have HBn:=am_ (below_step HBc.out hb);clear HBc;have HBc:=HBn;clear HBn;refine hK.out _ _ (by first|exact ⟨pw_cell_below hb hHeld.1,pw_cell_below hb hHeld.2.1,pw_cell_below hb hHeld.2.2.1,pw_cell_below hb hHeld.2.2.2.1,pw_cell_below hb hHeld.2.2.2.2.1,pw_cell_below hb hHeld.2.2.2.2.2.1,pw_cell_below hb hHeld.2.2.2.2.2.2.1,pw_cell_below hb hHeld.2.2.2.2.2.2.2.1,pw_cell_below hb hHeld.2.2.2.2.2.2.2.2.1,pw_cell_below hb hHeld.2.2.2.2.2.2.2.2.2.1,pw_cell_below hb hHeld.2.2.2.2.2.2.2.2.2.2.1,pw_cell_below hb hHeld.2.2.2.2.2.2.2.2.2.2.2.1,pw_cell_below hb hHeld.2.2.2.2.2.2.2.2.2.2.2.2⟩|exact ⟨pw_cell_below hb hHeld.1,pw_cell_below hb hHeld.2.1,pw_cell_below hb hHeld.2.2.1,pw_cell_below hb hHeld.2.2.2.1,pw_cell_below hb hHeld.2.2.2.2.1,pw_cell_below hb hHeld.2.2.2.2.2.1,pw_cell_below hb hHeld.2.2.2.2.2.2.1,pw_cell_below hb hHeld.2.2.2.2.2.2.2.1,pw_cell_below hb hHeld.2.2.2.2.2.2.2.2.1,pw_cell_below hb hHeld.2.2.2.2.2.2.2.2.2.1,pw_cell_below hb hHeld.2.2.2.2.2.2.2.2.2.2.1,pw_cell_below hb hHeld.2.2.2.2.2.2.2.2.2.2.2⟩) (fun hHeld=> ?_);clear hK K hb;refine norm_ (a':= ?_) ?_ ?_;rotate_left;(show Act.put _ (some 49) _=_;simp only [Act.put,List.setIfInBounds_toArray,List.set_cons_zero,List.set_cons_succ,i64_w,i32_w];rfl))|(refine pn_ (i:=28) (N:=some 49) (r10_Right.tk 29) HT_ ?_))
      all_goals (try (have H:=HC.out;clear HC;by_cases c15:t6=true;(case' pos=>subst c15;rw [if_pos rfl] at H;have HC:=Aside0.mk H;clear H);(case' neg=>rw [if_neg c15] at H;have q_:t6=false:=Bool.eq_false_iff.mpr c15;subst q_;clear c15;have HC:=Aside0.mk H;clear H)))
      all_goals (first|(refine pu_ (i:=29) (N:=some 50) (r10_Right.tk 30) HT_ ?_)|(refine pn_ (i:=29) (N:=some 50) (r10_Right.tk 30) HT_ ?_))
      all_goals (refine pu_ (i:=30) (N:=some 51) (r10_Right.tk 31) HT_ ?_)
      all_goals (refine pu_ (i:=31) (N:=some 52) (r10_Right.tk 32) HT_ ?_)
      all_goals (first|(refine pu_ (i:=32) (N:=some 53) (r10_Right.tk 33) HT_ ?_)|(refine pn_ (i:=32) (N:=some 53) (r10_Right.tk 33) HT_ ?_))
      all_goals (first|(refine tk_ (i:=33) (N:=some 54) (r10_Right.tk 34) HT_ HW_ hHeld ?_)|(refine pn_ (i:=33) (N:=some 54) (r10_Right.tk 34) HT_ ?_))
      all_goals (try (have H:=HC.out;clear HC;by_cases c16:((rd_T31 l0 x3_1).f1).toList=([]:List UInt8);(case' pos=>rw [if_pos c16] at H;have c16b0:(((rd_T31 l0 x3_1).f1).toList==([]:List UInt8))=true:=beq_iff_eq.mpr c16;have c16b1:(((rd_T31 l0 x3_1).f1).toList !=([]:List UInt8))=false:=bne_eq_false_iff_eq.mpr c16;have c16b2:(((rd_T31 l0 x3_1).f1).toList).isEmpty=true:=by rw [c16];rfl);(case' neg=>rw [if_neg c16] at H;have c16b0:(((rd_T31 l0 x3_1).f1).toList==([]:List UInt8))=false:=beq_eq_false_iff_ne.mpr c16;have c16b1:(((rd_T31 l0 x3_1).f1).toList !=([]:List UInt8))=true:=bne_iff_ne.mpr c16;have c16b2:(((rd_T31 l0 x3_1).f1).toList).isEmpty=false:=by simpa using c16);all_goals (clear c16;have HC:=Aside0.mk H;clear H)))
      all_goals (first|(refine pu_ (i:=34) (N:=some 55) (r10_Right.tk 35) HT_ ?_)|(refine pn_ (i:=34) (N:=some 55) (r10_Right.tk 35) HT_ ?_))
      all_goals (first|(refine pu_ (i:=35) (N:=some 56) (r10_Right.tk 36) HT_ ?_)|(refine pn_ (i:=35) (N:=some 56) (r10_Right.tk 36) HT_ ?_))
      all_goals (try (have H:=HC.out;have _hf:=c16b1;obtain ⟨t9,A220,H2⟩:=Option.bind_eq_some_iff.mp H;clear H HC;have A22:=Aside0.mk A220;clear A220;have HC:=Aside0.mk H2;clear H2))
      all_goals (first|(refine pu_ (i:=36) (N:=some 57) (r10_Right.tk 37) HT_ ?_)|(refine pn_ (i:=36) (N:=some 57) (r10_Right.tk 37) HT_ ?_))
      all_goals (first|(refine pu_ (i:=37) (N:=some 58) (r10_Right.tk 38) HT_ ?_)|(refine pn_ (i:=37) (N:=some 58) (r10_Right.tk 38) HT_ ?_))
      all_goals (first|(refine tk_ (i:=38) (N:=some 59) (r10_Right.tk 39) HT_ HW_ hHeld ?_)|(refine pn_ (i:=38) (N:=some 59) (r10_Right.tk 39) HT_ ?_))
      all_goals (first|(refine on_ (i:=39) (N:=some 60) (r10_Right.tk 40) HT_ (fun K hK=> ?_);refine gs_ Try.func50 #[.slice (some ad1) l0.length c0, .string ((rd_T31 l0 x3_1).f1)] ?_;refine (r10_Find.calls k1 _ _ l0 _ _ _ (Kd.C_below (Kd.C_below HR0.out HB.out) HBc.out) HC0.out A22.out).mono ?_;rintro e wx39 ⟨rfl,hd⟩;have hb:=hd.below;clear hd;refine ⟨_,rfl, ?_⟩;have HBn:=am_ (below_step HBc.out hb);clear HBc;have HBc:=HBn;clear HBn;refine hK.out _ _ (by first|exact ⟨pw_cell_below hb hHeld.1,pw_cell_below hb hHeld.2.1,pw_cell_below hb hHeld.2.2.1,pw_cell_below hb hHeld.2.2.2.1,pw_cell_below hb hHeld.2.2.2.2.1,pw_cell_below hb hHeld.2.2.2.2.2.1,pw_cell_below hb hHeld.2.2.2.2.2.2.1,pw_cell_below hb hHeld.2.2.2.2.2.2.2.1,pw_cell_below hb hHeld.2.2.2.2.2.2.2.2.1,pw_cell_below hb hHeld.2.2.2.2.2.2.2.2.2.1,pw_cell_below hb hHeld.2.2.2.2.2.2.2.2.2.2.1,pw_cell_below hb hHeld.2.2.2.2.2.2.2.2.2.2.2.1,pw_cell_below hb hHeld.2.2.2.2.2.2.2.2.2.2.2.2⟩|exact ⟨pw_cell_below hb hHeld.1,pw_cell_below hb hHeld.2.1,pw_cell_below hb hHeld.2.2.1,pw_cell_below hb hHeld.2.2.2.1,pw_cell_below hb hHeld.2.2.2.2.1,pw_cell_below hb hHeld.2.2.2.2.2.1,pw_cell_below hb hHeld.2.2.2.2.2.2.1,pw_cell_below hb hHeld.2.2.2.2.2.2.2.1,pw_cell_below hb hHeld.2.2.2.2.2.2.2.2.1,pw_cell_below hb hHeld.2.2.2.2.2.2.2.2.2.1,pw_cell_below hb hHeld.2.2.2.2.2.2.2.2.2.2.1,pw_cell_below hb hHeld.2.2.2.2.2.2.2.2.2.2.2⟩) (fun hHeld=> ?_);clear hK K hb;refine norm_ (a':= ?_) ?_ ?_;rotate_left;(show Act.put _ (some 60) _=_;simp only [Act.put,List.setIfInBounds_toArray,List.set_cons_zero,List.set_cons_succ,i64_w,i32_w];rfl))|(refine pn_ (i:=39) (N:=some 60) (r10_Right.tk 40) HT_ ?_))
      all_goals (try (have H:=HC.out;clear HC;by_cases c23:t9<0;(case' pos=>rw [if_pos c23] at H;have c23b0:decide (t9<0)=true:=decide_eq_true c23;clear c23;have HC:=Aside0.mk H;clear H);(case' neg=>rw [if_neg c23] at H;have c23b0:decide (t9<0)=false:=decide_eq_false c23;clear c23;have HC:=Aside0.mk H;clear H)))
      all_goals (first|(refine pu_ (i:=40) (N:=some 61) (r10_Right.tk 41) HT_ ?_)|(refine pn_ (i:=40) (N:=some 61) (r10_Right.tk 41) HT_ ?_))
      all_goals (first|(refine pu_ (i:=41) (N:=some 62) (r10_Right.tk 42) HT_ ?_)|(refine pn_ (i:=41) (N:=some 62) (r10_Right.tk 42) HT_ ?_))
      all_goals (refine pu_ (i:=42) (N:=some 63) (r10_Right.tk 43) HT_ ?_)
      all_goals (refine pu_ (i:=43) (N:=some 64) (r10_Right.tk 44) HT_ ?_)
      all_goals (first|(refine pu_ (i:=44) (N:=some 65) (r10_Right.tk 45) HT_ ?_)|(refine pn_ (i:=44) (N:=some 65) (r10_Right.tk 45) HT_ ?_))
      all_goals (first|(refine tk_ (i:=45) (N:=some 66) (r10_Right.tk 46) HT_ HW_ hHeld ?_)|(refine pn_ (i:=45) (N:=some 66) (r10_Right.tk 46) HT_ ?_))
      all_goals (try (have H:=HC.out;clear HC;by_cases c17:(rd_T31 l0 x3_1).f5<1;(case' pos=>rw [if_pos c17] at H;have c17b0:decide ((rd_T31 l0 x3_1).f5<1)=true:=decide_eq_true c17;clear c17;have HC:=Aside0.mk H;clear H);(case' neg=>rw [if_neg c17] at H;have c17b0:decide ((rd_T31 l0 x3_1).f5<1)=false:=decide_eq_false c17;clear c17;have HC:=Aside0.mk H;clear H)))
      all_goals (first|(refine pu_ (i:=46) (N:=some 67) (r10_Right.tk 47) HT_ ?_)|(refine pn_ (i:=46) (N:=some 67) (r10_Right.tk 47) HT_ ?_))
      all_goals (refine pu_ (i:=47) (N:=some 68) (r10_Right.tk 48) HT_ ?_)
      all_goals (refine pu_ (i:=48) (N:=some 69) (r10_Right.tk 49) HT_ ?_)
      all_goals (first|(refine pu_ (i:=49) (N:=some 70) (r10_Right.tk 50) HT_ ?_)|(refine pn_ (i:=49) (N:=some 70) (r10_Right.tk 50) HT_ ?_))
      all_goals (first|(refine tk_ (i:=50) (N:=some 71) (r10_Right.tk 51) HT_ HW_ hHeld ?_)|(refine pn_ (i:=50) (N:=some 71) (r10_Right.tk 51) HT_ ?_))
      all_goals (try (have H:=HC.out;clear HC;by_cases c18:(rd_T31 l0 x3_1).f5>9007199254740992;(case' pos=>rw [if_pos c18] at H;have c18b0:decide (9007199254740992<(rd_T31 l0 x3_1).f5)=true:=decide_eq_true c18;clear c18;have HC:=Aside0.mk H;clear H);(case' neg=>rw [if_neg c18] at H;have c18b0:decide (9007199254740992<(rd_T31 l0 x3_1).f5)=false:=decide_eq_false c18;clear c18;have HC:=Aside0.mk H;clear H)))
      all_goals (first|(refine pu_ (i:=51) (N:=some 72) (r10_Right.tk 52) HT_ ?_)|(refine pn_ (i:=51) (N:=some 72) (r10_Right.tk 52) HT_ ?_))
      all_goals (refine pu_ (i:=52) (N:=some 73) (r10_Right.tk 53) HT_ ?_)
      all_goals (refine pu_ (i:=53) (N:=some 74) (r10_Right.tk 54) HT_ ?_)
      all_goals (try (have H:=HC.out;obtain ⟨t7,A390,H2⟩:=Option.bind_eq_some_iff.mp H;clear H HC;have A39:=Aside0.mk A390;clear A390;have HC:=Aside0.mk H2;clear H2))
      all_goals (first|(refine pu_ (i:=54) (N:=some 75) (r10_Right.tk 55) HT_ ?_)|(refine pn_ (i:=54) (N:=some 75) (r10_Right.tk 55) HT_ ?_))
      all_goals (first|(refine tk_ (i:=55) (N:=some 76) (r10_Right.tk 56) HT_ HW_ hHeld ?_)|(refine pn_ (i:=55) (N:=some 76) (r10_Right.tk 56) HT_ ?_))
      all_goals (first|(refine pu_ (i:=56) (N:=some 77) (r10_Right.tk 57) HT_ ?_)|(refine pn_ (i:=56) (N:=some 77) (r10_Right.tk 57) HT_ ?_))
      all_goals (first|(refine tk_ (i:=57) (N:=some 78) (r10_Right.tk 58) HT_ HW_ hHeld ?_)|(refine pn_ (i:=57) (N:=some 78) (r10_Right.tk 58) HT_ ?_))
      all_goals (first|(refine on_ (i:=58) (N:=some 79) (r10_Right.tk 59) HT_ (fun K hK=> ?_);refine gs_ Try.func34 #[.agg #[.int .i64 ((rd_T31 l0 x3_1).f4.f0), .int .i64 ((rd_T31 l0 x3_1).f4.f1), .int .i64 ((rd_T31 l0 x3_1).f4.f2)], .agg #[.int .i64 ((rd_T31 l0 x3_1).f2.f0), .int .i64 ((rd_T31 l0 x3_1).f2.f1), .int .i64 ((rd_T31 l0 x3_1).f2.f2)]] ?_;with_reducible refine (r10_Le.calls _ _ _ _ _ _ _ _ A39.out).mono ?_;rintro e wx58 ⟨rfl,hb⟩;refine ⟨_,rfl, ?_⟩;have HBn:=am_ (below_step HBc.out hb);clear HBc;have HBc:=HBn;clear HBn;refine hK.out _ _ (by first|exact ⟨pw_cell_below hb hHeld.1,pw_cell_below hb hHeld.2.1,pw_cell_below hb hHeld.2.2.1,pw_cell_below hb hHeld.2.2.2.1,pw_cell_below hb hHeld.2.2.2.2.1,pw_cell_below hb hHeld.2.2.2.2.2.1,pw_cell_below hb hHeld.2.2.2.2.2.2.1,pw_cell_below hb hHeld.2.2.2.2.2.2.2.1,pw_cell_below hb hHeld.2.2.2.2.2.2.2.2.1,pw_cell_below hb hHeld.2.2.2.2.2.2.2.2.2.1,pw_cell_below hb hHeld.2.2.2.2.2.2.2.2.2.2.1,pw_cell_below hb hHeld.2.2.2.2.2.2.2.2.2.2.2.1,pw_cell_below hb hHeld.2.2.2.2.2.2.2.2.2.2.2.2⟩|exact ⟨pw_cell_below hb hHeld.1,pw_cell_below hb hHeld.2.1,pw_cell_below hb hHeld.2.2.1,pw_cell_below hb hHeld.2.2.2.1,pw_cell_below hb hHeld.2.2.2.2.1,pw_cell_below hb hHeld.2.2.2.2.2.1,pw_cell_below hb hHeld.2.2.2.2.2.2.1,pw_cell_below hb hHeld.2.2.2.2.2.2.2.1,pw_cell_below hb hHeld.2.2.2.2.2.2.2.2.1,pw_cell_below hb hHeld.2.2.2.2.2.2.2.2.2.1,pw_cell_below hb hHeld.2.2.2.2.2.2.2.2.2.2.1,pw_cell_below hb hHeld.2.2.2.2.2.2.2.2.2.2.2⟩) (fun hHeld=> ?_);clear hK K hb;refine norm_ (a':= ?_) ?_ ?_;rotate_left;(show Act.put _ (some 79) _=_;simp only [Act.put,List.setIfInBounds_toArray,List.set_cons_zero,List.set_cons_succ,i64_w,i32_w];rfl))|(refine pn_ (i:=58) (N:=some 79) (r10_Right.tk 59) HT_ ?_))
      all_goals (try (have H:=HC.out;clear HC;by_cases c40:t7=true;(case' pos=>subst c40;rw [if_pos rfl] at H;have HC:=Aside0.mk H;clear H);(case' neg=>rw [if_neg c40] at H;have q_:t7=false:=Bool.eq_false_iff.mpr c40;subst q_;clear c40;have HC:=Aside0.mk H;clear H)))
      all_goals (first|(refine pu_ (i:=59) (N:=some 80) (r10_Right.tk 60) HT_ ?_)|(refine pn_ (i:=59) (N:=some 80) (r10_Right.tk 60) HT_ ?_))
      all_goals (refine pu_ (i:=60) (N:=some 81) (r10_Right.tk 61) HT_ ?_)
      all_goals (refine pu_ (i:=61) (N:=some 82) (r10_Right.tk 62) HT_ ?_)
      all_goals (try (have H:=HC.out;obtain ⟨t8,A580,H2⟩:=Option.bind_eq_some_iff.mp H;clear H HC;have A58:=Aside0.mk A580;clear A580;have HC:=Aside0.mk H2;clear H2))
      all_goals (first|(refine pu_ (i:=62) (N:=some 83) (r10_Right.tk 63) HT_ ?_)|(refine pn_ (i:=62) (N:=some 83) (r10_Right.tk 63) HT_ ?_))
      all_goals (first|(refine tk_ (i:=63) (N:=some 84) (r10_Right.tk 64) HT_ HW_ hHeld ?_)|(refine pn_ (i:=63) (N:=some 84) (r10_Right.tk 64) HT_ ?_))
      all_goals (first|(refine on_ (i:=64) (N:=some 85) (r10_Right.tk 65) HT_ (fun K hK=> ?_);refine gs_ Try.func65 #[.agg #[.int .i64 ((rd_T31 l0 x3_1).f4.f0), .int .i64 ((rd_T31 l0 x3_1).f4.f1), .int .i64 ((rd_T31 l0 x3_1).f4.f2)]] ?_;with_reducible refine (r10_MayVec.calls _ _ _ _ _ A58.out).mono ?_;rintro e wx64 ⟨rfl,hb⟩;refine ⟨_,rfl, ?_⟩;have HBn:=am_ (below_step HBc.out hb);clear HBc;have HBc:=HBn;clear HBn;refine hK.out _ _ (by first|exact ⟨pw_cell_below hb hHeld.1,pw_cell_below hb hHeld.2.1,pw_cell_below hb hHeld.2.2.1,pw_cell_below hb hHeld.2.2.2.1,pw_cell_below hb hHeld.2.2.2.2.1,pw_cell_below hb hHeld.2.2.2.2.2.1,pw_cell_below hb hHeld.2.2.2.2.2.2.1,pw_cell_below hb hHeld.2.2.2.2.2.2.2.1,pw_cell_below hb hHeld.2.2.2.2.2.2.2.2.1,pw_cell_below hb hHeld.2.2.2.2.2.2.2.2.2.1,pw_cell_below hb hHeld.2.2.2.2.2.2.2.2.2.2.1,pw_cell_below hb hHeld.2.2.2.2.2.2.2.2.2.2.2.1,pw_cell_below hb hHeld.2.2.2.2.2.2.2.2.2.2.2.2⟩|exact ⟨pw_cell_below hb hHeld.1,pw_cell_below hb hHeld.2.1,pw_cell_below hb hHeld.2.2.1,pw_cell_below hb hHeld.2.2.2.1,pw_cell_below hb hHeld.2.2.2.2.1,pw_cell_below hb hHeld.2.2.2.2.2.1,pw_cell_below hb hHeld.2.2.2.2.2.2.1,pw_cell_below hb hHeld.2.2.2.2.2.2.2.1,pw_cell_below hb hHeld.2.2.2.2.2.2.2.2.1,pw_cell_below hb hHeld.2.2.2.2.2.2.2.2.2.1,pw_cell_below hb hHeld.2.2.2.2.2.2.2.2.2.2.1,pw_cell_below hb hHeld.2.2.2.2.2.2.2.2.2.2.2⟩) (fun hHeld=> ?_);clear hK K hb;refine norm_ (a':= ?_) ?_ ?_;rotate_left;(show Act.put _ (some 85) _=_;simp only [Act.put,List.setIfInBounds_toArray,List.set_cons_zero,List.set_cons_succ,i64_w,i32_w];rfl))|(refine pn_ (i:=64) (N:=some 85) (r10_Right.tk 65) HT_ ?_))
      all_goals (try (have H:=HC.out;clear HC;by_cases c59:t8=true;(case' pos=>subst c59;rw [if_pos rfl] at H;have HC:=Aside0.mk H;clear H);(case' neg=>rw [if_neg c59] at H;have q_:t8=false:=Bool.eq_false_iff.mpr c59;subst q_;clear c59;have HC:=Aside0.mk H;clear H)))
      all_goals (first|(refine pu_ (i:=65) (N:=some 86) (r10_Right.tk 66) HT_ ?_)|(refine pn_ (i:=65) (N:=some 86) (r10_Right.tk 66) HT_ ?_))
      all_goals (refine pu_ (i:=66) (N:=some 87) (r10_Right.tk 67) HT_ ?_)
      all_goals (refine done_ (done_of HT_.out (by kernel_rfl)) ?_;try go_wp2)
      all_goals (first|(obtain rfl:=Option.some.inj HC.out;go_wp2;go_ret;exact ⟨rfl,below_step HB.out HBc.out⟩)|(go_roundg k1;(case measure=>have:=HK1.out;omega);(case rel=>exact ⟨(wrap64 (x3_1+1)),(by first|rfl|(simp;done)|(simp [*];done)),HC,⟨by have:=HK1.out;omega⟩,⟨below_step HB.out HBc.out⟩⟩)))
     ·rw [if_neg c4] at H
      exact absurd H (by simp)
    ·rw [if_neg c3] at H
     have c3b0:decide (x3_1<(l0.length:Int))=false:=decide_eq_false c3
     clear c3
     have H':=Aside0.mk H
     clear H
     go_wp2
     go_loopg [5] k1 (fun kq v5 w'=> ∃(x5_2:Int),v5= .int .i64 x5_2∧Aside0 (r10_Right.l1 kq l0 x5_2=some r)∧Aside0 (kq≤k1)∧Aside0 (Below w.heap.size w w'))
     case atStart=>exact ⟨(0),(by first|rfl|(simp;done)|(simp [*];done)),H',⟨Nat.le_refl _⟩,⟨zl0_ HB⟩⟩
     case round=>
      clear H'
      try clear c1
      try clear p1
      try clear q1
      try clear hx1
      try clear p2
      try clear c3
      try clear c3b0
      try clear c4
      try clear c6
      try clear c10
      try clear c105
      try clear hcz229_0
      try clear hcz229_1
      try clear hcz229_10
      try clear hcz229_11
      try clear hcz229_2
      try clear hcz229_3
      try clear hcz229_4
      try clear hcz229_5
      try clear hcz229_6
      try clear hcz229_7
      try clear hcz229_8
      try clear hcz229_9
      try clear hfz229_0
      try clear hfz229_1
      try clear hfz229_10
      try clear hfz229_11
      try clear hfz229_2
      try clear hfz229_3
      try clear hfz229_4
      try clear hfz229_5
      try clear hfz229_6
      try clear hfz229_7
      try clear hfz229_8
      try clear hfz229_9
      try clear hx1_0
      try clear hx1_1
      try clear hx1_10
      try clear hx1_11
      try clear hx1_2
      try clear hx1_3
      try clear hx1_4
      try clear hx1_5
      try clear hx1_6
      try clear hx1_7
      try clear hx1_8
      try clear hx1_9
      try clear p1
      try clear q1
      obtain ⟨x5_2,rfl,HA,HK2,HB⟩:=hrel
      cases gk with
      |zero=>exact absurd HA.out (by simp [r10_Right.l1])
      |succ k2=>
       have H:=HA.out
       clear HA
       simp only [r10_Right.l1] at H
       by_cases c232:x5_2<(l0.length:Int)
       ·rw [if_pos c232] at H
        have c232b0:decide (x5_2<(l0.length:Int))=true:=decide_eq_true c232
        clear c232
        by_cases c233:0≤x5_2
        ·rw [if_pos c233] at H
         have c233b0:decide (0≤x5_2)=true:=decide_eq_true c233
         clear c233
         have H':=Aside0.mk H
         clear H
         have p19:0≤(x5_2:Int):=of_decide_eq_true zq_
         have q19:x5_2<(l0.length:Int):=of_decide_eq_true zq_
         obtain ⟨ad19,e19,hx19_0,hx19_1,hx19_2,hx19_3,hx19_4,hx19_5,hx19_6,hx19_7,hx19_8,hx19_9,hx19_10,hx19_11⟩:=at_T31 HR0.out x5_2 p19 q19
         cases e19
         replace hx19_0:=zx_ HB hx19_0
         replace hx19_1:=zx_ HB hx19_1
         replace hx19_2:=zx_ HB hx19_2
         replace hx19_3:=zx_ HB hx19_3
         replace hx19_4:=zx_ HB hx19_4
         replace hx19_5:=zx_ HB hx19_5
         replace hx19_6:=zx_ HB hx19_6
         replace hx19_7:=zx_ HB hx19_7
         replace hx19_8:=zx_ HB hx19_8
         replace hx19_9:=zx_ HB hx19_9
         replace hx19_10:=zx_ HB hx19_10
         replace hx19_11:=zx_ HB hx19_11
         replace p19:=eq_true p19
         replace q19:=eq_true q19
         go_wp2_with (first|((with_reducible refine gate_dst (N:=6) rfl ?_);(try (refine gate_guard (by rfl) ?_;dsimp only));refine bx_ (N:=6) (cs:=#[.int .i64 0, .int .i64 0, .int .i64 0]) (t:=27) ?_;intro gb20 hg w234 hbox hb;have BK20:=am_ (hbox);have GW20:=am_ ((zg0_ HB hg:w.heap.size≤gb20));have GE20:=am_ ((zg0_ HB hg:w.heap.size≤gb20));replace HB:=am_ (below_step (zl0_ HB) hb);clear hb hbox hg;obtain ⟨hcz235_0,hcz235_1,hcz235_2⟩:=x3_ BK20;have hfz235_0:=blk_frozen BK20.out 0;have hfz235_1:=blk_frozen BK20.out 1;have hfz235_2:=blk_frozen BK20.out 2))
         go_loopg [7] k2 (fun kq v7 w'=> ∃(x7_3:Int) (x21000_3:Int) (x21001_3:Int) (x21002_3:Int),v7= .int .i64 x7_3∧Aside0 (r10_Right.l2 kq l0 x5_2 x7_3 x21000_3 x21001_3 x21002_3=some r)∧Aside0 (kq≤k2)∧Aside0 (w'.heap[gb20]?=some (.cells #[.int .i64 x21000_3, .int .i64 x21001_3, .int .i64 x21002_3] 27 (0,0)))∧Aside0 (Below w.heap.size w w'))
         case atStart=>exact ⟨(0),((rd_T31 l0 x5_2).f3.f0),((rd_T31 l0 x5_2).f3.f1),((rd_T31 l0 x5_2).f3.f2),(by first|rfl|(simp;done)|(simp [*];done)),H',⟨Nat.le_refl _⟩,⟨zw_ BK20⟩,⟨zl1_ HB GE20⟩⟩
         case round=>
          clear H'
          try clear c1
          try clear p1
          try clear q1
          try clear hx1
          try clear c2
          try clear p2
          try clear c3
          try clear c3b0
          try clear c4
          try clear c6
          try clear c10
          try clear p19
          try clear q19
          try clear hx19
          try clear c23
          try clear c105
          try clear c232
          try clear c232b0
          try clear c233
          try clear c233b0
          try clear hcz229_0
          try clear hcz229_1
          try clear hcz229_10
          try clear hcz229_11
          try clear hcz229_2
          try clear hcz229_3
          try clear hcz229_4
          try clear hcz229_5
          try clear hcz229_6
          try clear hcz229_7
          try clear hcz229_8
          try clear hcz229_9
          try clear hcz235_0
          try clear hcz235_1
          try clear hcz235_2
          try clear hfz229_0
          try clear hfz229_1
          try clear hfz229_10
          try clear hfz229_11
          try clear hfz229_2
          try clear hfz229_3
          try clear hfz229_4
          try clear hfz229_5
          try clear hfz229_6
          try clear hfz229_7
          try clear hfz229_8
          try clear hfz229_9
          try clear hfz235_0
          try clear hfz235_1
          try clear hfz235_2
          try clear hx19_0
          try clear hx19_1
          try clear hx19_10
          try clear hx19_11
          try clear hx19_2
          try clear hx19_3
          try clear hx19_4
          try clear hx19_5
          try clear hx19_6
          try clear hx19_7
          try clear hx19_8
          try clear hx19_9
          try clear hx1_0
          try clear hx1_1
          try clear hx1_10
          try clear hx1_11
          try clear hx1_2
          try clear hx1_3
          try clear hx1_4
          try clear hx1_5
          try clear hx1_6
          try clear hx1_7
          try clear hx1_8
          try clear hx1_9
          try clear p1
          try clear p19
          try clear p2
          try clear q1
          try clear q19
          obtain ⟨x7_3,x21000_3,x21001_3,x21002_3,rfl,HA,HK3,BK20,HB⟩:=hrel
          cases gk with
          |zero=>exact absurd HA.out (by simp [r10_Right.l2])
          |succ k3=>
           have H:=HA.out
           clear HA
           simp only [r10_Right.l2] at H
           by_cases c236:x7_3<(l0.length:Int)
           ·rw [if_pos c236] at H
            have c236b0:decide (x7_3<(l0.length:Int))=true:=decide_eq_true c236
            clear c236
            by_cases c237:0≤x7_3
            ·rw [if_pos c237] at H
             have c237b0:decide (0≤x7_3)=true:=decide_eq_true c237
             clear c237
             by_cases c238:0≤x5_2
             ·rw [if_pos c238] at H
              have c238b0:decide (0≤x5_2)=true:=decide_eq_true c238
              clear c238
              by_cases c239:x5_2<(l0.length:Int)
              ·rw [if_pos c239] at H
               have c239b0:decide (x5_2<(l0.length:Int))=true:=decide_eq_true c239
               clear c239
               by_cases c240:((rd_T31 l0 x7_3).f1).toList=((rd_T31 l0 x5_2).f0).toList
               ·rw [if_pos c240] at H
                have c240b0:(((rd_T31 l0 x7_3).f1).toList==((rd_T31 l0 x5_2).f0).toList)=true:=beq_iff_eq.mpr c240
                have c240b1:(((rd_T31 l0 x7_3).f1).toList !=((rd_T31 l0 x5_2).f0).toList)=false:=bne_eq_false_iff_eq.mpr c240
                clear c240
                replace H:=Option.bind_eq_some_iff.mp H
                obtain ⟨⟨t24,t25,t26⟩,A2410,H⟩:=H
                try dsimp only at H
                have A241:=Aside0.mk A2410
                clear A2410
                have H':=Aside0.mk H
                clear H
                try go_wp2
                replace BK20:=am_ (blk_drew BK20.out)
                replace HB:=am_ (below_drew1 HB.out)
                have p21:0≤(x7_3:Int):=of_decide_eq_true zq_
                have q21:x7_3<(l0.length:Int):=of_decide_eq_true zq_
                obtain ⟨ad21,e21,hx21_0,hx21_1,hx21_2,hx21_3,hx21_4,hx21_5,hx21_6,hx21_7,hx21_8,hx21_9,hx21_10,hx21_11⟩:=at_T31 HR0.out x7_3 p21 q21
                have hw21_11:=hx21_11
                have hw21_10:=hx21_10
                have hw21_9:=hx21_9
                have hw21_8:=hx21_8
                have hw21_7:=hx21_7
                have hw21_6:=hx21_6
                have hw21_5:=hx21_5
                have hw21_4:=hx21_4
                have hw21_3:=hx21_3
                have hw21_2:=hx21_2
                have hw21_1:=hx21_1
                have hw21_0:=hx21_0
                obtain rfl:ad19=ad21:=(by injection e21)
                replace hx21_0:=zx_ HB hx21_0
                replace hx21_1:=zx_ HB hx21_1
                replace hx21_2:=zx_ HB hx21_2
                replace hx21_3:=zx_ HB hx21_3
                replace hx21_4:=zx_ HB hx21_4
                replace hx21_5:=zx_ HB hx21_5
                replace hx21_6:=zx_ HB hx21_6
                replace hx21_7:=zx_ HB hx21_7
                replace hx21_8:=zx_ HB hx21_8
                replace hx21_9:=zx_ HB hx21_9
                replace hx21_10:=zx_ HB hx21_10
                replace hx21_11:=zx_ HB hx21_11
                replace p21:=eq_true p21
                replace q21:=eq_true q21
                have p22:0≤(x5_2:Int):=of_decide_eq_true zq_
                have q22:x5_2<(l0.length:Int):=of_decide_eq_true zq_
                obtain ⟨ad22,e22,hx22_0,hx22_1,hx22_2,hx22_3,hx22_4,hx22_5,hx22_6,hx22_7,hx22_8,hx22_9,hx22_10,hx22_11⟩:=at_T31 HR0.out x5_2 p22 q22
                have hw22_11:=hx22_11
                have hw22_10:=hx22_10
                have hw22_9:=hx22_9
                have hw22_8:=hx22_8
                have hw22_7:=hx22_7
                have hw22_6:=hx22_6
                have hw22_5:=hx22_5
                have hw22_4:=hx22_4
                have hw22_3:=hx22_3
                have hw22_2:=hx22_2
                have hw22_1:=hx22_1
                have hw22_0:=hx22_0
                obtain rfl:ad19=ad22:=(by injection e22)
                replace hx22_0:=zx_ HB hx22_0
                replace hx22_1:=zx_ HB hx22_1
                replace hx22_2:=zx_ HB hx22_2
                replace hx22_3:=zx_ HB hx22_3
                replace hx22_4:=zx_ HB hx22_4
                replace hx22_5:=zx_ HB hx22_5
                replace hx22_6:=zx_ HB hx22_6
                replace hx22_7:=zx_ HB hx22_7
                replace hx22_8:=zx_ HB hx22_8
                replace hx22_9:=zx_ HB hx22_9
                replace hx22_10:=zx_ HB hx22_10
                replace hx22_11:=zx_ HB hx22_11
                replace p22:=eq_true p22
                replace q22:=eq_true q22
                refine start_ (n:=11) (S:=fun w'=>w'.cell? (ad19.add ((x7_3).toNat*12))=some (.string ((rd_T31 l0 x7_3).f0))∧w'.cell? ⟨(ad19.add ((x7_3).toNat*12)).block,(ad19.add ((x7_3).toNat*12)).off+1,none⟩=some (.string ((rd_T31 l0 x7_3).f1))∧w'.cell? ⟨(ad19.add ((x7_3).toNat*12)).block,(ad19.add ((x7_3).toNat*12)).off+2,none⟩=some (.int .i64 ((rd_T31 l0 x7_3).f2.f0))∧w'.cell? ⟨(ad19.add ((x7_3).toNat*12)).block,(ad19.add ((x7_3).toNat*12)).off+3,none⟩=some (.int .i64 ((rd_T31 l0 x7_3).f2.f1))∧w'.cell? ⟨(ad19.add ((x7_3).toNat*12)).block,(ad19.add ((x7_3).toNat*12)).off+4,none⟩=some (.int .i64 ((rd_T31 l0 x7_3).f2.f2))∧w'.cell? ⟨(ad19.add ((x7_3).toNat*12)).block,(ad19.add ((x7_3).toNat*12)).off+5,none⟩=some (.int .i64 ((rd_T31 l0 x7_3).f3.f0))∧w'.cell? ⟨(ad19.add ((x7_3).toNat*12)).block,(ad19.add ((x7_3).toNat*12)).off+6,none⟩=some (.int .i64 ((rd_T31 l0 x7_3).f3.f1))∧w'.cell? ⟨(ad19.add ((x7_3).toNat*12)).block,(ad19.add ((x7_3).toNat*12)).off+7,none⟩=some (.int .i64 ((rd_T31 l0 x7_3).f3.f2))∧w'.cell? ⟨(ad19.add ((x7_3).toNat*12)).block,(ad19.add ((x7_3).toNat*12)).off+8,none⟩=some (.int .i64 ((rd_T31 l0 x7_3).f4.f0))∧w'.cell? ⟨(ad19.add ((x7_3).toNat*12)).block,(ad19.add ((x7_3).toNat*12)).off+9,none⟩=some (.int .i64 ((rd_T31 l0 x7_3).f4.f1))∧w'.cell? ⟨(ad19.add ((x7_3).toNat*12)).block,(ad19.add ((x7_3).toNat*12)).off+10,none⟩=some (.int .i64 ((rd_T31 l0 x7_3).f4.f2))∧w'.cell? ⟨(ad19.add ((x7_3).toNat*12)).block,(ad19.add ((x7_3).toNat*12)).off+11,none⟩=some (.int .i64 ((rd_T31 l0 x7_3).f5))∧w'.cell? (ad19.add ((x5_2).toNat*12))=some (.string ((rd_T31 l0 x5_2).f0))∧w'.cell? ⟨(ad19.add ((x5_2).toNat*12)).block,(ad19.add ((x5_2).toNat*12)).off+1,none⟩=some (.string ((rd_T31 l0 x5_2).f1))∧w'.cell? ⟨(ad19.add ((x5_2).toNat*12)).block,(ad19.add ((x5_2).toNat*12)).off+2,none⟩=some (.int .i64 ((rd_T31 l0 x5_2).f2.f0))∧w'.cell? ⟨(ad19.add ((x5_2).toNat*12)).block,(ad19.add ((x5_2).toNat*12)).off+3,none⟩=some (.int .i64 ((rd_T31 l0 x5_2).f2.f1))∧w'.cell? ⟨(ad19.add ((x5_2).toNat*12)).block,(ad19.add ((x5_2).toNat*12)).off+4,none⟩=some (.int .i64 ((rd_T31 l0 x5_2).f2.f2))∧w'.cell? ⟨(ad19.add ((x5_2).toNat*12)).block,(ad19.add ((x5_2).toNat*12)).off+5,none⟩=some (.int .i64 ((rd_T31 l0 x5_2).f3.f0))∧w'.cell? ⟨(ad19.add ((x5_2).toNat*12)).block,(ad19.add ((x5_2).toNat*12)).off+6,none⟩=some (.int .i64 ((rd_T31 l0 x5_2).f3.f1))∧w'.cell? ⟨(ad19.add ((x5_2).toNat*12)).block,(ad19.add ((x5_2).toNat*12)).off+7,none⟩=some (.int .i64 ((rd_T31 l0 x5_2).f3.f2))∧w'.cell? ⟨(ad19.add ((x5_2).toNat*12)).block,(ad19.add ((x5_2).toNat*12)).off+8,none⟩=some (.int .i64 ((rd_T31 l0 x5_2).f4.f0))∧w'.cell? ⟨(ad19.add ((x5_2).toNat*12)).block,(ad19.add ((x5_2).toNat*12)).off+9,none⟩=some (.int .i64 ((rd_T31 l0 x5_2).f4.f1))∧w'.cell? ⟨(ad19.add ((x5_2).toNat*12)).block,(ad19.add ((x5_2).toNat*12)).off+10,none⟩=some (.int .i64 ((rd_T31 l0 x5_2).f4.f2))∧w'.cell? ⟨(ad19.add ((x5_2).toNat*12)).block,(ad19.add ((x5_2).toNat*12)).off+11,none⟩=some (.int .i64 ((rd_T31 l0 x5_2).f5))) (ds:=[]) (bt_ 11 0) (by kernel_rfl) rfl rfl ⟨(zx_ HB hw21_0),(zx_ HB hw21_1),(zx_ HB hw21_2),(zx_ HB hw21_3),(zx_ HB hw21_4),(zx_ HB hw21_5),(zx_ HB hw21_6),(zx_ HB hw21_7),(zx_ HB hw21_8),(zx_ HB hw21_9),(zx_ HB hw21_10),(zx_ HB hw21_11),(zx_ HB hw22_0),(zx_ HB hw22_1),(zx_ HB hw22_2),(zx_ HB hw22_3),(zx_ HB hw22_4),(zx_ HB hw22_5),(zx_ HB hw22_6),(zx_ HB hw22_7),(zx_ HB hw22_8),(zx_ HB hw22_9),(zx_ HB hw22_10),(zx_ HB hw22_11)⟩ (fun hHeld=> ?_);refine with_tabW r10_Right.tab16 r10_Right.bits16 (fun HT_ HW_=> ?_)
                generalize wr.drew=w242 at BK20 HB hx21_0 hx21_1 hx21_10 hx21_11 hx21_2 hx21_3 hx21_4 hx21_5 hx21_6 hx21_7 hx21_8 hx21_9 hx22_0 hx22_1 hx22_10 hx22_11 hx22_2 hx22_3 hx22_4 hx22_5 hx22_6 hx22_7 hx22_8 hx22_9 hHeld ⊢
                refine pu_ (i:=0) (N:=some 105) (bt_ 11 1) HT_ ?_
                refine pu_ (i:=1) (N:=some 106) (bt_ 11 3) HT_ ?_
                refine pu_ (i:=2) (N:=some 107) (bt_ 11 7) HT_ ?_
                refine pu_ (i:=3) (N:=some 108) (bt_ 11 15) HT_ ?_
                refine pu_ (i:=5) (N:=some 110) (bt_ 11 47) HT_ ?_
                refine pu_ (i:=6) (N:=some 111) (bt_ 11 111) HT_ ?_
                refine pu_ (i:=7) (N:=some 112) (bt_ 11 239) HT_ ?_
                refine pu_ (i:=8) (N:=some 113) (bt_ 11 495) HT_ ?_
                refine tk_ (i:=4) (N:=some 109) (bt_ 11 511) HT_ HW_ hHeld ?_
                refine tk_ (i:=9) (N:=some 114) (bt_ 11 1023) HT_ HW_ hHeld ?_
                refine pu_ (i:=10) (N:=some 115) (bt_ 11 2047) HT_ ?_
                refine done_ (done_of HT_.out (by kernel_rfl)) ?_
                try go_wp2
                replace BK20:=am_ (blk_drew BK20.out)
                replace HB:=am_ (below_drew1 HB.out)
                have p23:0≤(x7_3:Int):=of_decide_eq_true zq_
                have q23:x7_3<(l0.length:Int):=of_decide_eq_true zq_
                obtain ⟨ad23,e23,hx23_0,hx23_1,hx23_2,hx23_3,hx23_4,hx23_5,hx23_6,hx23_7,hx23_8,hx23_9,hx23_10,hx23_11⟩:=at_T31 HR0.out x7_3 p23 q23
                have hw23_11:=hx23_11
                have hw23_10:=hx23_10
                have hw23_9:=hx23_9
                have hw23_8:=hx23_8
                have hw23_7:=hx23_7
                have hw23_6:=hx23_6
                have hw23_5:=hx23_5
                have hw23_4:=hx23_4
                have hw23_3:=hx23_3
                have hw23_2:=hx23_2
                have hw23_1:=hx23_1
                have hw23_0:=hx23_0
                obtain rfl:ad19=ad23:=(by injection e23)
                replace hx23_0:=zx_ HB hx23_0
                replace hx23_1:=zx_ HB hx23_1
                replace hx23_2:=zx_ HB hx23_2
                replace hx23_3:=zx_ HB hx23_3
                replace hx23_4:=zx_ HB hx23_4
                replace hx23_5:=zx_ HB hx23_5
                replace hx23_6:=zx_ HB hx23_6
                replace hx23_7:=zx_ HB hx23_7
                replace hx23_8:=zx_ HB hx23_8
                replace hx23_9:=zx_ HB hx23_9
                replace hx23_10:=zx_ HB hx23_10
                replace hx23_11:=zx_ HB hx23_11
                replace p23:=eq_true p23
                replace q23:=eq_true q23
                refine start_ (n:=8) (S:=fun w'=>w'.cell? ⟨gb20,0,none⟩=some (.int .i64 x21000_3)∧w'.cell? ⟨gb20,1,none⟩=some (.int .i64 x21001_3)∧w'.cell? ⟨gb20,2,none⟩=some (.int .i64 x21002_3)∧w'.cell? (ad19.add ((x7_3).toNat*12))=some (.string ((rd_T31 l0 x7_3).f0))∧w'.cell? ⟨(ad19.add ((x7_3).toNat*12)).block,(ad19.add ((x7_3).toNat*12)).off+1,none⟩=some (.string ((rd_T31 l0 x7_3).f1))∧w'.cell? ⟨(ad19.add ((x7_3).toNat*12)).block,(ad19.add ((x7_3).toNat*12)).off+2,none⟩=some (.int .i64 ((rd_T31 l0 x7_3).f2.f0))∧w'.cell? ⟨(ad19.add ((x7_3).toNat*12)).block,(ad19.add ((x7_3).toNat*12)).off+3,none⟩=some (.int .i64 ((rd_T31 l0 x7_3).f2.f1))∧w'.cell? ⟨(ad19.add ((x7_3).toNat*12)).block,(ad19.add ((x7_3).toNat*12)).off+4,none⟩=some (.int .i64 ((rd_T31 l0 x7_3).f2.f2))∧w'.cell? ⟨(ad19.add ((x7_3).toNat*12)).block,(ad19.add ((x7_3).toNat*12)).off+5,none⟩=some (.int .i64 ((rd_T31 l0 x7_3).f3.f0))∧w'.cell? ⟨(ad19.add ((x7_3).toNat*12)).block,(ad19.add ((x7_3).toNat*12)).off+6,none⟩=some (.int .i64 ((rd_T31 l0 x7_3).f3.f1))∧w'.cell? ⟨(ad19.add ((x7_3).toNat*12)).block,(ad19.add ((x7_3).toNat*12)).off+7,none⟩=some (.int .i64 ((rd_T31 l0 x7_3).f3.f2))∧w'.cell? ⟨(ad19.add ((x7_3).toNat*12)).block,(ad19.add ((x7_3).toNat*12)).off+8,none⟩=some (.int .i64 ((rd_T31 l0 x7_3).f4.f0))∧w'.cell? ⟨(ad19.add ((x7_3).toNat*12)).block,(ad19.add ((x7_3).toNat*12)).off+9,none⟩=some (.int .i64 ((rd_T31 l0 x7_3).f4.f1))∧w'.cell? ⟨(ad19.add ((x7_3).toNat*12)).block,(ad19.add ((x7_3).toNat*12)).off+10,none⟩=some (.int .i64 ((rd_T31 l0 x7_3).f4.f2))∧w'.cell? ⟨(ad19.add ((x7_3).toNat*12)).block,(ad19.add ((x7_3).toNat*12)).off+11,none⟩=some (.int .i64 ((rd_T31 l0 x7_3).f5))) (ds:=[7]) (bt_ 8 0) (by kernel_rfl) rfl rfl ⟨(blk_cell BK20.out 0).trans rfl,(blk_cell BK20.out 1).trans rfl,(blk_cell BK20.out 2).trans rfl,(zx_ HB hw23_0),(zx_ HB hw23_1),(zx_ HB hw23_2),(zx_ HB hw23_3),(zx_ HB hw23_4),(zx_ HB hw23_5),(zx_ HB hw23_6),(zx_ HB hw23_7),(zx_ HB hw23_8),(zx_ HB hw23_9),(zx_ HB hw23_10),(zx_ HB hw23_11)⟩ (fun hHeld=> ?_);refine with_tabW r10_Right.tab17 r10_Right.bits17 (fun HT_ HW_=> ?_)
                generalize w242.drew=w243 at BK20 HB hx23_0 hx23_1 hx23_10 hx23_11 hx23_2 hx23_3 hx23_4 hx23_5 hx23_6 hx23_7 hx23_8 hx23_9 hHeld ⊢
                refine pu_ (i:=1) (N:=some 117) (bt_ 8 2) HT_ ?_
                refine pu_ (i:=2) (N:=some 118) (bt_ 8 6) HT_ ?_
                refine pu_ (i:=3) (N:=some 119) (bt_ 8 14) HT_ ?_
                refine pu_ (i:=4) (N:=some 120) (bt_ 8 30) HT_ ?_
                refine tk_ (i:=0) (N:=some 116) (bt_ 8 31) HT_ HW_ hHeld ?_
                refine tk_ (i:=5) (N:=some 121) (bt_ 8 63) HT_ HW_ hHeld ?_
                refine on_ (i:=6) (N:=some 122) (bt_ 8 127) HT_ (fun K hK=> ?_)
                refine gs_ Try.func63 #[.agg #[.int .i64 x21000_3, .int .i64 x21001_3, .int .i64 x21002_3], .agg #[.int .i64 ((rd_T31 l0 x7_3).f4.f0), .int .i64 ((rd_T31 l0 x7_3).f4.f1), .int .i64 ((rd_T31 l0 x7_3).f4.f2)]] ?_
                with_reducible refine (r10_Add.calls x21000_3 x21001_3 x21002_3 ((rd_T31 l0 x7_3).f4.f0) ((rd_T31 l0 x7_3).f4.f1) ((rd_T31 l0 x7_3).f4.f2) t24 t25 t26 _ A241.out).mono ?_
                rintro e w244 ⟨rfl,hb⟩
                refine ⟨_,rfl, ?_⟩
                replace BK20:=am_ (blk_below (zb_ BK20) hb)
                replace HB:=am_ (below_step (zl1_ HB GE20) hb)
                (try clear hb)
                (try clear hb2)
                (try clear hk)
                (try clear hi)
                refine hK.out _ _ ⟨(blk_cell BK20.out 0).trans rfl,(blk_cell BK20.out 1).trans rfl,(blk_cell BK20.out 2).trans rfl,(zx_ HB hw23_0),(zx_ HB hw23_1),(zx_ HB hw23_2),(zx_ HB hw23_3),(zx_ HB hw23_4),(zx_ HB hw23_5),(zx_ HB hw23_6),(zx_ HB hw23_7),(zx_ HB hw23_8),(zx_ HB hw23_9),(zx_ HB hw23_10),(zx_ HB hw23_11)⟩ (fun hHeld=> ?_)
                clear hK K
                refine no_ (N:=some 122) ?_
                refine last_ (i:=7) (N:=none) (bt_ 8 255) rfl rfl (one_of HT_.out (by kernel_rfl)) (by decide) (fun K hK=> ?_)
                have hs245:w244.cell? ⟨gb20,0,none⟩=some (.int .i64 x21000_3):=(blk_cell BK20.out 0).trans rfl
                have hfs245:=blk_frozen BK20.out 0
                have hs246:w244.cell? ⟨gb20,1,none⟩=some (.int .i64 x21001_3):=(blk_cell BK20.out 1).trans rfl
                have hfs246:=blk_frozen BK20.out 1
                have hs247:w244.cell? ⟨gb20,2,none⟩=some (.int .i64 x21002_3):=(blk_cell BK20.out 2).trans rfl
                have hfs247:=blk_frozen BK20.out 2
                refine skip_ (w1:= ?_) (by rfl) rfl ?_ ?_
                rotate_left
                ·go_simp
                 rfl
                refine hK.out _ _ ?_
                clear hK K
                refine done_ (done_of HT_.out (by kernel_rfl)) ?_
                try go_wp2
                go_roundg k3
                case measure=>have:=HK1.out;have:=HK2.out;have:=HK3.out;omega
                case rel=>exact ⟨(wrap64 (x7_3+1)),(t24),(t25),(t26),(by first|rfl|(simp;done)|(simp [*];done)),H',⟨by have:=HK1.out;have:=HK2.out;have:=HK3.out;omega⟩,⟨zw_ BK20⟩,⟨zl1_ HB GE20⟩⟩
               ·rw [if_neg c240] at H
                have c240b0:(((rd_T31 l0 x7_3).f1).toList==((rd_T31 l0 x5_2).f0).toList)=false:=beq_eq_false_iff_ne.mpr c240
                have c240b1:(((rd_T31 l0 x7_3).f1).toList !=((rd_T31 l0 x5_2).f0).toList)=true:=bne_iff_ne.mpr c240
                have H':=Aside0.mk H
                clear H
                try go_wp2
                replace BK20:=am_ (blk_drew BK20.out)
                replace HB:=am_ (below_drew1 HB.out)
                have p21:0≤(x7_3:Int):=of_decide_eq_true zq_
                have q21:x7_3<(l0.length:Int):=of_decide_eq_true zq_
                obtain ⟨ad21,e21,hx21_0,hx21_1,hx21_2,hx21_3,hx21_4,hx21_5,hx21_6,hx21_7,hx21_8,hx21_9,hx21_10,hx21_11⟩:=at_T31 HR0.out x7_3 p21 q21
                have hw21_11:=hx21_11
                have hw21_10:=hx21_10
                have hw21_9:=hx21_9
                have hw21_8:=hx21_8
                have hw21_7:=hx21_7
                have hw21_6:=hx21_6
                have hw21_5:=hx21_5
                have hw21_4:=hx21_4
                have hw21_3:=hx21_3
                have hw21_2:=hx21_2
                have hw21_1:=hx21_1
                have hw21_0:=hx21_0
                obtain rfl:ad19=ad21:=(by injection e21)
                replace hx21_0:=zx_ HB hx21_0
                replace hx21_1:=zx_ HB hx21_1
                replace hx21_2:=zx_ HB hx21_2
                replace hx21_3:=zx_ HB hx21_3
                replace hx21_4:=zx_ HB hx21_4
                replace hx21_5:=zx_ HB hx21_5
                replace hx21_6:=zx_ HB hx21_6
                replace hx21_7:=zx_ HB hx21_7
                replace hx21_8:=zx_ HB hx21_8
                replace hx21_9:=zx_ HB hx21_9
                replace hx21_10:=zx_ HB hx21_10
                replace hx21_11:=zx_ HB hx21_11
                replace p21:=eq_true p21
                replace q21:=eq_true q21
                have p22:0≤(x5_2:Int):=of_decide_eq_true zq_
                have q22:x5_2<(l0.length:Int):=of_decide_eq_true zq_
                obtain ⟨ad22,e22,hx22_0,hx22_1,hx22_2,hx22_3,hx22_4,hx22_5,hx22_6,hx22_7,hx22_8,hx22_9,hx22_10,hx22_11⟩:=at_T31 HR0.out x5_2 p22 q22
                have hw22_11:=hx22_11
                have hw22_10:=hx22_10
                have hw22_9:=hx22_9
                have hw22_8:=hx22_8
                have hw22_7:=hx22_7
                have hw22_6:=hx22_6
                have hw22_5:=hx22_5
                have hw22_4:=hx22_4
                have hw22_3:=hx22_3
                have hw22_2:=hx22_2
                have hw22_1:=hx22_1
                have hw22_0:=hx22_0
                obtain rfl:ad19=ad22:=(by injection e22)
                replace hx22_0:=zx_ HB hx22_0
                replace hx22_1:=zx_ HB hx22_1
                replace hx22_2:=zx_ HB hx22_2
                replace hx22_3:=zx_ HB hx22_3
                replace hx22_4:=zx_ HB hx22_4
                replace hx22_5:=zx_ HB hx22_5
                replace hx22_6:=zx_ HB hx22_6
                replace hx22_7:=zx_ HB hx22_7
                replace hx22_8:=zx_ HB hx22_8
                replace hx22_9:=zx_ HB hx22_9
                replace hx22_10:=zx_ HB hx22_10
                replace hx22_11:=zx_ HB hx22_11
                replace p22:=eq_true p22
                replace q22:=eq_true q22
                refine start_ (n:=11) (S:=fun w'=>w'.cell? (ad19.add ((x7_3).toNat*12))=some (.string ((rd_T31 l0 x7_3).f0))∧w'.cell? ⟨(ad19.add ((x7_3).toNat*12)).block,(ad19.add ((x7_3).toNat*12)).off+1,none⟩=some (.string ((rd_T31 l0 x7_3).f1))∧w'.cell? ⟨(ad19.add ((x7_3).toNat*12)).block,(ad19.add ((x7_3).toNat*12)).off+2,none⟩=some (.int .i64 ((rd_T31 l0 x7_3).f2.f0))∧w'.cell? ⟨(ad19.add ((x7_3).toNat*12)).block,(ad19.add ((x7_3).toNat*12)).off+3,none⟩=some (.int .i64 ((rd_T31 l0 x7_3).f2.f1))∧w'.cell? ⟨(ad19.add ((x7_3).toNat*12)).block,(ad19.add ((x7_3).toNat*12)).off+4,none⟩=some (.int .i64 ((rd_T31 l0 x7_3).f2.f2))∧w'.cell? ⟨(ad19.add ((x7_3).toNat*12)).block,(ad19.add ((x7_3).toNat*12)).off+5,none⟩=some (.int .i64 ((rd_T31 l0 x7_3).f3.f0))∧w'.cell? ⟨(ad19.add ((x7_3).toNat*12)).block,(ad19.add ((x7_3).toNat*12)).off+6,none⟩=some (.int .i64 ((rd_T31 l0 x7_3).f3.f1))∧w'.cell? ⟨(ad19.add ((x7_3).toNat*12)).block,(ad19.add ((x7_3).toNat*12)).off+7,none⟩=some (.int .i64 ((rd_T31 l0 x7_3).f3.f2))∧w'.cell? ⟨(ad19.add ((x7_3).toNat*12)).block,(ad19.add ((x7_3).toNat*12)).off+8,none⟩=some (.int .i64 ((rd_T31 l0 x7_3).f4.f0))∧w'.cell? ⟨(ad19.add ((x7_3).toNat*12)).block,(ad19.add ((x7_3).toNat*12)).off+9,none⟩=some (.int .i64 ((rd_T31 l0 x7_3).f4.f1))∧w'.cell? ⟨(ad19.add ((x7_3).toNat*12)).block,(ad19.add ((x7_3).toNat*12)).off+10,none⟩=some (.int .i64 ((rd_T31 l0 x7_3).f4.f2))∧w'.cell? ⟨(ad19.add ((x7_3).toNat*12)).block,(ad19.add ((x7_3).toNat*12)).off+11,none⟩=some (.int .i64 ((rd_T31 l0 x7_3).f5))∧w'.cell? (ad19.add ((x5_2).toNat*12))=some (.string ((rd_T31 l0 x5_2).f0))∧w'.cell? ⟨(ad19.add ((x5_2).toNat*12)).block,(ad19.add ((x5_2).toNat*12)).off+1,none⟩=some (.string ((rd_T31 l0 x5_2).f1))∧w'.cell? ⟨(ad19.add ((x5_2).toNat*12)).block,(ad19.add ((x5_2).toNat*12)).off+2,none⟩=some (.int .i64 ((rd_T31 l0 x5_2).f2.f0))∧w'.cell? ⟨(ad19.add ((x5_2).toNat*12)).block,(ad19.add ((x5_2).toNat*12)).off+3,none⟩=some (.int .i64 ((rd_T31 l0 x5_2).f2.f1))∧w'.cell? ⟨(ad19.add ((x5_2).toNat*12)).block,(ad19.add ((x5_2).toNat*12)).off+4,none⟩=some (.int .i64 ((rd_T31 l0 x5_2).f2.f2))∧w'.cell? ⟨(ad19.add ((x5_2).toNat*12)).block,(ad19.add ((x5_2).toNat*12)).off+5,none⟩=some (.int .i64 ((rd_T31 l0 x5_2).f3.f0))∧w'.cell? ⟨(ad19.add ((x5_2).toNat*12)).block,(ad19.add ((x5_2).toNat*12)).off+6,none⟩=some (.int .i64 ((rd_T31 l0 x5_2).f3.f1))∧w'.cell? ⟨(ad19.add ((x5_2).toNat*12)).block,(ad19.add ((x5_2).toNat*12)).off+7,none⟩=some (.int .i64 ((rd_T31 l0 x5_2).f3.f2))∧w'.cell? ⟨(ad19.add ((x5_2).toNat*12)).block,(ad19.add ((x5_2).toNat*12)).off+8,none⟩=some (.int .i64 ((rd_T31 l0 x5_2).f4.f0))∧w'.cell? ⟨(ad19.add ((x5_2).toNat*12)).block,(ad19.add ((x5_2).toNat*12)).off+9,none⟩=some (.int .i64 ((rd_T31 l0 x5_2).f4.f1))∧w'.cell? ⟨(ad19.add ((x5_2).toNat*12)).block,(ad19.add ((x5_2).toNat*12)).off+10,none⟩=some (.int .i64 ((rd_T31 l0 x5_2).f4.f2))∧w'.cell? ⟨(ad19.add ((x5_2).toNat*12)).block,(ad19.add ((x5_2).toNat*12)).off+11,none⟩=some (.int .i64 ((rd_T31 l0 x5_2).f5))) (ds:=[]) (bt_ 11 0) (by kernel_rfl) rfl rfl ⟨(zx_ HB hw21_0),(zx_ HB hw21_1),(zx_ HB hw21_2),(zx_ HB hw21_3),(zx_ HB hw21_4),(zx_ HB hw21_5),(zx_ HB hw21_6),(zx_ HB hw21_7),(zx_ HB hw21_8),(zx_ HB hw21_9),(zx_ HB hw21_10),(zx_ HB hw21_11),(zx_ HB hw22_0),(zx_ HB hw22_1),(zx_ HB hw22_2),(zx_ HB hw22_3),(zx_ HB hw22_4),(zx_ HB hw22_5),(zx_ HB hw22_6),(zx_ HB hw22_7),(zx_ HB hw22_8),(zx_ HB hw22_9),(zx_ HB hw22_10),(zx_ HB hw22_11)⟩ (fun hHeld=> ?_);refine with_tabW r10_Right.tab16 r10_Right.bits16 (fun HT_ HW_=> ?_)
                generalize wr.drew=w248 at BK20 HB hx21_0 hx21_1 hx21_10 hx21_11 hx21_2 hx21_3 hx21_4 hx21_5 hx21_6 hx21_7 hx21_8 hx21_9 hx22_0 hx22_1 hx22_10 hx22_11 hx22_2 hx22_3 hx22_4 hx22_5 hx22_6 hx22_7 hx22_8 hx22_9 hHeld ⊢
                refine pu_ (i:=0) (N:=some 105) (bt_ 11 1) HT_ ?_
                refine pu_ (i:=1) (N:=some 106) (bt_ 11 3) HT_ ?_
                refine pu_ (i:=2) (N:=some 107) (bt_ 11 7) HT_ ?_
                refine pu_ (i:=3) (N:=some 108) (bt_ 11 15) HT_ ?_
                refine pu_ (i:=5) (N:=some 110) (bt_ 11 47) HT_ ?_
                refine pu_ (i:=6) (N:=some 111) (bt_ 11 111) HT_ ?_
                refine pu_ (i:=7) (N:=some 112) (bt_ 11 239) HT_ ?_
                refine pu_ (i:=8) (N:=some 113) (bt_ 11 495) HT_ ?_
                refine tk_ (i:=4) (N:=some 109) (bt_ 11 511) HT_ HW_ hHeld ?_
                refine tk_ (i:=9) (N:=some 114) (bt_ 11 1023) HT_ HW_ hHeld ?_
                refine pu_ (i:=10) (N:=some 115) (bt_ 11 2047) HT_ ?_
                refine done_ (done_of HT_.out (by kernel_rfl)) ?_
                try go_wp2
                go_roundg k3
                case measure=>have:=HK1.out;have:=HK2.out;have:=HK3.out;omega
                case rel=>exact ⟨(wrap64 (x7_3+1)),(x21000_3),(x21001_3),(x21002_3),(by first|rfl|(simp;done)|(simp [*];done)),H',⟨by have:=HK1.out;have:=HK2.out;have:=HK3.out;omega⟩,⟨by refine zk_ ?_;exact BK20.out⟩,⟨zl1_ HB GE20⟩⟩
              ·rw [if_neg c239] at H
               exact absurd H (by simp)
             ·rw [if_neg c238] at H
              exact absurd H (by simp)
            ·rw [if_neg c237] at H
             exact absurd H (by simp)
           ·rw [if_neg c236] at H
            have c236b0:decide (x7_3<(l0.length:Int))=false:=decide_eq_false c236
            clear c236
            by_cases c249:0≤x5_2
            ·rw [if_pos c249] at H
             have c249b0:decide (0≤x5_2)=true:=decide_eq_true c249
             clear c249
             by_cases c250:x5_2<(l0.length:Int)
             ·rw [if_pos c250] at H
              have c250b0:decide (x5_2<(l0.length:Int))=true:=decide_eq_true c250
              clear c250
              by_cases c251:(!(x21000_3==((rd_T31 l0 x5_2).f4.f0))||(!(x21001_3==((rd_T31 l0 x5_2).f4.f1))||(!(x21002_3==((rd_T31 l0 x5_2).f4.f2)))))=true
              ·rw [if_pos c251] at H
               have c251b0:(!(x21000_3==((rd_T31 l0 x5_2).f4.f0))||(!(x21001_3==((rd_T31 l0 x5_2).f4.f1))||(!(x21002_3==((rd_T31 l0 x5_2).f4.f2)))))=true:=c251
               clear c251
               obtain rfl:=Option.some.inj H
               try go_wp2
               replace BK20:=am_ (blk_drew BK20.out)
               replace HB:=am_ (below_drew1 HB.out)
               have p27:0≤(x5_2:Int):=of_decide_eq_true zq_
               have q27:x5_2<(l0.length:Int):=of_decide_eq_true zq_
               obtain ⟨ad27,e27,hx27_0,hx27_1,hx27_2,hx27_3,hx27_4,hx27_5,hx27_6,hx27_7,hx27_8,hx27_9,hx27_10,hx27_11⟩:=at_T31 HR0.out x5_2 p27 q27
               have hw27_11:=hx27_11
               have hw27_10:=hx27_10
               have hw27_9:=hx27_9
               have hw27_8:=hx27_8
               have hw27_7:=hx27_7
               have hw27_6:=hx27_6
               have hw27_5:=hx27_5
               have hw27_4:=hx27_4
               have hw27_3:=hx27_3
               have hw27_2:=hx27_2
               have hw27_1:=hx27_1
               have hw27_0:=hx27_0
               obtain rfl:ad19=ad27:=(by injection e27)
               replace hx27_0:=zx_ HB hx27_0
               replace hx27_1:=zx_ HB hx27_1
               replace hx27_2:=zx_ HB hx27_2
               replace hx27_3:=zx_ HB hx27_3
               replace hx27_4:=zx_ HB hx27_4
               replace hx27_5:=zx_ HB hx27_5
               replace hx27_6:=zx_ HB hx27_6
               replace hx27_7:=zx_ HB hx27_7
               replace hx27_8:=zx_ HB hx27_8
               replace hx27_9:=zx_ HB hx27_9
               replace hx27_10:=zx_ HB hx27_10
               replace hx27_11:=zx_ HB hx27_11
               replace p27:=eq_true p27
               replace q27:=eq_true q27
               refine start_ (n:=20) (S:=fun w'=>w'.cell? ⟨gb20,0,none⟩=some (.int .i64 x21000_3)∧w'.cell? ⟨gb20,1,none⟩=some (.int .i64 x21001_3)∧w'.cell? ⟨gb20,2,none⟩=some (.int .i64 x21002_3)∧w'.cell? (ad19.add ((x5_2).toNat*12))=some (.string ((rd_T31 l0 x5_2).f0))∧w'.cell? ⟨(ad19.add ((x5_2).toNat*12)).block,(ad19.add ((x5_2).toNat*12)).off+1,none⟩=some (.string ((rd_T31 l0 x5_2).f1))∧w'.cell? ⟨(ad19.add ((x5_2).toNat*12)).block,(ad19.add ((x5_2).toNat*12)).off+2,none⟩=some (.int .i64 ((rd_T31 l0 x5_2).f2.f0))∧w'.cell? ⟨(ad19.add ((x5_2).toNat*12)).block,(ad19.add ((x5_2).toNat*12)).off+3,none⟩=some (.int .i64 ((rd_T31 l0 x5_2).f2.f1))∧w'.cell? ⟨(ad19.add ((x5_2).toNat*12)).block,(ad19.add ((x5_2).toNat*12)).off+4,none⟩=some (.int .i64 ((rd_T31 l0 x5_2).f2.f2))∧w'.cell? ⟨(ad19.add ((x5_2).toNat*12)).block,(ad19.add ((x5_2).toNat*12)).off+5,none⟩=some (.int .i64 ((rd_T31 l0 x5_2).f3.f0))∧w'.cell? ⟨(ad19.add ((x5_2).toNat*12)).block,(ad19.add ((x5_2).toNat*12)).off+6,none⟩=some (.int .i64 ((rd_T31 l0 x5_2).f3.f1))∧w'.cell? ⟨(ad19.add ((x5_2).toNat*12)).block,(ad19.add ((x5_2).toNat*12)).off+7,none⟩=some (.int .i64 ((rd_T31 l0 x5_2).f3.f2))∧w'.cell? ⟨(ad19.add ((x5_2).toNat*12)).block,(ad19.add ((x5_2).toNat*12)).off+8,none⟩=some (.int .i64 ((rd_T31 l0 x5_2).f4.f0))∧w'.cell? ⟨(ad19.add ((x5_2).toNat*12)).block,(ad19.add ((x5_2).toNat*12)).off+9,none⟩=some (.int .i64 ((rd_T31 l0 x5_2).f4.f1))∧w'.cell? ⟨(ad19.add ((x5_2).toNat*12)).block,(ad19.add ((x5_2).toNat*12)).off+10,none⟩=some (.int .i64 ((rd_T31 l0 x5_2).f4.f2))∧w'.cell? ⟨(ad19.add ((x5_2).toNat*12)).block,(ad19.add ((x5_2).toNat*12)).off+11,none⟩=some (.int .i64 ((rd_T31 l0 x5_2).f5))) (ds:=[]) (bt_ 20 0) (by kernel_rfl) rfl rfl ⟨(blk_cell BK20.out 0).trans rfl,(blk_cell BK20.out 1).trans rfl,(blk_cell BK20.out 2).trans rfl,(zx_ HB hw27_0),(zx_ HB hw27_1),(zx_ HB hw27_2),(zx_ HB hw27_3),(zx_ HB hw27_4),(zx_ HB hw27_5),(zx_ HB hw27_6),(zx_ HB hw27_7),(zx_ HB hw27_8),(zx_ HB hw27_9),(zx_ HB hw27_10),(zx_ HB hw27_11)⟩ (fun hHeld=> ?_);refine with_tabW r10_Right.tab18 r10_Right.bits18 (fun HT_ HW_=> ?_)
               generalize wr.drew=w252 at BK20 HB hx27_0 hx27_1 hx27_10 hx27_11 hx27_2 hx27_3 hx27_4 hx27_5 hx27_6 hx27_7 hx27_8 hx27_9 hHeld ⊢
               refine pu_ (i:=1) (N:=some 124) (bt_ 20 2) HT_ ?_
               refine pu_ (i:=2) (N:=some 125) (bt_ 20 6) HT_ ?_
               refine pu_ (i:=3) (N:=some 126) (bt_ 20 14) HT_ ?_
               refine pu_ (i:=4) (N:=some 127) (bt_ 20 30) HT_ ?_
               refine tk_ (i:=0) (N:=some 123) (bt_ 20 31) HT_ HW_ hHeld ?_
               refine tk_ (i:=5) (N:=some 128) (bt_ 20 63) HT_ HW_ hHeld ?_
               refine pu_ (i:=6) (N:=some 129) (bt_ 20 127) HT_ ?_
               refine pu_ (i:=7) (N:=some 130) (bt_ 20 255) HT_ ?_
               refine pn_ (i:=8) (N:=some 131) (bt_ 20 511) HT_ ?_
               refine pn_ (i:=9) (N:=some 132) (bt_ 20 1023) HT_ ?_
               refine pn_ (i:=10) (N:=some 133) (bt_ 20 2047) HT_ ?_
               refine pn_ (i:=11) (N:=some 134) (bt_ 20 4095) HT_ ?_
               refine pn_ (i:=12) (N:=some 135) (bt_ 20 8191) HT_ ?_
               refine pn_ (i:=13) (N:=some 136) (bt_ 20 16383) HT_ ?_
               refine pn_ (i:=14) (N:=some 137) (bt_ 20 32767) HT_ ?_
               refine pn_ (i:=15) (N:=some 138) (bt_ 20 65535) HT_ ?_
               refine pn_ (i:=16) (N:=some 139) (bt_ 20 131071) HT_ ?_
               refine pn_ (i:=17) (N:=some 140) (bt_ 20 262143) HT_ ?_
               refine pn_ (i:=18) (N:=some 141) (bt_ 20 524287) HT_ ?_
               refine pu_ (i:=19) (N:=some 142) (bt_ 20 1048575) HT_ ?_
               refine done_ (done_of HT_.out (by kernel_rfl)) ?_
               try go_wp2
               go_ret
               exact ⟨by first|rfl|(simp [errW_none,errW_some]<;>rfl)|(simp [*,errW_none,errW_some]<;>rfl),zl1_ HB GE20⟩
              ·rw [if_neg c251] at H
               have c251b0:(!(x21000_3==((rd_T31 l0 x5_2).f4.f0))||(!(x21001_3==((rd_T31 l0 x5_2).f4.f1))||(!(x21002_3==((rd_T31 l0 x5_2).f4.f2)))))=false:=by simpa using c251
               clear c251
               replace H:=Option.bind_eq_some_iff.mp H
               obtain ⟨t29,A2530,H⟩:=H
               try dsimp only at H
               have A253:=Aside0.mk A2530
               clear A2530
               by_cases c254:(t29.length:Int)>(l0.length:Int)
               ·rw [if_pos c254] at H
                have c254b0:decide ((l0.length:Int)<(t29.length:Int))=true:=decide_eq_true c254
                have c254b1:decide (l0.length<t29.length)=true:=decide_eq_true (Int.ofNat_lt.mp c254)
                clear c254
                obtain rfl:=Option.some.inj H
                try go_wp2
                replace BK20:=am_ (blk_drew BK20.out)
                replace HB:=am_ (below_drew1 HB.out)
                have p27:0≤(x5_2:Int):=of_decide_eq_true zq_
                have q27:x5_2<(l0.length:Int):=of_decide_eq_true zq_
                obtain ⟨ad27,e27,hx27_0,hx27_1,hx27_2,hx27_3,hx27_4,hx27_5,hx27_6,hx27_7,hx27_8,hx27_9,hx27_10,hx27_11⟩:=at_T31 HR0.out x5_2 p27 q27
                have hw27_11:=hx27_11
                have hw27_10:=hx27_10
                have hw27_9:=hx27_9
                have hw27_8:=hx27_8
                have hw27_7:=hx27_7
                have hw27_6:=hx27_6
                have hw27_5:=hx27_5
                have hw27_4:=hx27_4
                have hw27_3:=hx27_3
                have hw27_2:=hx27_2
                have hw27_1:=hx27_1
                have hw27_0:=hx27_0
                obtain rfl:ad19=ad27:=(by injection e27)
                replace hx27_0:=zx_ HB hx27_0
                replace hx27_1:=zx_ HB hx27_1
                replace hx27_2:=zx_ HB hx27_2
                replace hx27_3:=zx_ HB hx27_3
                replace hx27_4:=zx_ HB hx27_4
                replace hx27_5:=zx_ HB hx27_5
                replace hx27_6:=zx_ HB hx27_6
                replace hx27_7:=zx_ HB hx27_7
                replace hx27_8:=zx_ HB hx27_8
                replace hx27_9:=zx_ HB hx27_9
                replace hx27_10:=zx_ HB hx27_10
                replace hx27_11:=zx_ HB hx27_11
                replace p27:=eq_true p27
                replace q27:=eq_true q27
                have p28:0≤(x5_2:Int):=of_decide_eq_true zq_
                have q28:x5_2<(l0.length:Int):=of_decide_eq_true zq_
                obtain ⟨ad28,e28,hx28_0,hx28_1,hx28_2,hx28_3,hx28_4,hx28_5,hx28_6,hx28_7,hx28_8,hx28_9,hx28_10,hx28_11⟩:=at_T31 HR0.out x5_2 p28 q28
                have hw28_11:=hx28_11
                have hw28_10:=hx28_10
                have hw28_9:=hx28_9
                have hw28_8:=hx28_8
                have hw28_7:=hx28_7
                have hw28_6:=hx28_6
                have hw28_5:=hx28_5
                have hw28_4:=hx28_4
                have hw28_3:=hx28_3
                have hw28_2:=hx28_2
                have hw28_1:=hx28_1
                have hw28_0:=hx28_0
                obtain rfl:ad19=ad28:=(by injection e28)
                replace hx28_0:=zx_ HB hx28_0
                replace hx28_1:=zx_ HB hx28_1
                replace hx28_2:=zx_ HB hx28_2
                replace hx28_3:=zx_ HB hx28_3
                replace hx28_4:=zx_ HB hx28_4
                replace hx28_5:=zx_ HB hx28_5
                replace hx28_6:=zx_ HB hx28_6
                replace hx28_7:=zx_ HB hx28_7
                replace hx28_8:=zx_ HB hx28_8
                replace hx28_9:=zx_ HB hx28_9
                replace hx28_10:=zx_ HB hx28_10
                replace hx28_11:=zx_ HB hx28_11
                replace p28:=eq_true p28
                replace q28:=eq_true q28
                refine start_ (n:=20) (S:=fun w'=>w'.cell? ⟨gb20,0,none⟩=some (.int .i64 x21000_3)∧w'.cell? ⟨gb20,1,none⟩=some (.int .i64 x21001_3)∧w'.cell? ⟨gb20,2,none⟩=some (.int .i64 x21002_3)∧w'.cell? (ad19.add ((x5_2).toNat*12))=some (.string ((rd_T31 l0 x5_2).f0))∧w'.cell? ⟨(ad19.add ((x5_2).toNat*12)).block,(ad19.add ((x5_2).toNat*12)).off+1,none⟩=some (.string ((rd_T31 l0 x5_2).f1))∧w'.cell? ⟨(ad19.add ((x5_2).toNat*12)).block,(ad19.add ((x5_2).toNat*12)).off+2,none⟩=some (.int .i64 ((rd_T31 l0 x5_2).f2.f0))∧w'.cell? ⟨(ad19.add ((x5_2).toNat*12)).block,(ad19.add ((x5_2).toNat*12)).off+3,none⟩=some (.int .i64 ((rd_T31 l0 x5_2).f2.f1))∧w'.cell? ⟨(ad19.add ((x5_2).toNat*12)).block,(ad19.add ((x5_2).toNat*12)).off+4,none⟩=some (.int .i64 ((rd_T31 l0 x5_2).f2.f2))∧w'.cell? ⟨(ad19.add ((x5_2).toNat*12)).block,(ad19.add ((x5_2).toNat*12)).off+5,none⟩=some (.int .i64 ((rd_T31 l0 x5_2).f3.f0))∧w'.cell? ⟨(ad19.add ((x5_2).toNat*12)).block,(ad19.add ((x5_2).toNat*12)).off+6,none⟩=some (.int .i64 ((rd_T31 l0 x5_2).f3.f1))∧w'.cell? ⟨(ad19.add ((x5_2).toNat*12)).block,(ad19.add ((x5_2).toNat*12)).off+7,none⟩=some (.int .i64 ((rd_T31 l0 x5_2).f3.f2))∧w'.cell? ⟨(ad19.add ((x5_2).toNat*12)).block,(ad19.add ((x5_2).toNat*12)).off+8,none⟩=some (.int .i64 ((rd_T31 l0 x5_2).f4.f0))∧w'.cell? ⟨(ad19.add ((x5_2).toNat*12)).block,(ad19.add ((x5_2).toNat*12)).off+9,none⟩=some (.int .i64 ((rd_T31 l0 x5_2).f4.f1))∧w'.cell? ⟨(ad19.add ((x5_2).toNat*12)).block,(ad19.add ((x5_2).toNat*12)).off+10,none⟩=some (.int .i64 ((rd_T31 l0 x5_2).f4.f2))∧w'.cell? ⟨(ad19.add ((x5_2).toNat*12)).block,(ad19.add ((x5_2).toNat*12)).off+11,none⟩=some (.int .i64 ((rd_T31 l0 x5_2).f5))∧w'.cell? (ad19.add ((x5_2).toNat*12))=some (.string ((rd_T31 l0 x5_2).f0))∧w'.cell? ⟨(ad19.add ((x5_2).toNat*12)).block,(ad19.add ((x5_2).toNat*12)).off+1,none⟩=some (.string ((rd_T31 l0 x5_2).f1))∧w'.cell? ⟨(ad19.add ((x5_2).toNat*12)).block,(ad19.add ((x5_2).toNat*12)).off+2,none⟩=some (.int .i64 ((rd_T31 l0 x5_2).f2.f0))∧w'.cell? ⟨(ad19.add ((x5_2).toNat*12)).block,(ad19.add ((x5_2).toNat*12)).off+3,none⟩=some (.int .i64 ((rd_T31 l0 x5_2).f2.f1))∧w'.cell? ⟨(ad19.add ((x5_2).toNat*12)).block,(ad19.add ((x5_2).toNat*12)).off+4,none⟩=some (.int .i64 ((rd_T31 l0 x5_2).f2.f2))∧w'.cell? ⟨(ad19.add ((x5_2).toNat*12)).block,(ad19.add ((x5_2).toNat*12)).off+5,none⟩=some (.int .i64 ((rd_T31 l0 x5_2).f3.f0))∧w'.cell? ⟨(ad19.add ((x5_2).toNat*12)).block,(ad19.add ((x5_2).toNat*12)).off+6,none⟩=some (.int .i64 ((rd_T31 l0 x5_2).f3.f1))∧w'.cell? ⟨(ad19.add ((x5_2).toNat*12)).block,(ad19.add ((x5_2).toNat*12)).off+7,none⟩=some (.int .i64 ((rd_T31 l0 x5_2).f3.f2))∧w'.cell? ⟨(ad19.add ((x5_2).toNat*12)).block,(ad19.add ((x5_2).toNat*12)).off+8,none⟩=some (.int .i64 ((rd_T31 l0 x5_2).f4.f0))∧w'.cell? ⟨(ad19.add ((x5_2).toNat*12)).block,(ad19.add ((x5_2).toNat*12)).off+9,none⟩=some (.int .i64 ((rd_T31 l0 x5_2).f4.f1))∧w'.cell? ⟨(ad19.add ((x5_2).toNat*12)).block,(ad19.add ((x5_2).toNat*12)).off+10,none⟩=some (.int .i64 ((rd_T31 l0 x5_2).f4.f2))∧w'.cell? ⟨(ad19.add ((x5_2).toNat*12)).block,(ad19.add ((x5_2).toNat*12)).off+11,none⟩=some (.int .i64 ((rd_T31 l0 x5_2).f5))) (ds:=[]) (bt_ 20 0) (by kernel_rfl) rfl rfl ⟨(blk_cell BK20.out 0).trans rfl,(blk_cell BK20.out 1).trans rfl,(blk_cell BK20.out 2).trans rfl,(zx_ HB hw27_0),(zx_ HB hw27_1),(zx_ HB hw27_2),(zx_ HB hw27_3),(zx_ HB hw27_4),(zx_ HB hw27_5),(zx_ HB hw27_6),(zx_ HB hw27_7),(zx_ HB hw27_8),(zx_ HB hw27_9),(zx_ HB hw27_10),(zx_ HB hw27_11),(zx_ HB hw28_0),(zx_ HB hw28_1),(zx_ HB hw28_2),(zx_ HB hw28_3),(zx_ HB hw28_4),(zx_ HB hw28_5),(zx_ HB hw28_6),(zx_ HB hw28_7),(zx_ HB hw28_8),(zx_ HB hw28_9),(zx_ HB hw28_10),(zx_ HB hw28_11)⟩ (fun hHeld=> ?_);refine with_tabW r10_Right.tab18 r10_Right.bits18 (fun HT_ HW_=> ?_)
                generalize wr.drew=w255 at BK20 HB hx27_0 hx27_1 hx27_10 hx27_11 hx27_2 hx27_3 hx27_4 hx27_5 hx27_6 hx27_7 hx27_8 hx27_9 hx28_0 hx28_1 hx28_10 hx28_11 hx28_2 hx28_3 hx28_4 hx28_5 hx28_6 hx28_7 hx28_8 hx28_9 hHeld ⊢
                refine pu_ (i:=1) (N:=some 124) (bt_ 20 2) HT_ ?_
                refine pu_ (i:=2) (N:=some 125) (bt_ 20 6) HT_ ?_
                refine pu_ (i:=3) (N:=some 126) (bt_ 20 14) HT_ ?_
                refine pu_ (i:=4) (N:=some 127) (bt_ 20 30) HT_ ?_
                refine tk_ (i:=0) (N:=some 123) (bt_ 20 31) HT_ HW_ hHeld ?_
                refine tk_ (i:=5) (N:=some 128) (bt_ 20 63) HT_ HW_ hHeld ?_
                refine pu_ (i:=6) (N:=some 129) (bt_ 20 127) HT_ ?_
                refine pu_ (i:=7) (N:=some 130) (bt_ 20 255) HT_ ?_
                refine pu_ (i:=8) (N:=some 131) (bt_ 20 511) HT_ ?_
                refine pu_ (i:=9) (N:=some 132) (bt_ 20 1023) HT_ ?_
                refine pu_ (i:=10) (N:=some 133) (bt_ 20 2047) HT_ ?_
                refine pu_ (i:=11) (N:=some 134) (bt_ 20 4095) HT_ ?_
                refine pu_ (i:=12) (N:=some 135) (bt_ 20 8191) HT_ ?_
                refine pu_ (i:=16) (N:=some 139) (bt_ 20 73727) HT_ ?_
                refine pu_ (i:=17) (N:=some 140) (bt_ 20 204799) HT_ ?_
                refine tk_ (i:=13) (N:=some 136) (bt_ 20 212991) HT_ HW_ hHeld ?_
                refine on_ (i:=14) (N:=some 137) (bt_ 20 229375) HT_ (fun K hK=> ?_)
                refine gs_ Try.func106 #[.slice (some ad19) l0.length c0, .string ((rd_T31 l0 x5_2).f0)] ?_
                with_reducible refine (r10_Up.calls k3 _ _ l0 ((rd_T31 l0 x5_2).f0) t29 _ ?side1 ?side2 A253.out).mono ?_
                (case side1=>exact zc_ (Kd.C_below HR0.out HB.out))
                (case side2=>exact HC0.out)
                rintro e w256 ⟨v30,rfl,ho0,hb⟩
                refine ⟨_,rfl, ?_⟩
                have HO31:=am_ (Kd.R_lower ho0 (below_size (zl1_ HB GE20)))
                replace BK20:=am_ (blk_below (zb_ BK20) hb)
                replace HB:=am_ (below_step (zl1_ HB GE20) hb)
                (try clear hb)
                (try clear hb2)
                (try clear hk)
                (try clear hi)
                (try clear ho0)
                obtain ⟨Ao257,co257,eo257⟩:=Kd.R_slice HO31.out
                (first|subst eo257|(injection eo257 with f1_ f2_ f3_;have f4_:=f1_.symm;have f5_:=f3_.symm;clear f1_ f2_ f3_;subst f4_;subst f5_))
                refine hK.out _ _ ⟨(blk_cell BK20.out 0).trans rfl,(blk_cell BK20.out 1).trans rfl,(blk_cell BK20.out 2).trans rfl,(zx_ HB hw27_0),(zx_ HB hw27_1),(zx_ HB hw27_2),(zx_ HB hw27_3),(zx_ HB hw27_4),(zx_ HB hw27_5),(zx_ HB hw27_6),(zx_ HB hw27_7),(zx_ HB hw27_8),(zx_ HB hw27_9),(zx_ HB hw27_10),(zx_ HB hw27_11),(zx_ HB hw28_0),(zx_ HB hw28_1),(zx_ HB hw28_2),(zx_ HB hw28_3),(zx_ HB hw28_4),(zx_ HB hw28_5),(zx_ HB hw28_6),(zx_ HB hw28_7),(zx_ HB hw28_8),(zx_ HB hw28_9),(zx_ HB hw28_10),(zx_ HB hw28_11)⟩ (fun hHeld=> ?_)
                clear hK K
                refine no_ (N:=some 137) ?_
                refine pu_ (i:=15) (N:=some 138) (bt_ 20 262143) HT_ ?_
                refine pu_ (i:=18) (N:=some 141) (bt_ 20 524287) HT_ ?_
                refine pu_ (i:=19) (N:=some 142) (bt_ 20 1048575) HT_ ?_
                refine done_ (done_of HT_.out (by kernel_rfl)) ?_
                try go_wp2
                go_ret
                exact ⟨by first|rfl|(simp [errW_none,errW_some]<;>rfl)|(simp [*,errW_none,errW_some]<;>rfl),zl1_ HB GE20⟩
               ·rw [if_neg c254] at H
                have c254b0:decide ((l0.length:Int)<(t29.length:Int))=false:=decide_eq_false c254
                have c254b1:decide (l0.length<t29.length)=false:=decide_eq_false (fun h=>c254 (Int.ofNat_lt.mpr h))
                clear c254
                have H':=Aside0.mk H
                clear H
                try go_wp2
                replace BK20:=am_ (blk_drew BK20.out)
                replace HB:=am_ (below_drew1 HB.out)
                have p27:0≤(x5_2:Int):=of_decide_eq_true zq_
                have q27:x5_2<(l0.length:Int):=of_decide_eq_true zq_
                obtain ⟨ad27,e27,hx27_0,hx27_1,hx27_2,hx27_3,hx27_4,hx27_5,hx27_6,hx27_7,hx27_8,hx27_9,hx27_10,hx27_11⟩:=at_T31 HR0.out x5_2 p27 q27
                have hw27_11:=hx27_11
                have hw27_10:=hx27_10
                have hw27_9:=hx27_9
                have hw27_8:=hx27_8
                have hw27_7:=hx27_7
                have hw27_6:=hx27_6
                have hw27_5:=hx27_5
                have hw27_4:=hx27_4
                have hw27_3:=hx27_3
                have hw27_2:=hx27_2
                have hw27_1:=hx27_1
                have hw27_0:=hx27_0
                obtain rfl:ad19=ad27:=(by injection e27)
                replace hx27_0:=zx_ HB hx27_0
                replace hx27_1:=zx_ HB hx27_1
                replace hx27_2:=zx_ HB hx27_2
                replace hx27_3:=zx_ HB hx27_3
                replace hx27_4:=zx_ HB hx27_4
                replace hx27_5:=zx_ HB hx27_5
                replace hx27_6:=zx_ HB hx27_6
                replace hx27_7:=zx_ HB hx27_7
                replace hx27_8:=zx_ HB hx27_8
                replace hx27_9:=zx_ HB hx27_9
                replace hx27_10:=zx_ HB hx27_10
                replace hx27_11:=zx_ HB hx27_11
                replace p27:=eq_true p27
                replace q27:=eq_true q27
                have p28:0≤(x5_2:Int):=of_decide_eq_true zq_
                have q28:x5_2<(l0.length:Int):=of_decide_eq_true zq_
                obtain ⟨ad28,e28,hx28_0,hx28_1,hx28_2,hx28_3,hx28_4,hx28_5,hx28_6,hx28_7,hx28_8,hx28_9,hx28_10,hx28_11⟩:=at_T31 HR0.out x5_2 p28 q28
                have hw28_11:=hx28_11
                have hw28_10:=hx28_10
                have hw28_9:=hx28_9
                have hw28_8:=hx28_8
                have hw28_7:=hx28_7
                have hw28_6:=hx28_6
                have hw28_5:=hx28_5
                have hw28_4:=hx28_4
                have hw28_3:=hx28_3
                have hw28_2:=hx28_2
                have hw28_1:=hx28_1
                have hw28_0:=hx28_0
                obtain rfl:ad19=ad28:=(by injection e28)
                replace hx28_0:=zx_ HB hx28_0
                replace hx28_1:=zx_ HB hx28_1
                replace hx28_2:=zx_ HB hx28_2
                replace hx28_3:=zx_ HB hx28_3
                replace hx28_4:=zx_ HB hx28_4
                replace hx28_5:=zx_ HB hx28_5
                replace hx28_6:=zx_ HB hx28_6
                replace hx28_7:=zx_ HB hx28_7
                replace hx28_8:=zx_ HB hx28_8
                replace hx28_9:=zx_ HB hx28_9
                replace hx28_10:=zx_ HB hx28_10
                replace hx28_11:=zx_ HB hx28_11
                replace p28:=eq_true p28
                replace q28:=eq_true q28
                refine start_ (n:=20) (S:=fun w'=>w'.cell? ⟨gb20,0,none⟩=some (.int .i64 x21000_3)∧w'.cell? ⟨gb20,1,none⟩=some (.int .i64 x21001_3)∧w'.cell? ⟨gb20,2,none⟩=some (.int .i64 x21002_3)∧w'.cell? (ad19.add ((x5_2).toNat*12))=some (.string ((rd_T31 l0 x5_2).f0))∧w'.cell? ⟨(ad19.add ((x5_2).toNat*12)).block,(ad19.add ((x5_2).toNat*12)).off+1,none⟩=some (.string ((rd_T31 l0 x5_2).f1))∧w'.cell? ⟨(ad19.add ((x5_2).toNat*12)).block,(ad19.add ((x5_2).toNat*12)).off+2,none⟩=some (.int .i64 ((rd_T31 l0 x5_2).f2.f0))∧w'.cell? ⟨(ad19.add ((x5_2).toNat*12)).block,(ad19.add ((x5_2).toNat*12)).off+3,none⟩=some (.int .i64 ((rd_T31 l0 x5_2).f2.f1))∧w'.cell? ⟨(ad19.add ((x5_2).toNat*12)).block,(ad19.add ((x5_2).toNat*12)).off+4,none⟩=some (.int .i64 ((rd_T31 l0 x5_2).f2.f2))∧w'.cell? ⟨(ad19.add ((x5_2).toNat*12)).block,(ad19.add ((x5_2).toNat*12)).off+5,none⟩=some (.int .i64 ((rd_T31 l0 x5_2).f3.f0))∧w'.cell? ⟨(ad19.add ((x5_2).toNat*12)).block,(ad19.add ((x5_2).toNat*12)).off+6,none⟩=some (.int .i64 ((rd_T31 l0 x5_2).f3.f1))∧w'.cell? ⟨(ad19.add ((x5_2).toNat*12)).block,(ad19.add ((x5_2).toNat*12)).off+7,none⟩=some (.int .i64 ((rd_T31 l0 x5_2).f3.f2))∧w'.cell? ⟨(ad19.add ((x5_2).toNat*12)).block,(ad19.add ((x5_2).toNat*12)).off+8,none⟩=some (.int .i64 ((rd_T31 l0 x5_2).f4.f0))∧w'.cell? ⟨(ad19.add ((x5_2).toNat*12)).block,(ad19.add ((x5_2).toNat*12)).off+9,none⟩=some (.int .i64 ((rd_T31 l0 x5_2).f4.f1))∧w'.cell? ⟨(ad19.add ((x5_2).toNat*12)).block,(ad19.add ((x5_2).toNat*12)).off+10,none⟩=some (.int .i64 ((rd_T31 l0 x5_2).f4.f2))∧w'.cell? ⟨(ad19.add ((x5_2).toNat*12)).block,(ad19.add ((x5_2).toNat*12)).off+11,none⟩=some (.int .i64 ((rd_T31 l0 x5_2).f5))∧w'.cell? (ad19.add ((x5_2).toNat*12))=some (.string ((rd_T31 l0 x5_2).f0))∧w'.cell? ⟨(ad19.add ((x5_2).toNat*12)).block,(ad19.add ((x5_2).toNat*12)).off+1,none⟩=some (.string ((rd_T31 l0 x5_2).f1))∧w'.cell? ⟨(ad19.add ((x5_2).toNat*12)).block,(ad19.add ((x5_2).toNat*12)).off+2,none⟩=some (.int .i64 ((rd_T31 l0 x5_2).f2.f0))∧w'.cell? ⟨(ad19.add ((x5_2).toNat*12)).block,(ad19.add ((x5_2).toNat*12)).off+3,none⟩=some (.int .i64 ((rd_T31 l0 x5_2).f2.f1))∧w'.cell? ⟨(ad19.add ((x5_2).toNat*12)).block,(ad19.add ((x5_2).toNat*12)).off+4,none⟩=some (.int .i64 ((rd_T31 l0 x5_2).f2.f2))∧w'.cell? ⟨(ad19.add ((x5_2).toNat*12)).block,(ad19.add ((x5_2).toNat*12)).off+5,none⟩=some (.int .i64 ((rd_T31 l0 x5_2).f3.f0))∧w'.cell? ⟨(ad19.add ((x5_2).toNat*12)).block,(ad19.add ((x5_2).toNat*12)).off+6,none⟩=some (.int .i64 ((rd_T31 l0 x5_2).f3.f1))∧w'.cell? ⟨(ad19.add ((x5_2).toNat*12)).block,(ad19.add ((x5_2).toNat*12)).off+7,none⟩=some (.int .i64 ((rd_T31 l0 x5_2).f3.f2))∧w'.cell? ⟨(ad19.add ((x5_2).toNat*12)).block,(ad19.add ((x5_2).toNat*12)).off+8,none⟩=some (.int .i64 ((rd_T31 l0 x5_2).f4.f0))∧w'.cell? ⟨(ad19.add ((x5_2).toNat*12)).block,(ad19.add ((x5_2).toNat*12)).off+9,none⟩=some (.int .i64 ((rd_T31 l0 x5_2).f4.f1))∧w'.cell? ⟨(ad19.add ((x5_2).toNat*12)).block,(ad19.add ((x5_2).toNat*12)).off+10,none⟩=some (.int .i64 ((rd_T31 l0 x5_2).f4.f2))∧w'.cell? ⟨(ad19.add ((x5_2).toNat*12)).block,(ad19.add ((x5_2).toNat*12)).off+11,none⟩=some (.int .i64 ((rd_T31 l0 x5_2).f5))) (ds:=[]) (bt_ 20 0) (by kernel_rfl) rfl rfl ⟨(blk_cell BK20.out 0).trans rfl,(blk_cell BK20.out 1).trans rfl,(blk_cell BK20.out 2).trans rfl,(zx_ HB hw27_0),(zx_ HB hw27_1),(zx_ HB hw27_2),(zx_ HB hw27_3),(zx_ HB hw27_4),(zx_ HB hw27_5),(zx_ HB hw27_6),(zx_ HB hw27_7),(zx_ HB hw27_8),(zx_ HB hw27_9),(zx_ HB hw27_10),(zx_ HB hw27_11),(zx_ HB hw28_0),(zx_ HB hw28_1),(zx_ HB hw28_2),(zx_ HB hw28_3),(zx_ HB hw28_4),(zx_ HB hw28_5),(zx_ HB hw28_6),(zx_ HB hw28_7),(zx_ HB hw28_8),(zx_ HB hw28_9),(zx_ HB hw28_10),(zx_ HB hw28_11)⟩ (fun hHeld=> ?_);refine with_tabW r10_Right.tab18 r10_Right.bits18 (fun HT_ HW_=> ?_)
                generalize wr.drew=w258 at BK20 HB hx27_0 hx27_1 hx27_10 hx27_11 hx27_2 hx27_3 hx27_4 hx27_5 hx27_6 hx27_7 hx27_8 hx27_9 hx28_0 hx28_1 hx28_10 hx28_11 hx28_2 hx28_3 hx28_4 hx28_5 hx28_6 hx28_7 hx28_8 hx28_9 hHeld ⊢
                refine pu_ (i:=1) (N:=some 124) (bt_ 20 2) HT_ ?_
                refine pu_ (i:=2) (N:=some 125) (bt_ 20 6) HT_ ?_
                refine pu_ (i:=3) (N:=some 126) (bt_ 20 14) HT_ ?_
                refine pu_ (i:=4) (N:=some 127) (bt_ 20 30) HT_ ?_
                refine tk_ (i:=0) (N:=some 123) (bt_ 20 31) HT_ HW_ hHeld ?_
                refine tk_ (i:=5) (N:=some 128) (bt_ 20 63) HT_ HW_ hHeld ?_
                refine pu_ (i:=6) (N:=some 129) (bt_ 20 127) HT_ ?_
                refine pu_ (i:=7) (N:=some 130) (bt_ 20 255) HT_ ?_
                refine pu_ (i:=8) (N:=some 131) (bt_ 20 511) HT_ ?_
                refine pu_ (i:=9) (N:=some 132) (bt_ 20 1023) HT_ ?_
                refine pu_ (i:=10) (N:=some 133) (bt_ 20 2047) HT_ ?_
                refine pu_ (i:=11) (N:=some 134) (bt_ 20 4095) HT_ ?_
                refine pu_ (i:=12) (N:=some 135) (bt_ 20 8191) HT_ ?_
                refine pu_ (i:=16) (N:=some 139) (bt_ 20 73727) HT_ ?_
                refine pu_ (i:=17) (N:=some 140) (bt_ 20 204799) HT_ ?_
                refine tk_ (i:=13) (N:=some 136) (bt_ 20 212991) HT_ HW_ hHeld ?_
                refine on_ (i:=14) (N:=some 137) (bt_ 20 229375) HT_ (fun K hK=> ?_)
                refine gs_ Try.func106 #[.slice (some ad19) l0.length c0, .string ((rd_T31 l0 x5_2).f0)] ?_
                with_reducible refine (r10_Up.calls k3 _ _ l0 ((rd_T31 l0 x5_2).f0) t29 _ ?side1 ?side2 A253.out).mono ?_
                (case side1=>exact zc_ (Kd.C_below HR0.out HB.out))
                (case side2=>exact HC0.out)
                rintro e w259 ⟨v30,rfl,ho0,hb⟩
                refine ⟨_,rfl, ?_⟩
                have HO31:=am_ (Kd.R_lower ho0 (below_size (zl1_ HB GE20)))
                replace BK20:=am_ (blk_below (zb_ BK20) hb)
                replace HB:=am_ (below_step (zl1_ HB GE20) hb)
                (try clear hb)
                (try clear hb2)
                (try clear hk)
                (try clear hi)
                (try clear ho0)
                obtain ⟨Ao260,co260,eo260⟩:=Kd.R_slice HO31.out
                (first|subst eo260|(injection eo260 with f1_ f2_ f3_;have f4_:=f1_.symm;have f5_:=f3_.symm;clear f1_ f2_ f3_;subst f4_;subst f5_))
                refine hK.out _ _ ⟨(blk_cell BK20.out 0).trans rfl,(blk_cell BK20.out 1).trans rfl,(blk_cell BK20.out 2).trans rfl,(zx_ HB hw27_0),(zx_ HB hw27_1),(zx_ HB hw27_2),(zx_ HB hw27_3),(zx_ HB hw27_4),(zx_ HB hw27_5),(zx_ HB hw27_6),(zx_ HB hw27_7),(zx_ HB hw27_8),(zx_ HB hw27_9),(zx_ HB hw27_10),(zx_ HB hw27_11),(zx_ HB hw28_0),(zx_ HB hw28_1),(zx_ HB hw28_2),(zx_ HB hw28_3),(zx_ HB hw28_4),(zx_ HB hw28_5),(zx_ HB hw28_6),(zx_ HB hw28_7),(zx_ HB hw28_8),(zx_ HB hw28_9),(zx_ HB hw28_10),(zx_ HB hw28_11)⟩ (fun hHeld=> ?_)
                clear hK K
                refine no_ (N:=some 137) ?_
                refine pu_ (i:=15) (N:=some 138) (bt_ 20 262143) HT_ ?_
                refine pu_ (i:=18) (N:=some 141) (bt_ 20 524287) HT_ ?_
                refine pu_ (i:=19) (N:=some 142) (bt_ 20 1048575) HT_ ?_
                refine done_ (done_of HT_.out (by kernel_rfl)) ?_
                try go_wp2
                go_roundg k3
                case measure=>have:=HK1.out;have:=HK2.out;have:=HK3.out;omega
                case rel=>exact ⟨(wrap64 (x5_2+1)),(by first|rfl|(simp;done)|(simp [*];done)),H',⟨by have:=HK1.out;have:=HK2.out;have:=HK3.out;omega⟩,⟨zl1_ HB GE20⟩⟩
             ·rw [if_neg c250] at H
              exact absurd H (by simp)
            ·rw [if_neg c249] at H
             exact absurd H (by simp)
        ·rw [if_neg c233] at H
         exact absurd H (by simp)
       ·rw [if_neg c232] at H
        have c232b0:decide (x5_2<(l0.length:Int))=false:=decide_eq_false c232
        clear c232
        obtain rfl:=Option.some.inj H
        go_wp2
        go_ret
        exact ⟨by first|rfl|(simp [errW_none,errW_some]<;>rfl)|(simp [*,errW_none,errW_some]<;>rfl),zl0_ HB⟩

theorem eqA54 (d:Nat) (w:World) (x0 y0:ByteArray) (x1 y1:ByteArray) (x2 y2:Int) (x3 y3:Int) (x4 y4:Int) (x5 y5:Int):
  (Op.equalIn (d+3) 54 (.agg #[.string x0, .string x1, .int .i64 x2, .int .i64 x3, .int .i64 x4, .int .i64 x5]) (.agg #[.string y0, .string y1, .int .i64 y2, .int .i64 y3, .int .i64 y4, .int .i64 y5])).run Try.prog w= .ok (x0.toList==y0.toList && (x1.toList==y1.toList && ((x2==y2 && (x3==y3 && (x4==y4))) && (x5==y5)))) w:=by
 refine eqA_of Try.underlying54 (by kernel_rfl) ?_
 refine eqf_cons (by rfl) (by go_simp;rfl) (by go_simp;rfl) (by go_simp) ?_
 refine eqf_cons (by rfl) (by go_simp;rfl) (by go_simp;rfl) (by go_simp) ?_
 refine eqf_cons (by rfl) (by go_simp) (by go_simp) (eqA27 (d+0) w _ _ _ _ _ _) ?_
 exact eqf_last (by rfl) (by go_simp;rfl) (by go_simp;rfl) (by go_simp)
attribute [local go_sem high] eqA54
def r16_SameMarks.l0:Nat→List (S54)→List (S54)→Int→Option (Bool)
 |0,_,_,_=>none
 |k+1,x0,x1,x5=>if x5<(x0.length:Int) then (if 0≤x5 then (if x5<(x1.length:Int) then (if (!((((rd_T54 x0 x5).f0).toList)==(((rd_T54 x1 x5).f0).toList))||(!((((rd_T54 x0 x5).f1).toList)==(((rd_T54 x1 x5).f1).toList))||((!(((rd_T54 x0 x5).f2.f0)==((rd_T54 x1 x5).f2.f0))||(!(((rd_T54 x0 x5).f2.f1)==((rd_T54 x1 x5).f2.f1))||(!(((rd_T54 x0 x5).f2.f2)==((rd_T54 x1 x5).f2.f2)))))||(!(((rd_T54 x0 x5).f3)==((rd_T54 x1 x5).f3))))))=true then (some false) else (r16_SameMarks.l0 k x0 x1 (wrap64 (x5+1)))) else (none)) else (none)) else (some true)
def r16_SameMarks.f (k:Nat) (l0:List (S54)) (l1:List (S54)):Option (Bool):=if (l0.length:Int)=(l1.length:Int) then (r16_SameMarks.l0 k l0 l1 0) else (some false)
theorem r16_SameMarks.mono_l: ∀k,(∀y0 y1 y2,LeO (r16_SameMarks.l0 k y0 y1 y2) (r16_SameMarks.l0 (k+1) y0 y1 y2))
 |0=>fun _ _ _ r h=>by simp [r16_SameMarks.l0] at h
 |k+1=>by
  have ih0:=r16_SameMarks.mono_l k
  intro y0 y1 y2
  unfold r16_SameMarks.l0
  repeat' first
  |(with_reducible exact ih0 _ _ _)
  |(with_reducible exact LeO.refl _)
  |(with_reducible exact LeO.none _)
  |(with_reducible refine LeO.ite ?_ ?_)
  |(with_reducible refine LeO.bind ?_ (fun _=> ?_))
  |exact ih0 _ _ _
  |exact LeO.none _
  |refine LeO.ite ?_ ?_
  |refine LeO.bind ?_ (fun _=> ?_)
theorem r16_SameMarks.mono: ∀a0 a1 k,LeO (r16_SameMarks.f k a0 a1) (r16_SameMarks.f (k+1) a0 a1):=by
 intro a0 a1 k
 have ih0:=r16_SameMarks.mono_l k
 unfold r16_SameMarks.f
 repeat' first
  |(with_reducible exact ih0 _ _ _)
  |(with_reducible exact LeO.refl _)
  |(with_reducible exact LeO.none _)
  |(with_reducible refine LeO.ite ?_ ?_)
  |(with_reducible refine LeO.bind ?_ (fun _=> ?_))
  |exact ih0 _ _ _
  |exact LeO.none _
  |refine LeO.ite ?_ ?_
  |refine LeO.bind ?_ (fun _=> ?_)
set_option maxHeartbeats 8000000 in
set_option maxRecDepth 100000 in
theorem r16_SameMarks.calls (k:Nat) (A0:Option Addr) (c0:Nat) (l0:List (S54)) (A1:Option Addr) (c1:Nat) (l1:List (S54)) (r:Bool) (w:World) (hr0:Kd.C k54 w A0 l0.length l0) (hc0:l0.length≤c0) (hr1:Kd.C k54 w A1 l1.length l1) (hc1:l1.length≤c1) (h:r16_SameMarks.f k l0 l1=some r):
  Calls Try.prog 45 #[.slice A0 l0.length c0, .slice A1 l1.length c1] w fun e w'=>e= .returned (.bool r)∧Drawn0 w w':=by
 have hu54:=Try.underlying54
 have HR0:=Aside0.mk hr0
 have HC0:=Aside0.mk hc0
 clear hr0 hc0
 have HR1:=Aside0.mk hr1
 have HC1:=Aside0.mk hc1
 clear hr1 hc1
 have H:(if (l0.length:Int)=(l1.length:Int) then (r16_SameMarks.l0 k l0 l1 0) else (some false))=some r:=h
 clear h
 by_cases c3:(l0.length:Int)=(l1.length:Int)
 rotate_left
 ·rw [if_neg c3] at H
  have c3b0:((l0.length:Int)==(l1.length:Int))=false:=beq_eq_false_iff_ne.mpr c3
  have c3b1:((l0.length:Int) !=(l1.length:Int))=true:=bne_iff_ne.mpr c3
  have c3b2:(l0.length==l1.length)=false:=by first|simpa using c3|(simp at c3 ⊢;omega)
  obtain rfl:=Option.some.inj H
  go_enter Try.func45,Try.ntmps45
  go_wp2
  repeat (go_quiet (fail);try go_wp2)
  go_ret
  exact ⟨by first|rfl|(simp;done)|(simp [*];done),by repeat (first|exact Drawn0.refl _|apply Drawn0.step)⟩

 rw [if_pos c3] at H
 have c3b0:((l0.length:Int)==(l1.length:Int))=true:=beq_iff_eq.mpr c3
 have c3b1:((l0.length:Int) !=(l1.length:Int))=false:=bne_eq_false_iff_eq.mpr c3
 have c3b2:(l0.length==l1.length)=true:=by first|simpa using c3|(simp at c3 ⊢;omega)
 clear c3
 have H':=Aside0.mk H
 clear H
 go_enter Try.func45,Try.ntmps45
 go_wp2
 repeat (go_quiet (fail);try go_wp2)
 go_loopg [5] k (fun kq v5 w'=> ∃(x5_1:Int),v5= .int .i64 x5_1∧Aside0 (r16_SameMarks.l0 kq l0 l1 x5_1=some r)∧Aside0 (kq≤k)∧Drawn0 w w')
 case atStart=>exact ⟨(0),(by first|rfl|(simp;done)|(simp [*];done)),H',⟨Nat.le_refl _⟩,by repeat (first|exact Drawn0.refl _|apply Drawn0.step)⟩
 case round=>
  clear H'
  try clear c1
  try clear p2
  try clear c3
  try clear c3b0
  try clear c3b1
  try clear c3b2
  obtain ⟨x5_1,rfl,HA,HK1,⟨m1,rfl⟩⟩:=hrel
  cases gk with
  |zero=>exact absurd HA.out (by simp [r16_SameMarks.l0])
  |succ k1=>
   have H:=HA.out
   clear HA
   simp only [r16_SameMarks.l0] at H
   by_cases c4:x5_1<(l0.length:Int)
   rotate_left
   ·rw [if_neg c4] at H
    have c4b0:decide (x5_1<(l0.length:Int))=false:=decide_eq_false c4
    clear c4
    obtain rfl:=Option.some.inj H
    go_wp2
    repeat (go_quiet (fail);try go_wp2)
    go_ret
    exact ⟨by first|rfl|(simp;done)|(simp [*];done),by repeat (first|exact Drawn0.refl _|apply Drawn0.step)⟩
   rw [if_pos c4] at H
   have c4b0:decide (x5_1<(l0.length:Int))=true:=decide_eq_true c4
   clear c4
   by_cases c5:0≤x5_1
   rotate_left
   ·rw [if_neg c5] at H
    exact absurd H (by simp)
   rw [if_pos c5] at H
   have c5b0:decide (0≤x5_1)=true:=decide_eq_true c5
   clear c5
   by_cases c6:x5_1<(l1.length:Int)
   rotate_left
   ·rw [if_neg c6] at H
    exact absurd H (by simp)
   rw [if_pos c6] at H
   have c6b0:decide (x5_1<(l1.length:Int))=true:=decide_eq_true c6
   clear c6
   by_cases c7:(!((((rd_T54 l0 x5_1).f0).toList)==(((rd_T54 l1 x5_1).f0).toList))||(!((((rd_T54 l0 x5_1).f1).toList)==(((rd_T54 l1 x5_1).f1).toList))||((!(((rd_T54 l0 x5_1).f2.f0)==((rd_T54 l1 x5_1).f2.f0))||(!(((rd_T54 l0 x5_1).f2.f1)==((rd_T54 l1 x5_1).f2.f1))||(!(((rd_T54 l0 x5_1).f2.f2)==((rd_T54 l1 x5_1).f2.f2)))))||(!(((rd_T54 l0 x5_1).f3)==((rd_T54 l1 x5_1).f3))))))=true
   ·rw [if_pos c7] at H
    have c7b0:(!((((rd_T54 l0 x5_1).f0).toList)==(((rd_T54 l1 x5_1).f0).toList))||(!((((rd_T54 l0 x5_1).f1).toList)==(((rd_T54 l1 x5_1).f1).toList))||((!(((rd_T54 l0 x5_1).f2.f0)==((rd_T54 l1 x5_1).f2.f0))||(!(((rd_T54 l0 x5_1).f2.f1)==((rd_T54 l1 x5_1).f2.f1))||(!(((rd_T54 l0 x5_1).f2.f2)==((rd_T54 l1 x5_1).f2.f2)))))||(!(((rd_T54 l0 x5_1).f3)==((rd_T54 l1 x5_1).f3))))))=true:=c7
    clear c7
    obtain rfl:=Option.some.inj H
    have p1:0≤(x5_1:Int):=of_decide_eq_true zq_
    have q1:x5_1<(l0.length:Int):=of_decide_eq_true zq_
    obtain ⟨ad1,e1,hx1_0,hx1_1,hx1_2,hx1_3,hx1_4,hx1_5⟩:=at_T54 HR0.out x5_1 p1 q1
    cases e1
    replace p1:=eq_true p1
    replace q1:=eq_true q1
    have p2:0≤(x5_1:Int):=of_decide_eq_true zq_
    have q2:x5_1<(l1.length:Int):=of_decide_eq_true zq_
    obtain ⟨ad2,e2,hx2_0,hx2_1,hx2_2,hx2_3,hx2_4,hx2_5⟩:=at_T54 HR1.out x5_1 p2 q2
    cases e2
    replace p2:=eq_true p2
    replace q2:=eq_true q2
    go_wp2
    repeat (go_quiet (fail);try go_wp2)
    go_ret
    exact ⟨by first|rfl|(simp;done)|(simp [*];done),by repeat (first|exact Drawn0.refl _|apply Drawn0.step)⟩
   rw [if_neg c7] at H
   have c7b0:(!((((rd_T54 l0 x5_1).f0).toList)==(((rd_T54 l1 x5_1).f0).toList))||(!((((rd_T54 l0 x5_1).f1).toList)==(((rd_T54 l1 x5_1).f1).toList))||((!(((rd_T54 l0 x5_1).f2.f0)==((rd_T54 l1 x5_1).f2.f0))||(!(((rd_T54 l0 x5_1).f2.f1)==((rd_T54 l1 x5_1).f2.f1))||(!(((rd_T54 l0 x5_1).f2.f2)==((rd_T54 l1 x5_1).f2.f2)))))||(!(((rd_T54 l0 x5_1).f3)==((rd_T54 l1 x5_1).f3))))))=false:=by simpa using c7
   clear c7
   have H':=Aside0.mk H
   clear H
   have p1:0≤(x5_1:Int):=of_decide_eq_true zq_
   have q1:x5_1<(l0.length:Int):=of_decide_eq_true zq_
   obtain ⟨ad1,e1,hx1_0,hx1_1,hx1_2,hx1_3,hx1_4,hx1_5⟩:=at_T54 HR0.out x5_1 p1 q1
   cases e1
   replace p1:=eq_true p1
   replace q1:=eq_true q1
   have p2:0≤(x5_1:Int):=of_decide_eq_true zq_
   have q2:x5_1<(l1.length:Int):=of_decide_eq_true zq_
   obtain ⟨ad2,e2,hx2_0,hx2_1,hx2_2,hx2_3,hx2_4,hx2_5⟩:=at_T54 HR1.out x5_1 p2 q2
   cases e2
   replace p2:=eq_true p2
   replace q2:=eq_true q2
   go_wp2
   repeat (go_quiet (fail);try go_wp2)
   go_roundg k1
   case measure=>have:=HK1.out;omega
   case rel=>exact ⟨(wrap64 (x5_1+1)),(by first|rfl|(simp;done)|(simp [*];done)),H',⟨by have:=HK1.out;omega⟩,by repeat (first|exact Drawn0.refl _|apply Drawn0.step)⟩
def fidx {α:Type} (p:α→Bool):List α→Int→Int
 |[],_=> -1
 |x::l,i=>if p x=true then i else fidx p l (i+1)
theorem fidx_drop {α:Type} (p:α→Bool) (z:α) (l:List α) (i:Nat) (h:i<l.length):fidx p (l.drop i) i=if p (l.getD i z)=true then (i:Int) else fidx p (l.drop (i+1)) ((i+1:Nat):Int):=by
 rw [List.drop_eq_getElem_cons h,List.getD_eq_getElem?_getD,List.getElem?_eq_getElem h]
 rfl
def itemCells (x:S31):Array Value:=#[.string x.f0, .string x.f1, .int .i64 x.f2.f0, .int .i64 x.f2.f1, .int .i64 x.f2.f2, .int .i64 x.f3.f0, .int .i64 x.f3.f1, .int .i64 x.f3.f2, .int .i64 x.f4.f0, .int .i64 x.f4.f1, .int .i64 x.f4.f2, .int .i64 x.f5]
set_option maxHeartbeats 1000000 in
set_option maxRecDepth 100000 in
theorem idxItem_calls (g:Nat) (lb:Array Value) (p:S31→Bool) (eg: ∀args w,(callFunc g args).run Try.prog w= .ok (.enter g args) w) (w:World)
    (hp: ∀W x,Below w.heap.size w W→Calls Try.prog g (#[.agg (itemCells x)]++lb) W fun e w'=>e= .returned (.bool (p x))∧Below W.heap.size W w')
    (A:Option Addr) (c:Nat) (l:List S31) (hr0:Kd.C k31 w A l.length l) (hc0:l.length≤c):
    Calls Try.prog 127 #[.slice A l.length c, .func (.func g) #[] lb] w fun e w'=>e= .returned (.int .i64 (fidx p l 0))∧Below w.heap.size w w':=by
  have hu31:=Try.underlying31
  have HR0:=Aside0.mk hr0
  have HP:=Aside0.mk hp
  have HEG:=Aside0.mk eg
  have hm:l.length≤9223372036854775807:=hr0.2.1
  clear hr0 hp eg
  go_enter Try.func127,Try.ntmps127
  go_wp2
  go_loopg [5,8] l.length (fun kq s5 s8 wr=> ∃i:Nat,i≤l.length∧l.length - i≤kq∧s8= .int .i64 i∧Aside0 (Below w.heap.size w wr)∧Aside0 (fidx p l 0=fidx p (l.drop i) i))
  case atStart=>exact ⟨0,by omega,by omega,rfl,⟨Below.refl _ _⟩,⟨rfl⟩⟩
  case round=>
    obtain ⟨i,hi,hg,rfl,HB,HF⟩:=hrel
    by_cases hlt:i<l.length
    rotate_left
    · obtain rfl : i = l.length := by omega
      go_wp2
      go_ret
      refine ⟨?_,HB.out⟩
      rw [HF.out,List.drop_length]
      rfl


    have hltz:(i:Int)<(l.length:Int):=by omega
    obtain ⟨ad,e1,h0,h1,h2,h3,h4,h5,h6,h7,h8,h9,h10,h11⟩:=at_T31 HR0.out (i:Int) (by omega) (by omega)
    cases e1
    simp only [Int.toNat_natCast] at h0 h1 h2 h3 h4 h5 h6 h7 h8 h9 h10 h11
    replace h0:=zx_ HB h0
    replace h1:=zx_ HB h1
    replace h2:=zx_ HB h2
    replace h3:=zx_ HB h3
    replace h4:=zx_ HB h4
    replace h5:=zx_ HB h5
    replace h6:=zx_ HB h6
    replace h7:=zx_ HB h7
    replace h8:=zx_ HB h8
    replace h9:=zx_ HB h9
    replace h10:=zx_ HB h10
    replace h11:=zx_ HB h11
    have hd:Aside0 _:=⟨fidx_drop p z31 l i hlt⟩
    have HC:=am_ (HP.out wr (rd_T31 l i) HB.out)
    generalize hy:rd_T31 l i=y at h0 h1 h2 h3 h4 h5 h6 h7 h8 h9 h10 h11 HC
    have hq:p (l.getD i z31)=p y:=by rw [←hy];simp [rd_T31]
    have HQ:=Aside0.mk hq
    clear hy hq
    have eg:=HEG.out
    cases hb:p y with
    | true =>
      rw [hb] at HC HQ
      clear hb
      go_wp2_with (go_at_fn g;refine HC.out.mono ?_;rintro e w' ⟨rfl,hb'⟩;have HB':=am_ (below_step HB.out hb');clear hb')
      go_ret
      refine ⟨?_,HB'.out⟩
      rw [HF.out,hd.out,HQ.out]
      rfl
    | false =>
      rw [hb] at HC HQ
      clear hb
      go_wp2_with (go_at_fn g;refine HC.out.mono ?_;rintro e w' ⟨rfl,hb'⟩;have HB':=am_ (below_step HB.out hb');clear hb')
      go_roundg (l.length - (i+1))
      case measure=>omega
      case rel=>exact ⟨i+1,by omega,by omega,by go_num,HB',⟨by rw [HF.out,hd.out,HQ.out];rfl⟩⟩
set_option maxHeartbeats 1000000 in
set_option maxRecDepth 100000 in
theorem treeFind1_calls (W:World) (b:Nat) (nm:ByteArray) (hb:W.heap[b]?=some (.cells #[.string nm] 9 (0,0))) (x:S31):
  Calls Try.prog 128 #[.agg (itemCells x), .pointer (some ⟨b,0,none⟩)] W fun e w'=>e= .returned (.bool (x.f0.toList==nm.toList))∧Below W.heap.size W w':=by
 unfold itemCells
 have hu31:=Try.underlying31
 have h0:=(blk_cell hb 0).trans rfl
 have hl:b<W.heap.size:=blk_lt hb
 clear hb
 go_enter Try.func128,Try.ntmps128
 go_wp2
 go_ret
 exact ⟨rfl,by repeat (first|(with_reducible first|exact Below.refl _ _|apply below_alloc|apply pw_below_drewN|apply below_drew1))⟩
def tree_Find.f (l0:List (S31)) (a1:ByteArray):Option Int:=some (fidx (fun x=>x.f0.toList==a1.toList) l0 0)
set_option maxHeartbeats 1000000 in
set_option maxRecDepth 100000 in
theorem tree_Find.calls (A0:Option Addr) (c0:Nat) (l0:List (S31)) (a1:ByteArray) (r:Int) (w:World) (hr0:Kd.C k31 w A0 l0.length l0) (hc0:l0.length≤c0) (h:tree_Find.f l0 a1=some r):
  Calls Try.prog 71 #[.slice A0 l0.length c0, .string a1] w fun e w'=>e= .returned (.int .i64 r)∧Below w.heap.size w w':=by
 have hr:fidx (fun x=>x.f0.toList==a1.toList) l0 0=r:=Option.some.inj h
 obtain ⟨W1,hW1⟩: ∃W1,W1=w.alloc (.cells #[.string a1] 9):=⟨_,rfl⟩
 have hn:W1.heap[w.heap.size]?=some (.cells #[.string a1] 9 (0,0)):=by rw [hW1];exact blk_new _ _
 have hB:Below w.heap.size w W1:=by rw [hW1];exact below_alloc (Below.refl _ _) _
 have HC:=am_ (idxItem_calls 128 #[.pointer (some ⟨w.heap.size,0,none⟩)] (fun x=>x.f0.toList==a1.toList) (enters_of Try.func128 (by kernel_rfl) rfl) W1 (fun W x hb=>treeFind1_calls W w.heap.size a1 (blk_below hn hb) x) A0 c0 l0 (Kd.C_below hr0 hB) hc0)
 rw [hr] at HC
 have HW:=Aside0.mk hW1
 have HB:=Aside0.mk hB
 clear hr0 hr hW1 hn hB h
 go_enter Try.func71,Try.ntmps71
 go_wp2_with fail
 rw [←HW.out]
 refine HC.out.mono ?_
 rintro e w' ⟨rfl,hb⟩
 have HB':=am_ (below_step HB.out hb)
 clear hb
 go_wp2
 go_ret
 exact ⟨rfl,HB'.out⟩


end Go.Proofs.Ytcgefpklljclgaa.Print

namespace Go.Proofs.Ytcgefpklljclgaa.Print
open Go.RowKit Go.Proofs.YtcgefpklljclgaaW.PrintWords Go.Proofs.YtcgefpklljclgaaW.PrintLast Go.Proofs.YtcgefpklljclgaaW.PrintMore
section
variable {P:Program} {ops:Array Oper} {rest:List Oper} {o:Oper} {a:Act} {Q:Exit→Act→World→Prop} {Kc:Act→World→Prop} {W:World}
theorem put_run {gb e:Nat} {zs:Array Value} (hh:W.heap[gb]?=some (.cells zs e (0,0))) (t:TypeId) (u:Value) (off:Nat) (seg:List Value) (hu:u.cells.toList=seg) (ht:(P.info? t).map (·.size)=some seg.length) (hfit:off+seg.length≤zs.size) (h1: ∀q∈seg,q.oneCell'=true):
  ∃w' cur,(Instr.storeAt t (.pointer (some ⟨gb,off,none⟩)) u).run P W= .ok () w'∧w'.heap[gb]?=some (.cells cur e (0,0))∧cur.size=zs.size∧cur.toList=zs.toList.take off++seg++zs.toList.drop (off+seg.length)∧W.grownBy w' (some gb):=by
 have hrun:=run_store_run (P:=P) t u seg hh hu ht (o:=off) hfit h1
 obtain ⟨cur,hc,hs,hl⟩:=setCells_row seg off W zs hh hfit
 obtain ⟨s1,s2,s3,s4⟩:=setCells_same gb seg off W
 exact ⟨_,cur,hrun,hc,hs,hl,⟨s1,s2,s3,by rw [s4];exact Nat.le_refl _,fun k hk hne=>setCells_far seg off k (by rintro rfl;exact hne rfl)⟩⟩
theorem store_all {gb e:Nat} {zs:Array Value} (hh:W.heap[gb]?=some (.cells zs e (0,0))) (t:TypeId) (p x:Operand) (ho:o.op= .store t p x) (hN:o.dst=none) (hgd:o.guard=none) (u:Value) (seg:List Value)
  (hp:a.eval p= .pointer (some ⟨gb,0,none⟩)) (hx:a.eval x=u) (hu:u.cells.toList=seg) (ht:(P.info? t).map (·.size)=some seg.length) (hz:zs.size=seg.length) (h1: ∀q∈seg,q.oneCell'=true)
  (h: ∀w',w'.heap[gb]?=some (.cells seg.toArray e (0,0))→W.grownBy w' (some gb)→wpList P ops Q rest a w'):wpList P ops Q (o::rest) a W:=by
 obtain ⟨w',cur,hrun,hc,hs,hl,hg⟩:=put_run (P:=P) hh t u 0 seg hu ht (by omega) h1
 have e1:cur=seg.toArray:=by
  apply Array.ext'
  rw [hl,List.take_zero,List.nil_append,Nat.zero_add,List.drop_of_length_le (by simp [Array.length_toList];omega),List.append_nil]
 subst e1
 refine wpList_plain hgd fun K hK=> ?_
 unfold Oper.wp execOp
 simp only [ho,hp,hx,Sem.run_bind,Sem.run_pure,Result.andThen_ok,hrun]
 show K (a.put o.dst undef) _
 rw [hN]
 exact hK a _ (h _ hc hg)
theorem store_part {gb e:Nat} {zs:Array Value} (hh:W.heap[gb]?=some (.cells zs e (0,0))) (t:TypeId) (p x:Operand) (ho:o.op= .store t p x) (hN:o.dst=none) (hgd:o.guard=none) (off:Nat) (u:Value) (seg new:List Value)
  (hp:a.eval p= .pointer (some ⟨gb,off,none⟩)) (hx:a.eval x=u) (hu:u.cells.toList=seg) (ht:(P.info? t).map (·.size)=some seg.length) (hz:off+seg.length≤zs.size) (h1: ∀q∈seg,q.oneCell'=true) (hnew:zs.toList.take off++seg++zs.toList.drop (off+seg.length)=new)
  (h: ∀w',w'.heap[gb]?=some (.cells new.toArray e (0,0))→W.grownBy w' (some gb)→wpList P ops Q rest a w'):wpList P ops Q (o::rest) a W:=by
 obtain ⟨w',cur,hrun,hc,hs,hl,hg⟩:=put_run (P:=P) hh t u off seg hu ht hz h1
 have e1:cur=new.toArray:=by
  apply Array.ext'
  rw [hl,hnew]
 subst e1
 refine wpList_plain hgd fun K hK=> ?_
 unfold Oper.wp execOp
 simp only [ho,hp,hx,Sem.run_bind,Sem.run_pure,Result.andThen_ok,hrun]
 show K (a.put o.dst undef) _
 rw [hN]
 exact hK a _ (h _ hc hg)
end
theorem R_put {α:Type} {d:Kd α} {e base:Nat} {w w1:World} {v:Value} {xs:List α} (h:d.R e w base (fun _=>True) v xs) {g t:Nat} {cells:Array Value} (hb:w.heap[g]?=some (.cells cells t (0,0))) (ht: ∀q,q∈e::d.E→q≠t) (hg:w.grownBy w1 (some g)):d.R e w1 base (fun _=>True) v xs:=
 Kd.R_mono (Kd.R_grown (Kd.R_types h hb ht) hg (fun _ hk e=>hk.2 (Option.some.inj e))) (fun _ _=>trivial)
theorem below_put {a w w1:World} {base g:Nat} (h:Below base a w) (hb:base≤w.heap.size) (hg:w.grownBy w1 (some g)) (hge:base≤g):Below base a w1:=pw_below_grown h (some g) hb hg (fun k e=>by cases e;exact hge)
theorem blk_put_other {w w1:World} {g k:Nat} {ob:Obj} (h:w.heap[k]?=some ob) (hg:w.grownBy w1 (some g)) (hne:k≠g):w1.heap[k]?=some ob:=by
  rw [hg.block k (by
    rcases Nat.lt_or_ge k w.heap.size with hl|hl
    · exact hl
    rw [Array.getElem?_eq_none hl] at h;cases h) (by intro e;cases e;exact hne rfl)]
  exact h
end Go.Proofs.Ytcgefpklljclgaa.Print

namespace Go.Proofs.Ytcgefpklljclgaa.Print
open Go.RowKit Go.Proofs.YtcgefpklljclgaaW.PrintWords Go.Proofs.YtcgefpklljclgaaW.PrintLast Go.Proofs.YtcgefpklljclgaaW.PrintMore
attribute [local go_sem] max2_int min2_int max_two min_two max_three min_three max_four min_four

def effect_find.f (l:List S31) (n:ByteArray):Option (ByteArray×ByteArray×Int×Int×Int×Int×Int×Int×Int×Int×Int×Int×Bool):=(tree_Find.f l n).bind fun t=>if t≥0 then (if t<(l.length:Int) then some ((rd_T31 l t).f0,(rd_T31 l t).f1,(rd_T31 l t).f2.f0,(rd_T31 l t).f2.f1,(rd_T31 l t).f2.f2,(rd_T31 l t).f3.f0,(rd_T31 l t).f3.f1,(rd_T31 l t).f3.f2,(rd_T31 l t).f4.f0,(rd_T31 l t).f4.f1,(rd_T31 l t).f4.f2,(rd_T31 l t).f5,true) else none) else some ((⟨#[]⟩:ByteArray),(⟨#[]⟩:ByteArray),0,0,0,0,0,0,0,0,0,0,false)
set_option maxHeartbeats 8000000 in
set_option maxRecDepth 100000 in
theorem effFind_calls (A:Option Addr) (c:Nat) (l:List S31) (n:ByteArray) (r2 r3:ByteArray) (r4 r5 r6 r7 r8 r9 r10 r11 r12 r13:Int) (r14:Bool) (w:World) (hr:Kd.C k31 w A l.length l) (hc:l.length≤c) (h:effect_find.f l n=some (r2,r3,r4,r5,r6,r7,r8,r9,r10,r11,r12,r13,r14)):
    Calls Try.prog 110 #[.slice A l.length c, .string n] w fun e w'=>e= .returned (.agg #[.slice A l.length c, .string r2, .string r3, .int .i64 r4, .int .i64 r5, .int .i64 r6, .int .i64 r7, .int .i64 r8, .int .i64 r9, .int .i64 r10, .int .i64 r11, .int .i64 r12, .int .i64 r13, .bool r14])∧Below w.heap.size w w':=by
  have hu142:=Try.underlying142
  have hu140:=Try.underlying140
  have hu31:=Try.underlying31
  obtain ⟨t,ht,h⟩:=Option.bind_eq_some_iff.1 h
  have HR:=Aside0.mk hr
  have HC:=Aside0.mk hc
  have HT:=Aside0.mk ht
  have HH:=Aside0.mk h
  have HB:=am_ (Below.refl w.heap.size w)
  clear hr hc ht h
  go_enter Try.func110,Try.ntmps110
  go_wp2_with (first|((with_reducible refine gate_dst (N:=4) rfl ?_);refine bx_ (N:=4) (cs:=#[.slice none 0 0, .string ⟨#[]⟩, .string ⟨#[]⟩, .int .i64 0, .int .i64 0, .int .i64 0, .int .i64 0, .int .i64 0, .int .i64 0, .int .i64 0, .int .i64 0, .int .i64 0, .int .i64 0, .bool false]) (t:=142) ?_;intro gb4 hg w1 hbox hb;have BK4:=am_ (hbox);have GE4:=am_ ((by rw [hg];exact below_size HB.out:w.heap.size≤gb4));replace HB:=am_ (below_step HB.out hb);have EQ4:=am_ (hg);clear hb hbox hg)|((with_reducible refine gate_dst (N:=5) rfl ?_);refine bx_ (N:=5) (cs:=#[.slice none 0 0, .string ⟨#[]⟩, .string ⟨#[]⟩, .int .i64 0, .int .i64 0, .int .i64 0, .int .i64 0, .int .i64 0, .int .i64 0, .int .i64 0, .int .i64 0, .int .i64 0, .int .i64 0, .bool false]) (t:=142) ?_;intro gb5 hg w2 hbox hb;have NE:=am_ (show gb4≠gb5 from by have:=blk_lt BK4.out;rw [hg];exact Nat.ne_of_lt this);replace BK4:=am_ (blk_below BK4.out hb);have BK5:=am_ (hbox);have GE5:=am_ ((by rw [hg];exact below_size HB.out:w.heap.size≤gb5));replace HB:=am_ (below_step HB.out hb);have EQ5:=am_ (hg);clear hb hbox hg;have cgb5_0:=(blk_cell BK5.out 0).trans rfl;have cgb5_1:=(blk_cell BK5.out 1).trans rfl;have cgb5_2:=(blk_cell BK5.out 2).trans rfl;have cgb5_3:=(blk_cell BK5.out 3).trans rfl;have cgb5_4:=(blk_cell BK5.out 4).trans rfl;have cgb5_5:=(blk_cell BK5.out 5).trans rfl;have cgb5_6:=(blk_cell BK5.out 6).trans rfl;have cgb5_7:=(blk_cell BK5.out 7).trans rfl;have cgb5_8:=(blk_cell BK5.out 8).trans rfl;have cgb5_9:=(blk_cell BK5.out 9).trans rfl;have cgb5_10:=(blk_cell BK5.out 10).trans rfl;have cgb5_11:=(blk_cell BK5.out 11).trans rfl;have cgb5_12:=(blk_cell BK5.out 12).trans rfl;have cgb5_13:=(blk_cell BK5.out 13).trans rfl)|((with_reducible refine gate_store (t:=142) (p:=5) (v:= .tmp 9) rfl ?_);refine store_all BK5.out 142 (.tmp 5) (.tmp 9) rfl rfl rfl (.agg #[.slice A l.length c, .string ⟨#[]⟩, .string ⟨#[]⟩, .int .i64 0, .int .i64 0, .int .i64 0, .int .i64 0, .int .i64 0, .int .i64 0, .int .i64 0, .int .i64 0, .int .i64 0, .int .i64 0, .bool false]) [.slice A l.length c, .string ⟨#[]⟩, .string ⟨#[]⟩, .int .i64 0, .int .i64 0, .int .i64 0, .int .i64 0, .int .i64 0, .int .i64 0, .int .i64 0, .int .i64 0, .int .i64 0, .int .i64 0, .bool false] rfl rfl rfl (by kernel_rfl) rfl (by intro q hq;simp only [List.mem_cons,List.not_mem_nil,or_false] at hq;rcases hq with rfl|rfl|rfl|rfl|rfl|rfl|rfl|rfl|rfl|rfl|rfl|rfl|rfl|rfl<;>rfl) ?_;intro w3 hbk hg;clear cgb5_0 cgb5_1 cgb5_2 cgb5_3 cgb5_4 cgb5_5 cgb5_6 cgb5_7 cgb5_8 cgb5_9 cgb5_10 cgb5_11 cgb5_12 cgb5_13;replace BK4:=am_ (blk_put_other BK4.out hg (NE.out));replace HB:=am_ (below_put HB.out (below_size HB.out) hg GE5.out);replace BK5:=am_ (hbk);clear hbk hg;have cgb5_0:=(blk_cell BK5.out 0).trans rfl;have cgb5_1:=(blk_cell BK5.out 1).trans rfl;have cgb5_2:=(blk_cell BK5.out 2).trans rfl;have cgb5_3:=(blk_cell BK5.out 3).trans rfl;have cgb5_4:=(blk_cell BK5.out 4).trans rfl;have cgb5_5:=(blk_cell BK5.out 5).trans rfl;have cgb5_6:=(blk_cell BK5.out 6).trans rfl;have cgb5_7:=(blk_cell BK5.out 7).trans rfl;have cgb5_8:=(blk_cell BK5.out 8).trans rfl;have cgb5_9:=(blk_cell BK5.out 9).trans rfl;have cgb5_10:=(blk_cell BK5.out 10).trans rfl;have cgb5_11:=(blk_cell BK5.out 11).trans rfl;have cgb5_12:=(blk_cell BK5.out 12).trans rfl;have cgb5_13:=(blk_cell BK5.out 13).trans rfl))
  refine (tree_Find.calls _ _ l n t _ (Kd.C_below HR.out HB.out) HC.out HT.out).mono ?_
  rintro e w4 ⟨rfl,hb⟩
  have n0_:=am_ (blk_below BK4.out hb)
  have n1_:=am_ (blk_below BK5.out hb)
  have n2_:=am_ (below_step HB.out hb)
  clear BK4 BK5 HB hb cgb5_0 cgb5_1 cgb5_2 cgb5_3 cgb5_4 cgb5_5 cgb5_6 cgb5_7 cgb5_8 cgb5_9 cgb5_10 cgb5_11 cgb5_12 cgb5_13
  have BK4:=n0_
  have BK5:=n1_
  have HB:=n2_
  clear n0_ n1_ n2_
  have h:=HH.out
  clear HH
  by_cases c1:t≥0
  rotate_left
  · rw [if_neg c1] at h
    have c1b:decide (0≤t)=false:=decide_eq_false c1
    simp only [Option.some.injEq,Prod.mk.injEq] at h
    obtain ⟨rfl,rfl,rfl,rfl,rfl,rfl,rfl,rfl,rfl,rfl,rfl,rfl,rfl⟩:=h
    clear c1
    have cgb5_0:=(blk_cell BK5.out 0).trans rfl
    have cgb5_1:=(blk_cell BK5.out 1).trans rfl
    have cgb5_2:=(blk_cell BK5.out 2).trans rfl
    have cgb5_3:=(blk_cell BK5.out 3).trans rfl
    have cgb5_4:=(blk_cell BK5.out 4).trans rfl
    have cgb5_5:=(blk_cell BK5.out 5).trans rfl
    have cgb5_6:=(blk_cell BK5.out 6).trans rfl
    have cgb5_7:=(blk_cell BK5.out 7).trans rfl
    have cgb5_8:=(blk_cell BK5.out 8).trans rfl
    have cgb5_9:=(blk_cell BK5.out 9).trans rfl
    have cgb5_10:=(blk_cell BK5.out 10).trans rfl
    have cgb5_11:=(blk_cell BK5.out 11).trans rfl
    have cgb5_12:=(blk_cell BK5.out 12).trans rfl
    have cgb5_13:=(blk_cell BK5.out 13).trans rfl
    go_wp2_with (first|((with_reducible refine gate_store (t:=142) (p:=4) (v:= .tmp 21) rfl ?_);refine store_all BK4.out 142 (.tmp 4) (.tmp 21) rfl rfl rfl (.agg #[.slice A l.length c, .string ⟨#[]⟩, .string ⟨#[]⟩, .int .i64 0, .int .i64 0, .int .i64 0, .int .i64 0, .int .i64 0, .int .i64 0, .int .i64 0, .int .i64 0, .int .i64 0, .int .i64 0, .bool false]) [.slice A l.length c, .string ⟨#[]⟩, .string ⟨#[]⟩, .int .i64 0, .int .i64 0, .int .i64 0, .int .i64 0, .int .i64 0, .int .i64 0, .int .i64 0, .int .i64 0, .int .i64 0, .int .i64 0, .bool false] rfl rfl rfl (by kernel_rfl) rfl (by intro q hq;simp only [List.mem_cons,List.not_mem_nil,or_false] at hq;rcases hq with rfl|rfl|rfl|rfl|rfl|rfl|rfl|rfl|rfl|rfl|rfl|rfl|rfl|rfl<;>rfl) ?_;intro w7 hbk hg;replace BK5:=am_ (blk_put_other BK5.out hg (fun e=>NE.out e.symm));replace HB:=am_ (below_put HB.out (below_size HB.out) hg GE4.out);replace BK4:=am_ (hbk);clear hbk hg))
    refine bodyPost_ret (results_cell_row rfl _ _ gb4 142 #[.slice A l.length c, .string ⟨#[]⟩, .string ⟨#[]⟩, .int .i64 0, .int .i64 0, .int .i64 0, .int .i64 0, .int .i64 0, .int .i64 0, .int .i64 0, .int .i64 0, .int .i64 0, .int .i64 0, .bool false] (0,0) _ rfl BK4.out Try.underlying142 rfl (by kernel_rfl)) rfl ?_
    exact ⟨rfl,HB.out⟩


  rw [if_pos c1] at h
  have c1b:decide (0≤t)=true:=decide_eq_true c1
  by_cases c2:t<(l.length:Int)
  rotate_left
  · rw [if_neg c2] at h
    cases h
  rw [if_pos c2] at h
  simp only [Option.some.injEq,Prod.mk.injEq] at h
  obtain ⟨rfl,rfl,rfl,rfl,rfl,rfl,rfl,rfl,rfl,rfl,rfl,rfl,rfl⟩:=h
  have p6:0≤t:=c1
  have q6:t<(l.length:Int):=c2
  obtain ⟨ad,e6,k0,k1,k2,k3,k4,k5,k6,k7,k8,k9,k10,k11⟩:=at_T31 HR.out t p6 q6
  cases e6
  have k0:=zx_ HB k0
  have k1:=zx_ HB k1
  have k2:=zx_ HB k2
  have k3:=zx_ HB k3
  have k4:=zx_ HB k4
  have k5:=zx_ HB k5
  have k6:=zx_ HB k6
  have k7:=zx_ HB k7
  have k8:=zx_ HB k8
  have k9:=zx_ HB k9
  have k10:=zx_ HB k10
  have k11:=zx_ HB k11
  replace p6:=eq_true p6
  replace q6:=eq_true q6
  clear c1 c2
  have cgb5_0:=(blk_cell BK5.out 0).trans rfl
  have cgb5_1:=(blk_cell BK5.out 1).trans rfl
  have cgb5_2:=(blk_cell BK5.out 2).trans rfl
  have cgb5_3:=(blk_cell BK5.out 3).trans rfl
  have cgb5_4:=(blk_cell BK5.out 4).trans rfl
  have cgb5_5:=(blk_cell BK5.out 5).trans rfl
  have cgb5_6:=(blk_cell BK5.out 6).trans rfl
  have cgb5_7:=(blk_cell BK5.out 7).trans rfl
  have cgb5_8:=(blk_cell BK5.out 8).trans rfl
  have cgb5_9:=(blk_cell BK5.out 9).trans rfl
  have cgb5_10:=(blk_cell BK5.out 10).trans rfl
  have cgb5_11:=(blk_cell BK5.out 11).trans rfl
  have cgb5_12:=(blk_cell BK5.out 12).trans rfl
  have cgb5_13:=(blk_cell BK5.out 13).trans rfl
  go_wp2_with (first|((with_reducible refine gate_store (t:=31) (p:=19) (v:= .tmp 18) rfl ?_);refine store_part BK5.out 31 (.tmp 19) (.tmp 18) rfl rfl rfl 1 (.agg #[.string (rd_T31 l t).f0, .string (rd_T31 l t).f1, .int .i64 (rd_T31 l t).f2.f0, .int .i64 (rd_T31 l t).f2.f1, .int .i64 (rd_T31 l t).f2.f2, .int .i64 (rd_T31 l t).f3.f0, .int .i64 (rd_T31 l t).f3.f1, .int .i64 (rd_T31 l t).f3.f2, .int .i64 (rd_T31 l t).f4.f0, .int .i64 (rd_T31 l t).f4.f1, .int .i64 (rd_T31 l t).f4.f2, .int .i64 (rd_T31 l t).f5]) [.string (rd_T31 l t).f0, .string (rd_T31 l t).f1, .int .i64 (rd_T31 l t).f2.f0, .int .i64 (rd_T31 l t).f2.f1, .int .i64 (rd_T31 l t).f2.f2, .int .i64 (rd_T31 l t).f3.f0, .int .i64 (rd_T31 l t).f3.f1, .int .i64 (rd_T31 l t).f3.f2, .int .i64 (rd_T31 l t).f4.f0, .int .i64 (rd_T31 l t).f4.f1, .int .i64 (rd_T31 l t).f4.f2, .int .i64 (rd_T31 l t).f5] [.slice (some ad) l.length c, .string (rd_T31 l t).f0, .string (rd_T31 l t).f1, .int .i64 (rd_T31 l t).f2.f0, .int .i64 (rd_T31 l t).f2.f1, .int .i64 (rd_T31 l t).f2.f2, .int .i64 (rd_T31 l t).f3.f0, .int .i64 (rd_T31 l t).f3.f1, .int .i64 (rd_T31 l t).f3.f2, .int .i64 (rd_T31 l t).f4.f0, .int .i64 (rd_T31 l t).f4.f1, .int .i64 (rd_T31 l t).f4.f2, .int .i64 (rd_T31 l t).f5, .bool false] rfl rfl rfl (by kernel_rfl) (Nat.le_of_ble_eq_true (by kernel_rfl)) (by intro q hq;simp only [List.mem_cons,List.not_mem_nil,or_false] at hq;rcases hq with rfl|rfl|rfl|rfl|rfl|rfl|rfl|rfl|rfl|rfl|rfl|rfl<;>rfl) (by kernel_rfl) ?_;intro w5 hbk hg;clear cgb5_0 cgb5_1 cgb5_2 cgb5_3 cgb5_4 cgb5_5 cgb5_6 cgb5_7 cgb5_8 cgb5_9 cgb5_10 cgb5_11 cgb5_12 cgb5_13;replace BK4:=am_ (blk_put_other BK4.out hg (NE.out));replace HB:=am_ (below_put HB.out (below_size HB.out) hg GE5.out);replace BK5:=am_ (hbk);clear hbk hg;have cgb5_0:=(blk_cell BK5.out 0).trans rfl;have cgb5_1:=(blk_cell BK5.out 1).trans rfl;have cgb5_2:=(blk_cell BK5.out 2).trans rfl;have cgb5_3:=(blk_cell BK5.out 3).trans rfl;have cgb5_4:=(blk_cell BK5.out 4).trans rfl;have cgb5_5:=(blk_cell BK5.out 5).trans rfl;have cgb5_6:=(blk_cell BK5.out 6).trans rfl;have cgb5_7:=(blk_cell BK5.out 7).trans rfl;have cgb5_8:=(blk_cell BK5.out 8).trans rfl;have cgb5_9:=(blk_cell BK5.out 9).trans rfl;have cgb5_10:=(blk_cell BK5.out 10).trans rfl;have cgb5_11:=(blk_cell BK5.out 11).trans rfl;have cgb5_12:=(blk_cell BK5.out 12).trans rfl;have cgb5_13:=(blk_cell BK5.out 13).trans rfl)|((with_reducible refine gate_store (t:=4) (p:=20) (v:= .const (.bool true)) rfl ?_);refine store_part BK5.out 4 (.tmp 20) (.const (.bool true)) rfl rfl rfl 13 (.bool true) [.bool true] [.slice (some ad) l.length c, .string (rd_T31 l t).f0, .string (rd_T31 l t).f1, .int .i64 (rd_T31 l t).f2.f0, .int .i64 (rd_T31 l t).f2.f1, .int .i64 (rd_T31 l t).f2.f2, .int .i64 (rd_T31 l t).f3.f0, .int .i64 (rd_T31 l t).f3.f1, .int .i64 (rd_T31 l t).f3.f2, .int .i64 (rd_T31 l t).f4.f0, .int .i64 (rd_T31 l t).f4.f1, .int .i64 (rd_T31 l t).f4.f2, .int .i64 (rd_T31 l t).f5, .bool true] rfl rfl rfl (by kernel_rfl) (Nat.le_of_ble_eq_true (by kernel_rfl)) (by intro q hq;simp only [List.mem_cons,List.not_mem_nil,or_false] at hq;rcases hq with rfl<;>rfl) (by kernel_rfl) ?_;intro w6 hbk hg;clear cgb5_0 cgb5_1 cgb5_2 cgb5_3 cgb5_4 cgb5_5 cgb5_6 cgb5_7 cgb5_8 cgb5_9 cgb5_10 cgb5_11 cgb5_12 cgb5_13;replace BK4:=am_ (blk_put_other BK4.out hg (NE.out));replace HB:=am_ (below_put HB.out (below_size HB.out) hg GE5.out);replace BK5:=am_ (hbk);clear hbk hg;have cgb5_0:=(blk_cell BK5.out 0).trans rfl;have cgb5_1:=(blk_cell BK5.out 1).trans rfl;have cgb5_2:=(blk_cell BK5.out 2).trans rfl;have cgb5_3:=(blk_cell BK5.out 3).trans rfl;have cgb5_4:=(blk_cell BK5.out 4).trans rfl;have cgb5_5:=(blk_cell BK5.out 5).trans rfl;have cgb5_6:=(blk_cell BK5.out 6).trans rfl;have cgb5_7:=(blk_cell BK5.out 7).trans rfl;have cgb5_8:=(blk_cell BK5.out 8).trans rfl;have cgb5_9:=(blk_cell BK5.out 9).trans rfl;have cgb5_10:=(blk_cell BK5.out 10).trans rfl;have cgb5_11:=(blk_cell BK5.out 11).trans rfl;have cgb5_12:=(blk_cell BK5.out 12).trans rfl;have cgb5_13:=(blk_cell BK5.out 13).trans rfl)|((with_reducible refine gate_store (t:=142) (p:=4) (v:= .tmp 21) rfl ?_);refine store_all BK4.out 142 (.tmp 4) (.tmp 21) rfl rfl rfl (.agg #[.slice (some ad) l.length c, .string (rd_T31 l t).f0, .string (rd_T31 l t).f1, .int .i64 (rd_T31 l t).f2.f0, .int .i64 (rd_T31 l t).f2.f1, .int .i64 (rd_T31 l t).f2.f2, .int .i64 (rd_T31 l t).f3.f0, .int .i64 (rd_T31 l t).f3.f1, .int .i64 (rd_T31 l t).f3.f2, .int .i64 (rd_T31 l t).f4.f0, .int .i64 (rd_T31 l t).f4.f1, .int .i64 (rd_T31 l t).f4.f2, .int .i64 (rd_T31 l t).f5, .bool true]) [.slice (some ad) l.length c, .string (rd_T31 l t).f0, .string (rd_T31 l t).f1, .int .i64 (rd_T31 l t).f2.f0, .int .i64 (rd_T31 l t).f2.f1, .int .i64 (rd_T31 l t).f2.f2, .int .i64 (rd_T31 l t).f3.f0, .int .i64 (rd_T31 l t).f3.f1, .int .i64 (rd_T31 l t).f3.f2, .int .i64 (rd_T31 l t).f4.f0, .int .i64 (rd_T31 l t).f4.f1, .int .i64 (rd_T31 l t).f4.f2, .int .i64 (rd_T31 l t).f5, .bool true] rfl rfl rfl (by kernel_rfl) rfl (by intro q hq;simp only [List.mem_cons,List.not_mem_nil,or_false] at hq;rcases hq with rfl|rfl|rfl|rfl|rfl|rfl|rfl|rfl|rfl|rfl|rfl|rfl|rfl|rfl<;>rfl) ?_;intro w7 hbk hg;replace BK5:=am_ (blk_put_other BK5.out hg (fun e=>NE.out e.symm));replace HB:=am_ (below_put HB.out (below_size HB.out) hg GE4.out);replace BK4:=am_ (hbk);clear hbk hg))
  refine bodyPost_ret (results_cell_row rfl _ _ gb4 142 #[.slice (some ad) l.length c, .string (rd_T31 l t).f0, .string (rd_T31 l t).f1, .int .i64 (rd_T31 l t).f2.f0, .int .i64 (rd_T31 l t).f2.f1, .int .i64 (rd_T31 l t).f2.f2, .int .i64 (rd_T31 l t).f3.f0, .int .i64 (rd_T31 l t).f3.f1, .int .i64 (rd_T31 l t).f3.f2, .int .i64 (rd_T31 l t).f4.f0, .int .i64 (rd_T31 l t).f4.f1, .int .i64 (rd_T31 l t).f4.f2, .int .i64 (rd_T31 l t).f5, .bool true] (0,0) _ rfl BK4.out Try.underlying142 rfl (by kernel_rfl)) rfl ?_
  exact ⟨rfl,HB.out⟩
attribute [local go_sem high] eqA27
def effect_Holds.f (l0:List (S31)) (k:Int) (n p:ByteArray) (v0 v1 v2:Int):Option Bool:=(effect_find.f l0 n).bind fun r=>some (if k=1 then (r.2.2.2.2.2.2.2.2.2.2.2.2 && ((r.2.1.toList==p.toList) && (r.2.2.1==v0 && (r.2.2.2.1==v1 && (r.2.2.2.2.1==v2))))) else if k=2 then (r.2.2.2.2.2.2.2.2.2.2.2.2 && (r.2.2.1==v0 && (r.2.2.2.1==v1 && (r.2.2.2.2.1==v2)))) else if k=3 then (r.2.2.2.2.2.2.2.2.2.2.2.2 && (r.2.1.toList==p.toList)) else if k=4 then !r.2.2.2.2.2.2.2.2.2.2.2.2 else false)
set_option maxHeartbeats 8000000 in
set_option maxRecDepth 100000 in
theorem effect_Holds.calls (A:Option Addr) (c:Nat) (l:List (S31)) (k:Int) (n p:ByteArray) (v0 v1 v2:Int) (r:Bool) (w:World) (hr:Kd.C k31 w A l.length l) (hc:l.length≤c) (h:effect_Holds.f l k n p v0 v1 v2=some r):
    Calls Try.prog 52 #[.slice A l.length c, .agg #[.int .i64 k, .string n, .string p, .int .i64 v0, .int .i64 v1, .int .i64 v2]] w fun e w'=>e= .returned (.bool r)∧Below w.heap.size w w':=by
  have hu142:=Try.underlying142
  have hu140:=Try.underlying140
  have hu31:=Try.underlying31
  have hu58:=Try.underlying58
  have hu27:=Try.underlying27
  obtain ⟨⟨r2,r3,r4,r5,r6,r7,r8,r9,r10,r11,r12,r13,r14⟩,hf,h⟩:=Option.bind_eq_some_iff.1 h
  have HF:=Aside0.mk hf
  have HH:=Aside0.mk h
  have HR:=Aside0.mk hr
  have HC:=Aside0.mk hc
  have HB:=am_ (Below.refl w.heap.size w)
  clear hr hc hf h
  go_enter Try.func52,Try.ntmps52
  go_wp2_with (first|((with_reducible refine gate_dst (N:=3) rfl ?_);refine bx_ (N:=3) (cs:=#[.int .i64 k, .string n, .string p, .int .i64 v0, .int .i64 v1, .int .i64 v2]) (t:=58) ?_;intro gb3 hg w3 hbox hb;have BK3:=am_ (hbox);have GE3:=am_ ((by rw [hg];exact below_size HB.out:w.heap.size≤gb3));replace HB:=am_ (below_step HB.out hb);have EQ3:=am_ (hg);clear hb hbox hg;have cgb3_0:=(blk_cell BK3.out 0).trans rfl;have cgb3_1:=(blk_cell BK3.out 1).trans rfl;have cgb3_2:=(blk_cell BK3.out 2).trans rfl;have cgb3_3:=(blk_cell BK3.out 3).trans rfl;have cgb3_4:=(blk_cell BK3.out 4).trans rfl;have cgb3_5:=(blk_cell BK3.out 5).trans rfl))
  refine (effFind_calls A c l n r2 r3 r4 r5 r6 r7 r8 r9 r10 r11 r12 r13 r14 _ (Kd.C_below HR.out HB.out) HC.out HF.out).mono ?_
  rintro e w4 ⟨rfl,hb⟩
  have n0_:=am_ (blk_below BK3.out hb)
  have nB_:=am_ (below_step HB.out hb)
  clear BK3 HB hb cgb3_0 cgb3_1 cgb3_2 cgb3_3 cgb3_4 cgb3_5
  have BK3:=n0_
  have HB:=nB_
  clear nB_ n0_
  have h:=HH.out
  clear HH
  have HQ:=am_ (Option.some.inj h)
  clear h
  by_cases k1:k=1
  · subst k1
    rcases Bool.eq_false_or_eq_true r14 with q14|q14
    rotate_left
    · skip
      subst q14
      go_wp2_with (first|((with_reducible refine gate_dst (N:=5) rfl ?_);refine bx_ (N:=5) (cs:=#[.slice none 0 0, .string ⟨#[]⟩, .string ⟨#[]⟩, .int .i64 0, .int .i64 0, .int .i64 0, .int .i64 0, .int .i64 0, .int .i64 0, .int .i64 0, .int .i64 0, .int .i64 0, .int .i64 0, .bool false]) (t:=142) ?_;intro gb5 hg w5 hbox hb;have NE:=am_ (show gb3≠gb5 from by have:=blk_lt BK3.out;rw [hg];exact Nat.ne_of_lt this);replace BK3:=am_ (blk_below BK3.out hb);have BK5:=am_ (hbox);have GE5:=am_ ((by rw [hg];exact below_size HB.out:w.heap.size≤gb5));replace HB:=am_ (below_step HB.out hb);have EQ5:=am_ (hg);clear hb hbox hg)|((with_reducible refine gate_store (t:=142) (p:=5) (v:= .tmp 9) rfl ?_);refine store_all BK5.out 142 (.tmp 5) (.tmp 9) rfl rfl rfl (.agg #[.slice A l.length c, .string r2, .string r3, .int .i64 r4, .int .i64 r5, .int .i64 r6, .int .i64 r7, .int .i64 r8, .int .i64 r9, .int .i64 r10, .int .i64 r11, .int .i64 r12, .int .i64 r13, .bool false]) [.slice A l.length c, .string r2, .string r3, .int .i64 r4, .int .i64 r5, .int .i64 r6, .int .i64 r7, .int .i64 r8, .int .i64 r9, .int .i64 r10, .int .i64 r11, .int .i64 r12, .int .i64 r13, .bool false] rfl rfl rfl (by kernel_rfl) rfl (by intro q hq;simp only [List.mem_cons,List.not_mem_nil,or_false] at hq;rcases hq with rfl|rfl|rfl|rfl|rfl|rfl|rfl|rfl|rfl|rfl|rfl|rfl|rfl|rfl<;>rfl) ?_;intro w6 hbk hg;replace BK3:=am_ (blk_put_other BK3.out hg (NE.out));replace HB:=am_ (below_put HB.out (below_size HB.out) hg GE5.out);replace BK5:=am_ (hbk);clear hbk hg;have cgb5_0:=(blk_cell BK5.out 0).trans rfl;have cgb5_1:=(blk_cell BK5.out 1).trans rfl;have cgb5_2:=(blk_cell BK5.out 2).trans rfl;have cgb5_3:=(blk_cell BK5.out 3).trans rfl;have cgb5_4:=(blk_cell BK5.out 4).trans rfl;have cgb5_5:=(blk_cell BK5.out 5).trans rfl;have cgb5_6:=(blk_cell BK5.out 6).trans rfl;have cgb5_7:=(blk_cell BK5.out 7).trans rfl;have cgb5_8:=(blk_cell BK5.out 8).trans rfl;have cgb5_9:=(blk_cell BK5.out 9).trans rfl;have cgb5_10:=(blk_cell BK5.out 10).trans rfl;have cgb5_11:=(blk_cell BK5.out 11).trans rfl;have cgb5_12:=(blk_cell BK5.out 12).trans rfl;have cgb5_13:=(blk_cell BK5.out 13).trans rfl;have cgb3_0:=(blk_cell BK3.out 0).trans rfl;have cgb3_1:=(blk_cell BK3.out 1).trans rfl;have cgb3_2:=(blk_cell BK3.out 2).trans rfl;have cgb3_3:=(blk_cell BK3.out 3).trans rfl;have cgb3_4:=(blk_cell BK3.out 4).trans rfl;have cgb3_5:=(blk_cell BK3.out 5).trans rfl))
      go_ret
      exact ⟨by rw [←HQ.out];simp [*],HB.out⟩
    by_cases c1:r3.toList=p.toList
    · have c1b : (r3.toList == p.toList) = true := beq_iff_eq.mpr c1
      subst q14
      go_wp2_with (first|((with_reducible refine gate_dst (N:=5) rfl ?_);refine bx_ (N:=5) (cs:=#[.slice none 0 0, .string ⟨#[]⟩, .string ⟨#[]⟩, .int .i64 0, .int .i64 0, .int .i64 0, .int .i64 0, .int .i64 0, .int .i64 0, .int .i64 0, .int .i64 0, .int .i64 0, .int .i64 0, .bool false]) (t:=142) ?_;intro gb5 hg w5 hbox hb;have NE:=am_ (show gb3≠gb5 from by have:=blk_lt BK3.out;rw [hg];exact Nat.ne_of_lt this);replace BK3:=am_ (blk_below BK3.out hb);have BK5:=am_ (hbox);have GE5:=am_ ((by rw [hg];exact below_size HB.out:w.heap.size≤gb5));replace HB:=am_ (below_step HB.out hb);have EQ5:=am_ (hg);clear hb hbox hg)|((with_reducible refine gate_store (t:=142) (p:=5) (v:= .tmp 9) rfl ?_);refine store_all BK5.out 142 (.tmp 5) (.tmp 9) rfl rfl rfl (.agg #[.slice A l.length c, .string r2, .string r3, .int .i64 r4, .int .i64 r5, .int .i64 r6, .int .i64 r7, .int .i64 r8, .int .i64 r9, .int .i64 r10, .int .i64 r11, .int .i64 r12, .int .i64 r13, .bool true]) [.slice A l.length c, .string r2, .string r3, .int .i64 r4, .int .i64 r5, .int .i64 r6, .int .i64 r7, .int .i64 r8, .int .i64 r9, .int .i64 r10, .int .i64 r11, .int .i64 r12, .int .i64 r13, .bool true] rfl rfl rfl (by kernel_rfl) rfl (by intro q hq;simp only [List.mem_cons,List.not_mem_nil,or_false] at hq;rcases hq with rfl|rfl|rfl|rfl|rfl|rfl|rfl|rfl|rfl|rfl|rfl|rfl|rfl|rfl<;>rfl) ?_;intro w6 hbk hg;replace BK3:=am_ (blk_put_other BK3.out hg (NE.out));replace HB:=am_ (below_put HB.out (below_size HB.out) hg GE5.out);replace BK5:=am_ (hbk);clear hbk hg;have cgb5_0:=(blk_cell BK5.out 0).trans rfl;have cgb5_1:=(blk_cell BK5.out 1).trans rfl;have cgb5_2:=(blk_cell BK5.out 2).trans rfl;have cgb5_3:=(blk_cell BK5.out 3).trans rfl;have cgb5_4:=(blk_cell BK5.out 4).trans rfl;have cgb5_5:=(blk_cell BK5.out 5).trans rfl;have cgb5_6:=(blk_cell BK5.out 6).trans rfl;have cgb5_7:=(blk_cell BK5.out 7).trans rfl;have cgb5_8:=(blk_cell BK5.out 8).trans rfl;have cgb5_9:=(blk_cell BK5.out 9).trans rfl;have cgb5_10:=(blk_cell BK5.out 10).trans rfl;have cgb5_11:=(blk_cell BK5.out 11).trans rfl;have cgb5_12:=(blk_cell BK5.out 12).trans rfl;have cgb5_13:=(blk_cell BK5.out 13).trans rfl;have cgb3_0:=(blk_cell BK3.out 0).trans rfl;have cgb3_1:=(blk_cell BK3.out 1).trans rfl;have cgb3_2:=(blk_cell BK3.out 2).trans rfl;have cgb3_3:=(blk_cell BK3.out 3).trans rfl;have cgb3_4:=(blk_cell BK3.out 4).trans rfl;have cgb3_5:=(blk_cell BK3.out 5).trans rfl))
      go_ret
      exact ⟨by rw [←HQ.out];simp [*],HB.out⟩
    have c1b:(r3.toList==p.toList)=false:=beq_eq_false_iff_ne.mpr c1
    subst q14
    go_wp2_with (first|((with_reducible refine gate_dst (N:=5) rfl ?_);refine bx_ (N:=5) (cs:=#[.slice none 0 0, .string ⟨#[]⟩, .string ⟨#[]⟩, .int .i64 0, .int .i64 0, .int .i64 0, .int .i64 0, .int .i64 0, .int .i64 0, .int .i64 0, .int .i64 0, .int .i64 0, .int .i64 0, .bool false]) (t:=142) ?_;intro gb5 hg w5 hbox hb;have NE:=am_ (show gb3≠gb5 from by have:=blk_lt BK3.out;rw [hg];exact Nat.ne_of_lt this);replace BK3:=am_ (blk_below BK3.out hb);have BK5:=am_ (hbox);have GE5:=am_ ((by rw [hg];exact below_size HB.out:w.heap.size≤gb5));replace HB:=am_ (below_step HB.out hb);have EQ5:=am_ (hg);clear hb hbox hg)|((with_reducible refine gate_store (t:=142) (p:=5) (v:= .tmp 9) rfl ?_);refine store_all BK5.out 142 (.tmp 5) (.tmp 9) rfl rfl rfl (.agg #[.slice A l.length c, .string r2, .string r3, .int .i64 r4, .int .i64 r5, .int .i64 r6, .int .i64 r7, .int .i64 r8, .int .i64 r9, .int .i64 r10, .int .i64 r11, .int .i64 r12, .int .i64 r13, .bool true]) [.slice A l.length c, .string r2, .string r3, .int .i64 r4, .int .i64 r5, .int .i64 r6, .int .i64 r7, .int .i64 r8, .int .i64 r9, .int .i64 r10, .int .i64 r11, .int .i64 r12, .int .i64 r13, .bool true] rfl rfl rfl (by kernel_rfl) rfl (by intro q hq;simp only [List.mem_cons,List.not_mem_nil,or_false] at hq;rcases hq with rfl|rfl|rfl|rfl|rfl|rfl|rfl|rfl|rfl|rfl|rfl|rfl|rfl|rfl<;>rfl) ?_;intro w6 hbk hg;replace BK3:=am_ (blk_put_other BK3.out hg (NE.out));replace HB:=am_ (below_put HB.out (below_size HB.out) hg GE5.out);replace BK5:=am_ (hbk);clear hbk hg;have cgb5_0:=(blk_cell BK5.out 0).trans rfl;have cgb5_1:=(blk_cell BK5.out 1).trans rfl;have cgb5_2:=(blk_cell BK5.out 2).trans rfl;have cgb5_3:=(blk_cell BK5.out 3).trans rfl;have cgb5_4:=(blk_cell BK5.out 4).trans rfl;have cgb5_5:=(blk_cell BK5.out 5).trans rfl;have cgb5_6:=(blk_cell BK5.out 6).trans rfl;have cgb5_7:=(blk_cell BK5.out 7).trans rfl;have cgb5_8:=(blk_cell BK5.out 8).trans rfl;have cgb5_9:=(blk_cell BK5.out 9).trans rfl;have cgb5_10:=(blk_cell BK5.out 10).trans rfl;have cgb5_11:=(blk_cell BK5.out 11).trans rfl;have cgb5_12:=(blk_cell BK5.out 12).trans rfl;have cgb5_13:=(blk_cell BK5.out 13).trans rfl;have cgb3_0:=(blk_cell BK3.out 0).trans rfl;have cgb3_1:=(blk_cell BK3.out 1).trans rfl;have cgb3_2:=(blk_cell BK3.out 2).trans rfl;have cgb3_3:=(blk_cell BK3.out 3).trans rfl;have cgb3_4:=(blk_cell BK3.out 4).trans rfl;have cgb3_5:=(blk_cell BK3.out 5).trans rfl))
    go_ret
    exact ⟨by rw [←HQ.out];simp [*],HB.out⟩
  skip
  have k1b:(k==1)=false:=beq_eq_false_iff_ne.mpr k1
  by_cases k2:k=2
  · subst k2
    clear k1 k1b
    rcases Bool.eq_false_or_eq_true r14 with q14|q14
    · skip
      subst q14
      go_wp2_with (first|((with_reducible refine gate_dst (N:=5) rfl ?_);refine bx_ (N:=5) (cs:=#[.slice none 0 0, .string ⟨#[]⟩, .string ⟨#[]⟩, .int .i64 0, .int .i64 0, .int .i64 0, .int .i64 0, .int .i64 0, .int .i64 0, .int .i64 0, .int .i64 0, .int .i64 0, .int .i64 0, .bool false]) (t:=142) ?_;intro gb5 hg w5 hbox hb;have NE:=am_ (show gb3≠gb5 from by have:=blk_lt BK3.out;rw [hg];exact Nat.ne_of_lt this);replace BK3:=am_ (blk_below BK3.out hb);have BK5:=am_ (hbox);have GE5:=am_ ((by rw [hg];exact below_size HB.out:w.heap.size≤gb5));replace HB:=am_ (below_step HB.out hb);have EQ5:=am_ (hg);clear hb hbox hg)|((with_reducible refine gate_store (t:=142) (p:=5) (v:= .tmp 9) rfl ?_);refine store_all BK5.out 142 (.tmp 5) (.tmp 9) rfl rfl rfl (.agg #[.slice A l.length c, .string r2, .string r3, .int .i64 r4, .int .i64 r5, .int .i64 r6, .int .i64 r7, .int .i64 r8, .int .i64 r9, .int .i64 r10, .int .i64 r11, .int .i64 r12, .int .i64 r13, .bool true]) [.slice A l.length c, .string r2, .string r3, .int .i64 r4, .int .i64 r5, .int .i64 r6, .int .i64 r7, .int .i64 r8, .int .i64 r9, .int .i64 r10, .int .i64 r11, .int .i64 r12, .int .i64 r13, .bool true] rfl rfl rfl (by kernel_rfl) rfl (by intro q hq;simp only [List.mem_cons,List.not_mem_nil,or_false] at hq;rcases hq with rfl|rfl|rfl|rfl|rfl|rfl|rfl|rfl|rfl|rfl|rfl|rfl|rfl|rfl<;>rfl) ?_;intro w6 hbk hg;replace BK3:=am_ (blk_put_other BK3.out hg (NE.out));replace HB:=am_ (below_put HB.out (below_size HB.out) hg GE5.out);replace BK5:=am_ (hbk);clear hbk hg;have cgb5_0:=(blk_cell BK5.out 0).trans rfl;have cgb5_1:=(blk_cell BK5.out 1).trans rfl;have cgb5_2:=(blk_cell BK5.out 2).trans rfl;have cgb5_3:=(blk_cell BK5.out 3).trans rfl;have cgb5_4:=(blk_cell BK5.out 4).trans rfl;have cgb5_5:=(blk_cell BK5.out 5).trans rfl;have cgb5_6:=(blk_cell BK5.out 6).trans rfl;have cgb5_7:=(blk_cell BK5.out 7).trans rfl;have cgb5_8:=(blk_cell BK5.out 8).trans rfl;have cgb5_9:=(blk_cell BK5.out 9).trans rfl;have cgb5_10:=(blk_cell BK5.out 10).trans rfl;have cgb5_11:=(blk_cell BK5.out 11).trans rfl;have cgb5_12:=(blk_cell BK5.out 12).trans rfl;have cgb5_13:=(blk_cell BK5.out 13).trans rfl;have cgb3_0:=(blk_cell BK3.out 0).trans rfl;have cgb3_1:=(blk_cell BK3.out 1).trans rfl;have cgb3_2:=(blk_cell BK3.out 2).trans rfl;have cgb3_3:=(blk_cell BK3.out 3).trans rfl;have cgb3_4:=(blk_cell BK3.out 4).trans rfl;have cgb3_5:=(blk_cell BK3.out 5).trans rfl))
      go_ret
      exact ⟨by rw [←HQ.out];simp [*],HB.out⟩
    skip
    subst q14
    go_wp2_with (first|((with_reducible refine gate_dst (N:=5) rfl ?_);refine bx_ (N:=5) (cs:=#[.slice none 0 0, .string ⟨#[]⟩, .string ⟨#[]⟩, .int .i64 0, .int .i64 0, .int .i64 0, .int .i64 0, .int .i64 0, .int .i64 0, .int .i64 0, .int .i64 0, .int .i64 0, .int .i64 0, .bool false]) (t:=142) ?_;intro gb5 hg w5 hbox hb;have NE:=am_ (show gb3≠gb5 from by have:=blk_lt BK3.out;rw [hg];exact Nat.ne_of_lt this);replace BK3:=am_ (blk_below BK3.out hb);have BK5:=am_ (hbox);have GE5:=am_ ((by rw [hg];exact below_size HB.out:w.heap.size≤gb5));replace HB:=am_ (below_step HB.out hb);have EQ5:=am_ (hg);clear hb hbox hg)|((with_reducible refine gate_store (t:=142) (p:=5) (v:= .tmp 9) rfl ?_);refine store_all BK5.out 142 (.tmp 5) (.tmp 9) rfl rfl rfl (.agg #[.slice A l.length c, .string r2, .string r3, .int .i64 r4, .int .i64 r5, .int .i64 r6, .int .i64 r7, .int .i64 r8, .int .i64 r9, .int .i64 r10, .int .i64 r11, .int .i64 r12, .int .i64 r13, .bool false]) [.slice A l.length c, .string r2, .string r3, .int .i64 r4, .int .i64 r5, .int .i64 r6, .int .i64 r7, .int .i64 r8, .int .i64 r9, .int .i64 r10, .int .i64 r11, .int .i64 r12, .int .i64 r13, .bool false] rfl rfl rfl (by kernel_rfl) rfl (by intro q hq;simp only [List.mem_cons,List.not_mem_nil,or_false] at hq;rcases hq with rfl|rfl|rfl|rfl|rfl|rfl|rfl|rfl|rfl|rfl|rfl|rfl|rfl|rfl<;>rfl) ?_;intro w6 hbk hg;replace BK3:=am_ (blk_put_other BK3.out hg (NE.out));replace HB:=am_ (below_put HB.out (below_size HB.out) hg GE5.out);replace BK5:=am_ (hbk);clear hbk hg;have cgb5_0:=(blk_cell BK5.out 0).trans rfl;have cgb5_1:=(blk_cell BK5.out 1).trans rfl;have cgb5_2:=(blk_cell BK5.out 2).trans rfl;have cgb5_3:=(blk_cell BK5.out 3).trans rfl;have cgb5_4:=(blk_cell BK5.out 4).trans rfl;have cgb5_5:=(blk_cell BK5.out 5).trans rfl;have cgb5_6:=(blk_cell BK5.out 6).trans rfl;have cgb5_7:=(blk_cell BK5.out 7).trans rfl;have cgb5_8:=(blk_cell BK5.out 8).trans rfl;have cgb5_9:=(blk_cell BK5.out 9).trans rfl;have cgb5_10:=(blk_cell BK5.out 10).trans rfl;have cgb5_11:=(blk_cell BK5.out 11).trans rfl;have cgb5_12:=(blk_cell BK5.out 12).trans rfl;have cgb5_13:=(blk_cell BK5.out 13).trans rfl;have cgb3_0:=(blk_cell BK3.out 0).trans rfl;have cgb3_1:=(blk_cell BK3.out 1).trans rfl;have cgb3_2:=(blk_cell BK3.out 2).trans rfl;have cgb3_3:=(blk_cell BK3.out 3).trans rfl;have cgb3_4:=(blk_cell BK3.out 4).trans rfl;have cgb3_5:=(blk_cell BK3.out 5).trans rfl))
    go_ret
    exact ⟨by rw [←HQ.out];simp [*],HB.out⟩
  skip
  have k2b:(k==2)=false:=beq_eq_false_iff_ne.mpr k2
  by_cases k3:k=3
  · subst k3
    clear k1 k2 k1b k2b
    rcases Bool.eq_false_or_eq_true r14 with q14|q14
    · skip
      subst q14
      go_wp2_with (first|((with_reducible refine gate_dst (N:=5) rfl ?_);refine bx_ (N:=5) (cs:=#[.slice none 0 0, .string ⟨#[]⟩, .string ⟨#[]⟩, .int .i64 0, .int .i64 0, .int .i64 0, .int .i64 0, .int .i64 0, .int .i64 0, .int .i64 0, .int .i64 0, .int .i64 0, .int .i64 0, .bool false]) (t:=142) ?_;intro gb5 hg w5 hbox hb;have NE:=am_ (show gb3≠gb5 from by have:=blk_lt BK3.out;rw [hg];exact Nat.ne_of_lt this);replace BK3:=am_ (blk_below BK3.out hb);have BK5:=am_ (hbox);have GE5:=am_ ((by rw [hg];exact below_size HB.out:w.heap.size≤gb5));replace HB:=am_ (below_step HB.out hb);have EQ5:=am_ (hg);clear hb hbox hg)|((with_reducible refine gate_store (t:=142) (p:=5) (v:= .tmp 9) rfl ?_);refine store_all BK5.out 142 (.tmp 5) (.tmp 9) rfl rfl rfl (.agg #[.slice A l.length c, .string r2, .string r3, .int .i64 r4, .int .i64 r5, .int .i64 r6, .int .i64 r7, .int .i64 r8, .int .i64 r9, .int .i64 r10, .int .i64 r11, .int .i64 r12, .int .i64 r13, .bool true]) [.slice A l.length c, .string r2, .string r3, .int .i64 r4, .int .i64 r5, .int .i64 r6, .int .i64 r7, .int .i64 r8, .int .i64 r9, .int .i64 r10, .int .i64 r11, .int .i64 r12, .int .i64 r13, .bool true] rfl rfl rfl (by kernel_rfl) rfl (by intro q hq;simp only [List.mem_cons,List.not_mem_nil,or_false] at hq;rcases hq with rfl|rfl|rfl|rfl|rfl|rfl|rfl|rfl|rfl|rfl|rfl|rfl|rfl|rfl<;>rfl) ?_;intro w6 hbk hg;replace BK3:=am_ (blk_put_other BK3.out hg (NE.out));replace HB:=am_ (below_put HB.out (below_size HB.out) hg GE5.out);replace BK5:=am_ (hbk);clear hbk hg;have cgb5_0:=(blk_cell BK5.out 0).trans rfl;have cgb5_1:=(blk_cell BK5.out 1).trans rfl;have cgb5_2:=(blk_cell BK5.out 2).trans rfl;have cgb5_3:=(blk_cell BK5.out 3).trans rfl;have cgb5_4:=(blk_cell BK5.out 4).trans rfl;have cgb5_5:=(blk_cell BK5.out 5).trans rfl;have cgb5_6:=(blk_cell BK5.out 6).trans rfl;have cgb5_7:=(blk_cell BK5.out 7).trans rfl;have cgb5_8:=(blk_cell BK5.out 8).trans rfl;have cgb5_9:=(blk_cell BK5.out 9).trans rfl;have cgb5_10:=(blk_cell BK5.out 10).trans rfl;have cgb5_11:=(blk_cell BK5.out 11).trans rfl;have cgb5_12:=(blk_cell BK5.out 12).trans rfl;have cgb5_13:=(blk_cell BK5.out 13).trans rfl;have cgb3_0:=(blk_cell BK3.out 0).trans rfl;have cgb3_1:=(blk_cell BK3.out 1).trans rfl;have cgb3_2:=(blk_cell BK3.out 2).trans rfl;have cgb3_3:=(blk_cell BK3.out 3).trans rfl;have cgb3_4:=(blk_cell BK3.out 4).trans rfl;have cgb3_5:=(blk_cell BK3.out 5).trans rfl))
      go_ret
      exact ⟨by rw [←HQ.out];simp [*],HB.out⟩
    skip
    subst q14
    go_wp2_with (first|((with_reducible refine gate_dst (N:=5) rfl ?_);refine bx_ (N:=5) (cs:=#[.slice none 0 0, .string ⟨#[]⟩, .string ⟨#[]⟩, .int .i64 0, .int .i64 0, .int .i64 0, .int .i64 0, .int .i64 0, .int .i64 0, .int .i64 0, .int .i64 0, .int .i64 0, .int .i64 0, .bool false]) (t:=142) ?_;intro gb5 hg w5 hbox hb;have NE:=am_ (show gb3≠gb5 from by have:=blk_lt BK3.out;rw [hg];exact Nat.ne_of_lt this);replace BK3:=am_ (blk_below BK3.out hb);have BK5:=am_ (hbox);have GE5:=am_ ((by rw [hg];exact below_size HB.out:w.heap.size≤gb5));replace HB:=am_ (below_step HB.out hb);have EQ5:=am_ (hg);clear hb hbox hg)|((with_reducible refine gate_store (t:=142) (p:=5) (v:= .tmp 9) rfl ?_);refine store_all BK5.out 142 (.tmp 5) (.tmp 9) rfl rfl rfl (.agg #[.slice A l.length c, .string r2, .string r3, .int .i64 r4, .int .i64 r5, .int .i64 r6, .int .i64 r7, .int .i64 r8, .int .i64 r9, .int .i64 r10, .int .i64 r11, .int .i64 r12, .int .i64 r13, .bool false]) [.slice A l.length c, .string r2, .string r3, .int .i64 r4, .int .i64 r5, .int .i64 r6, .int .i64 r7, .int .i64 r8, .int .i64 r9, .int .i64 r10, .int .i64 r11, .int .i64 r12, .int .i64 r13, .bool false] rfl rfl rfl (by kernel_rfl) rfl (by intro q hq;simp only [List.mem_cons,List.not_mem_nil,or_false] at hq;rcases hq with rfl|rfl|rfl|rfl|rfl|rfl|rfl|rfl|rfl|rfl|rfl|rfl|rfl|rfl<;>rfl) ?_;intro w6 hbk hg;replace BK3:=am_ (blk_put_other BK3.out hg (NE.out));replace HB:=am_ (below_put HB.out (below_size HB.out) hg GE5.out);replace BK5:=am_ (hbk);clear hbk hg;have cgb5_0:=(blk_cell BK5.out 0).trans rfl;have cgb5_1:=(blk_cell BK5.out 1).trans rfl;have cgb5_2:=(blk_cell BK5.out 2).trans rfl;have cgb5_3:=(blk_cell BK5.out 3).trans rfl;have cgb5_4:=(blk_cell BK5.out 4).trans rfl;have cgb5_5:=(blk_cell BK5.out 5).trans rfl;have cgb5_6:=(blk_cell BK5.out 6).trans rfl;have cgb5_7:=(blk_cell BK5.out 7).trans rfl;have cgb5_8:=(blk_cell BK5.out 8).trans rfl;have cgb5_9:=(blk_cell BK5.out 9).trans rfl;have cgb5_10:=(blk_cell BK5.out 10).trans rfl;have cgb5_11:=(blk_cell BK5.out 11).trans rfl;have cgb5_12:=(blk_cell BK5.out 12).trans rfl;have cgb5_13:=(blk_cell BK5.out 13).trans rfl;have cgb3_0:=(blk_cell BK3.out 0).trans rfl;have cgb3_1:=(blk_cell BK3.out 1).trans rfl;have cgb3_2:=(blk_cell BK3.out 2).trans rfl;have cgb3_3:=(blk_cell BK3.out 3).trans rfl;have cgb3_4:=(blk_cell BK3.out 4).trans rfl;have cgb3_5:=(blk_cell BK3.out 5).trans rfl))
    go_ret
    exact ⟨by rw [←HQ.out];simp [*],HB.out⟩
  skip
  have k3b:(k==3)=false:=beq_eq_false_iff_ne.mpr k3
  by_cases k4:k=4
  · subst k4
    clear k1 k2 k3 k1b k2b k3b
    go_wp2_with (first|((with_reducible refine gate_dst (N:=5) rfl ?_);refine bx_ (N:=5) (cs:=#[.slice none 0 0, .string ⟨#[]⟩, .string ⟨#[]⟩, .int .i64 0, .int .i64 0, .int .i64 0, .int .i64 0, .int .i64 0, .int .i64 0, .int .i64 0, .int .i64 0, .int .i64 0, .int .i64 0, .bool false]) (t:=142) ?_;intro gb5 hg w5 hbox hb;have NE:=am_ (show gb3≠gb5 from by have:=blk_lt BK3.out;rw [hg];exact Nat.ne_of_lt this);replace BK3:=am_ (blk_below BK3.out hb);have BK5:=am_ (hbox);have GE5:=am_ ((by rw [hg];exact below_size HB.out:w.heap.size≤gb5));replace HB:=am_ (below_step HB.out hb);have EQ5:=am_ (hg);clear hb hbox hg)|((with_reducible refine gate_store (t:=142) (p:=5) (v:= .tmp 9) rfl ?_);refine store_all BK5.out 142 (.tmp 5) (.tmp 9) rfl rfl rfl (.agg #[.slice A l.length c, .string r2, .string r3, .int .i64 r4, .int .i64 r5, .int .i64 r6, .int .i64 r7, .int .i64 r8, .int .i64 r9, .int .i64 r10, .int .i64 r11, .int .i64 r12, .int .i64 r13, .bool r14]) [.slice A l.length c, .string r2, .string r3, .int .i64 r4, .int .i64 r5, .int .i64 r6, .int .i64 r7, .int .i64 r8, .int .i64 r9, .int .i64 r10, .int .i64 r11, .int .i64 r12, .int .i64 r13, .bool r14] rfl rfl rfl (by kernel_rfl) rfl (by intro q hq;simp only [List.mem_cons,List.not_mem_nil,or_false] at hq;rcases hq with rfl|rfl|rfl|rfl|rfl|rfl|rfl|rfl|rfl|rfl|rfl|rfl|rfl|rfl<;>rfl) ?_;intro w6 hbk hg;replace BK3:=am_ (blk_put_other BK3.out hg (NE.out));replace HB:=am_ (below_put HB.out (below_size HB.out) hg GE5.out);replace BK5:=am_ (hbk);clear hbk hg;have cgb5_0:=(blk_cell BK5.out 0).trans rfl;have cgb5_1:=(blk_cell BK5.out 1).trans rfl;have cgb5_2:=(blk_cell BK5.out 2).trans rfl;have cgb5_3:=(blk_cell BK5.out 3).trans rfl;have cgb5_4:=(blk_cell BK5.out 4).trans rfl;have cgb5_5:=(blk_cell BK5.out 5).trans rfl;have cgb5_6:=(blk_cell BK5.out 6).trans rfl;have cgb5_7:=(blk_cell BK5.out 7).trans rfl;have cgb5_8:=(blk_cell BK5.out 8).trans rfl;have cgb5_9:=(blk_cell BK5.out 9).trans rfl;have cgb5_10:=(blk_cell BK5.out 10).trans rfl;have cgb5_11:=(blk_cell BK5.out 11).trans rfl;have cgb5_12:=(blk_cell BK5.out 12).trans rfl;have cgb5_13:=(blk_cell BK5.out 13).trans rfl;have cgb3_0:=(blk_cell BK3.out 0).trans rfl;have cgb3_1:=(blk_cell BK3.out 1).trans rfl;have cgb3_2:=(blk_cell BK3.out 2).trans rfl;have cgb3_3:=(blk_cell BK3.out 3).trans rfl;have cgb3_4:=(blk_cell BK3.out 4).trans rfl;have cgb3_5:=(blk_cell BK3.out 5).trans rfl))
    go_ret
    exact ⟨by rw [←HQ.out];rfl,HB.out⟩
  skip
  have k4b:(k==4)=false:=beq_eq_false_iff_ne.mpr k4
  go_wp2_with (first|((with_reducible refine gate_dst (N:=5) rfl ?_);refine bx_ (N:=5) (cs:=#[.slice none 0 0, .string ⟨#[]⟩, .string ⟨#[]⟩, .int .i64 0, .int .i64 0, .int .i64 0, .int .i64 0, .int .i64 0, .int .i64 0, .int .i64 0, .int .i64 0, .int .i64 0, .int .i64 0, .bool false]) (t:=142) ?_;intro gb5 hg w5 hbox hb;have NE:=am_ (show gb3≠gb5 from by have:=blk_lt BK3.out;rw [hg];exact Nat.ne_of_lt this);replace BK3:=am_ (blk_below BK3.out hb);have BK5:=am_ (hbox);have GE5:=am_ ((by rw [hg];exact below_size HB.out:w.heap.size≤gb5));replace HB:=am_ (below_step HB.out hb);have EQ5:=am_ (hg);clear hb hbox hg)|((with_reducible refine gate_store (t:=142) (p:=5) (v:= .tmp 9) rfl ?_);refine store_all BK5.out 142 (.tmp 5) (.tmp 9) rfl rfl rfl (.agg #[.slice A l.length c, .string r2, .string r3, .int .i64 r4, .int .i64 r5, .int .i64 r6, .int .i64 r7, .int .i64 r8, .int .i64 r9, .int .i64 r10, .int .i64 r11, .int .i64 r12, .int .i64 r13, .bool r14]) [.slice A l.length c, .string r2, .string r3, .int .i64 r4, .int .i64 r5, .int .i64 r6, .int .i64 r7, .int .i64 r8, .int .i64 r9, .int .i64 r10, .int .i64 r11, .int .i64 r12, .int .i64 r13, .bool r14] rfl rfl rfl (by kernel_rfl) rfl (by intro q hq;simp only [List.mem_cons,List.not_mem_nil,or_false] at hq;rcases hq with rfl|rfl|rfl|rfl|rfl|rfl|rfl|rfl|rfl|rfl|rfl|rfl|rfl|rfl<;>rfl) ?_;intro w6 hbk hg;replace BK3:=am_ (blk_put_other BK3.out hg (NE.out));replace HB:=am_ (below_put HB.out (below_size HB.out) hg GE5.out);replace BK5:=am_ (hbk);clear hbk hg;have cgb5_0:=(blk_cell BK5.out 0).trans rfl;have cgb5_1:=(blk_cell BK5.out 1).trans rfl;have cgb5_2:=(blk_cell BK5.out 2).trans rfl;have cgb5_3:=(blk_cell BK5.out 3).trans rfl;have cgb5_4:=(blk_cell BK5.out 4).trans rfl;have cgb5_5:=(blk_cell BK5.out 5).trans rfl;have cgb5_6:=(blk_cell BK5.out 6).trans rfl;have cgb5_7:=(blk_cell BK5.out 7).trans rfl;have cgb5_8:=(blk_cell BK5.out 8).trans rfl;have cgb5_9:=(blk_cell BK5.out 9).trans rfl;have cgb5_10:=(blk_cell BK5.out 10).trans rfl;have cgb5_11:=(blk_cell BK5.out 11).trans rfl;have cgb5_12:=(blk_cell BK5.out 12).trans rfl;have cgb5_13:=(blk_cell BK5.out 13).trans rfl;have cgb3_0:=(blk_cell BK3.out 0).trans rfl;have cgb3_1:=(blk_cell BK3.out 1).trans rfl;have cgb3_2:=(blk_cell BK3.out 2).trans rfl;have cgb3_3:=(blk_cell BK3.out 3).trans rfl;have cgb3_4:=(blk_cell BK3.out 4).trans rfl;have cgb3_5:=(blk_cell BK3.out 5).trans rfl))
  go_ret
  exact ⟨by rw [←HQ.out];simp [*],HB.out⟩


attribute [local go_sem high] eqA27
def r16_Holds.f (k:Nat) (l0:List (S31)) (a1_0:Int) (a1_1:ByteArray) (a1_2:ByteArray) (a1_3:Int) (a1_4:Int) (a1_5:Int):Option (Bool):=(r10_Find.f k l0 a1_1).bind fun t2=>(if a1_0=1 then (if t2≥0 then (if 0≤t2 then (if t2<(l0.length:Int) then (if ((rd_T31 l0 t2).f1).toList=a1_2.toList then (some (((rd_T31 l0 t2).f2.f0)==a1_3 && (((rd_T31 l0 t2).f2.f1)==a1_4 && (((rd_T31 l0 t2).f2.f2)==a1_5)))) else (some false)) else (none)) else (none)) else (some false)) else (if a1_0=2 then (if t2≥0 then (if 0≤t2 then (if t2<(l0.length:Int) then (some (((rd_T31 l0 t2).f2.f0)==a1_3 && (((rd_T31 l0 t2).f2.f1)==a1_4 && (((rd_T31 l0 t2).f2.f2)==a1_5)))) else (none)) else (none)) else (some false)) else (if a1_0=3 then (if t2≥0 then (if 0≤t2 then (if t2<(l0.length:Int) then (some (((rd_T31 l0 t2).f1).toList==a1_2.toList)) else (none)) else (none)) else (some false)) else (if a1_0=4 then (some (decide (t2<0))) else (some false)))))
theorem r16_Holds.mono: ∀a0 a1 a2 a3 a4 a5 a6 k,LeO (r16_Holds.f k a0 a1 a2 a3 a4 a5 a6) (r16_Holds.f (k+1) a0 a1 a2 a3 a4 a5 a6):=by
 intro a0 a1 a2 a3 a4 a5 a6 k
 unfold r16_Holds.f
 repeat' first
  |(with_reducible exact r10_Find.mono _ _ _)
  |(with_reducible exact LeO.refl _)
  |(with_reducible exact LeO.none _)
  |(with_reducible refine LeO.ite ?_ ?_)
  |(with_reducible refine LeO.bind ?_ (fun _=> ?_))
  |exact r10_Find.mono _ _ _
  |exact LeO.none _
  |refine LeO.ite ?_ ?_
  |refine LeO.bind ?_ (fun _=> ?_)
set_option maxHeartbeats 8000000 in
set_option maxRecDepth 100000 in
theorem r16_Holds.calls (k:Nat) (A0:Option Addr) (c0:Nat) (l0:List (S31)) (a1_0:Int) (a1_1:ByteArray) (a1_2:ByteArray) (a1_3:Int) (a1_4:Int) (a1_5:Int) (r:Bool) (w:World) (hr0:Kd.C k31 w A0 l0.length l0) (hc0:l0.length≤c0) (h:r16_Holds.f k l0 a1_0 a1_1 a1_2 a1_3 a1_4 a1_5=some r):
  Calls Try.prog 53 #[.slice A0 l0.length c0, .agg #[.int .i64 a1_0, .string a1_1, .string a1_2, .int .i64 a1_3, .int .i64 a1_4, .int .i64 a1_5]] w fun e w'=>e= .returned (.bool r)∧Below w.heap.size w w':=by
 have hu58:=Try.underlying58
 have hu27:=Try.underlying27
 have HR0:=Aside0.mk hr0
 have HC0:=Aside0.mk hc0
 clear hr0 hc0
 have HB:=am_ (Below.refl w.heap.size w)
 have H:((r10_Find.f k l0 a1_1).bind fun t2=>(if a1_0=1 then (if t2≥0 then (if 0≤t2 then (if t2<(l0.length:Int) then (if ((rd_T31 l0 t2).f1).toList=a1_2.toList then (some (((rd_T31 l0 t2).f2.f0)==a1_3 && (((rd_T31 l0 t2).f2.f1)==a1_4 && (((rd_T31 l0 t2).f2.f2)==a1_5)))) else (some false)) else (none)) else (none)) else (some false)) else (if a1_0=2 then (if t2≥0 then (if 0≤t2 then (if t2<(l0.length:Int) then (some (((rd_T31 l0 t2).f2.f0)==a1_3 && (((rd_T31 l0 t2).f2.f1)==a1_4 && (((rd_T31 l0 t2).f2.f2)==a1_5)))) else (none)) else (none)) else (some false)) else (if a1_0=3 then (if t2≥0 then (if 0≤t2 then (if t2<(l0.length:Int) then (some (((rd_T31 l0 t2).f1).toList==a1_2.toList)) else (none)) else (none)) else (some false)) else (if a1_0=4 then (some (decide (t2<0))) else (some false))))))=some r:=h
 clear h
 replace H:=Option.bind_eq_some_iff.mp H
 obtain ⟨t2,A30,H⟩:=H
 try dsimp only at H
 have A3:=Aside0.mk A30
 clear A30
 by_cases c4:a1_0=1
 ·rw [if_pos c4] at H
  have c4b0:(a1_0==1)=true:=beq_iff_eq.mpr c4
  have c4b1:(a1_0 !=1)=false:=bne_eq_false_iff_eq.mpr c4
  clear c4
  by_cases c5:t2≥0
  rotate_left
  ·rw [if_neg c5] at H
   have c5b0:decide (0≤t2)=false:=decide_eq_false c5
   clear c5
   obtain rfl:=Option.some.inj H
   go_enter Try.func53,Try.ntmps53
   go_wp2_with (first|((with_reducible refine gate_dst (N:=3) rfl ?_);refine bx_ (N:=3) (cs:=#[.int .i64 a1_0, .string a1_1, .string a1_2, .int .i64 a1_3, .int .i64 a1_4, .int .i64 a1_5]) (t:=58) ?_;intro gb1 hg w13 hbox hb;have BK1:=am_ (hbox);have GW1:=am_ ((zg0_ HB hg:w.heap.size≤gb1));have GE1:=am_ ((zg0_ HB hg:w.heap.size≤gb1));replace HB:=am_ (below_step (zl0_ HB) hb);clear hb hbox hg;obtain ⟨hcz14_0,hcz14_1,hcz14_2,hcz14_3,hcz14_4,hcz14_5⟩:=x6_ BK1;have hfz14_0:=blk_frozen BK1.out 0;have hfz14_1:=blk_frozen BK1.out 1;have hfz14_2:=blk_frozen BK1.out 2;have hfz14_3:=blk_frozen BK1.out 3;have hfz14_4:=blk_frozen BK1.out 4;have hfz14_5:=blk_frozen BK1.out 5)|(go_at_call 50;(with_reducible refine (r10_Find.calls k _ _ l0 a1_1 t2 _ ?side1 ?side2 A3.out).mono ?_);(case side1=>exact zc_ (Kd.C_below HR0.out HB.out));(case side2=>exact HC0.out);rintro e w' ⟨rfl,⟨nd,rfl⟩⟩;(try first|exact ⟨rfl,_,World.drewN_drewN _ _ _⟩|exact ⟨rfl,_,Eq.trans (World.drewN_drewN _ _ _) (congrArg (World.drewN _) (Nat.add_assoc _ _ _))⟩)))
   repeat (go_quiet (first|((with_reducible refine gate_dst (N:=3) rfl ?_);refine bx_ (N:=3) (cs:=#[.int .i64 a1_0, .string a1_1, .string a1_2, .int .i64 a1_3, .int .i64 a1_4, .int .i64 a1_5]) (t:=58) ?_;intro gb1 hg w13 hbox hb;have BK1:=am_ (hbox);have GW1:=am_ ((zg0_ HB hg:w.heap.size≤gb1));have GE1:=am_ ((zg0_ HB hg:w.heap.size≤gb1));replace HB:=am_ (below_step (zl0_ HB) hb);clear hb hbox hg;obtain ⟨hcz14_0,hcz14_1,hcz14_2,hcz14_3,hcz14_4,hcz14_5⟩:=x6_ BK1;have hfz14_0:=blk_frozen BK1.out 0;have hfz14_1:=blk_frozen BK1.out 1;have hfz14_2:=blk_frozen BK1.out 2;have hfz14_3:=blk_frozen BK1.out 3;have hfz14_4:=blk_frozen BK1.out 4;have hfz14_5:=blk_frozen BK1.out 5)|(go_at_call 50;(with_reducible refine (r10_Find.calls k _ _ l0 a1_1 t2 _ ?side1 ?side2 A3.out).mono ?_);(case side1=>exact zc_ (Kd.C_below HR0.out HB.out));(case side2=>exact HC0.out);rintro e w' ⟨rfl,⟨nd,rfl⟩⟩;(try first|exact ⟨rfl,_,World.drewN_drewN _ _ _⟩|exact ⟨rfl,_,Eq.trans (World.drewN_drewN _ _ _) (congrArg (World.drewN _) (Nat.add_assoc _ _ _))⟩)));try go_wp2_with (first|((with_reducible refine gate_dst (N:=3) rfl ?_);refine bx_ (N:=3) (cs:=#[.int .i64 a1_0, .string a1_1, .string a1_2, .int .i64 a1_3, .int .i64 a1_4, .int .i64 a1_5]) (t:=58) ?_;intro gb1 hg w13 hbox hb;have BK1:=am_ (hbox);have GW1:=am_ ((zg0_ HB hg:w.heap.size≤gb1));have GE1:=am_ ((zg0_ HB hg:w.heap.size≤gb1));replace HB:=am_ (below_step (zl0_ HB) hb);clear hb hbox hg;obtain ⟨hcz14_0,hcz14_1,hcz14_2,hcz14_3,hcz14_4,hcz14_5⟩:=x6_ BK1;have hfz14_0:=blk_frozen BK1.out 0;have hfz14_1:=blk_frozen BK1.out 1;have hfz14_2:=blk_frozen BK1.out 2;have hfz14_3:=blk_frozen BK1.out 3;have hfz14_4:=blk_frozen BK1.out 4;have hfz14_5:=blk_frozen BK1.out 5)|(go_at_call 50;(with_reducible refine (r10_Find.calls k _ _ l0 a1_1 t2 _ ?side1 ?side2 A3.out).mono ?_);(case side1=>exact zc_ (Kd.C_below HR0.out HB.out));(case side2=>exact HC0.out);rintro e w' ⟨rfl,⟨nd,rfl⟩⟩;(try first|exact ⟨rfl,_,World.drewN_drewN _ _ _⟩|exact ⟨rfl,_,Eq.trans (World.drewN_drewN _ _ _) (congrArg (World.drewN _) (Nat.add_assoc _ _ _))⟩))))
   go_ret
   exact ⟨by first|rfl|(simp [errW_none,errW_some]<;>rfl)|(simp [*,errW_none,errW_some]<;>rfl),zl1_ HB GE1⟩
  rw [if_pos c5] at H
  have c5b0:decide (0≤t2)=true:=decide_eq_true c5
  clear c5
  by_cases c6:0≤t2
  rotate_left
  ·rw [if_neg c6] at H
   exact absurd H (by simp)
  rw [if_pos c6] at H
  have c6b0:decide (0≤t2)=true:=decide_eq_true c6
  clear c6
  by_cases c7:t2<(l0.length:Int)
  rotate_left
  ·rw [if_neg c7] at H
   exact absurd H (by simp)
  rw [if_pos c7] at H
  have c7b0:decide (t2<(l0.length:Int))=true:=decide_eq_true c7
  clear c7
  by_cases c8:((rd_T31 l0 t2).f1).toList=a1_2.toList
  ·rw [if_pos c8] at H
   have c8b0:(((rd_T31 l0 t2).f1).toList==a1_2.toList)=true:=beq_iff_eq.mpr c8
   have c8b1:(((rd_T31 l0 t2).f1).toList !=a1_2.toList)=false:=bne_eq_false_iff_eq.mpr c8
   clear c8
   obtain rfl:=Option.some.inj H
   go_enter Try.func53,Try.ntmps53
   go_wp2_with (first|((with_reducible refine gate_dst (N:=3) rfl ?_);refine bx_ (N:=3) (cs:=#[.int .i64 a1_0, .string a1_1, .string a1_2, .int .i64 a1_3, .int .i64 a1_4, .int .i64 a1_5]) (t:=58) ?_;intro gb1 hg w9 hbox hb;have BK1:=am_ (hbox);have GW1:=am_ ((zg0_ HB hg:w.heap.size≤gb1));have GE1:=am_ ((zg0_ HB hg:w.heap.size≤gb1));replace HB:=am_ (below_step (zl0_ HB) hb);clear hb hbox hg;obtain ⟨hcz10_0,hcz10_1,hcz10_2,hcz10_3,hcz10_4,hcz10_5⟩:=x6_ BK1;have hfz10_0:=blk_frozen BK1.out 0;have hfz10_1:=blk_frozen BK1.out 1;have hfz10_2:=blk_frozen BK1.out 2;have hfz10_3:=blk_frozen BK1.out 3;have hfz10_4:=blk_frozen BK1.out 4;have hfz10_5:=blk_frozen BK1.out 5)|(go_at_call 50;(with_reducible refine (r10_Find.calls k _ _ l0 a1_1 t2 _ ?side1 ?side2 A3.out).mono ?_);(case side1=>exact zc_ (Kd.C_below HR0.out HB.out));(case side2=>exact HC0.out);rintro e w' ⟨rfl,⟨nd,rfl⟩⟩;(try first|exact ⟨rfl,_,World.drewN_drewN _ _ _⟩|exact ⟨rfl,_,Eq.trans (World.drewN_drewN _ _ _) (congrArg (World.drewN _) (Nat.add_assoc _ _ _))⟩);have p3:0≤(t2:Int):=of_decide_eq_true zq_;have q3:t2<(l0.length:Int):=of_decide_eq_true zq_;obtain ⟨ad3,e3,hx3_0,hx3_1,hx3_2,hx3_3,hx3_4,hx3_5,hx3_6,hx3_7,hx3_8,hx3_9,hx3_10,hx3_11⟩:=at_T31 HR0.out t2 p3 q3;cases e3;replace hx3_0:=zx_ HB hx3_0;replace hx3_1:=zx_ HB hx3_1;replace hx3_2:=zx_ HB hx3_2;replace hx3_3:=zx_ HB hx3_3;replace hx3_4:=zx_ HB hx3_4;replace hx3_5:=zx_ HB hx3_5;replace hx3_6:=zx_ HB hx3_6;replace hx3_7:=zx_ HB hx3_7;replace hx3_8:=zx_ HB hx3_8;replace hx3_9:=zx_ HB hx3_9;replace hx3_10:=zx_ HB hx3_10;replace hx3_11:=zx_ HB hx3_11;replace p3:=eq_true p3;replace q3:=eq_true q3;have p4:0≤(t2:Int):=of_decide_eq_true zq_;have q4:t2<(l0.length:Int):=of_decide_eq_true zq_;obtain ⟨ad4,e4,hx4_0,hx4_1,hx4_2,hx4_3,hx4_4,hx4_5,hx4_6,hx4_7,hx4_8,hx4_9,hx4_10,hx4_11⟩:=at_T31 HR0.out t2 p4 q4;obtain rfl:ad3=ad4:=(by injection e4);replace hx4_0:=zx_ HB hx4_0;replace hx4_1:=zx_ HB hx4_1;replace hx4_2:=zx_ HB hx4_2;replace hx4_3:=zx_ HB hx4_3;replace hx4_4:=zx_ HB hx4_4;replace hx4_5:=zx_ HB hx4_5;replace hx4_6:=zx_ HB hx4_6;replace hx4_7:=zx_ HB hx4_7;replace hx4_8:=zx_ HB hx4_8;replace hx4_9:=zx_ HB hx4_9;replace hx4_10:=zx_ HB hx4_10;replace hx4_11:=zx_ HB hx4_11;replace p4:=eq_true p4;replace q4:=eq_true q4))
   repeat (go_quiet (first|((with_reducible refine gate_dst (N:=3) rfl ?_);refine bx_ (N:=3) (cs:=#[.int .i64 a1_0, .string a1_1, .string a1_2, .int .i64 a1_3, .int .i64 a1_4, .int .i64 a1_5]) (t:=58) ?_;intro gb1 hg w9 hbox hb;have BK1:=am_ (hbox);have GW1:=am_ ((zg0_ HB hg:w.heap.size≤gb1));have GE1:=am_ ((zg0_ HB hg:w.heap.size≤gb1));replace HB:=am_ (below_step (zl0_ HB) hb);clear hb hbox hg;obtain ⟨hcz10_0,hcz10_1,hcz10_2,hcz10_3,hcz10_4,hcz10_5⟩:=x6_ BK1;have hfz10_0:=blk_frozen BK1.out 0;have hfz10_1:=blk_frozen BK1.out 1;have hfz10_2:=blk_frozen BK1.out 2;have hfz10_3:=blk_frozen BK1.out 3;have hfz10_4:=blk_frozen BK1.out 4;have hfz10_5:=blk_frozen BK1.out 5)|(go_at_call 50;(with_reducible refine (r10_Find.calls k _ _ l0 a1_1 t2 _ ?side1 ?side2 A3.out).mono ?_);(case side1=>exact zc_ (Kd.C_below HR0.out HB.out));(case side2=>exact HC0.out);rintro e w' ⟨rfl,⟨nd,rfl⟩⟩;(try first|exact ⟨rfl,_,World.drewN_drewN _ _ _⟩|exact ⟨rfl,_,Eq.trans (World.drewN_drewN _ _ _) (congrArg (World.drewN _) (Nat.add_assoc _ _ _))⟩);have p3:0≤(t2:Int):=of_decide_eq_true zq_;have q3:t2<(l0.length:Int):=of_decide_eq_true zq_;obtain ⟨ad3,e3,hx3_0,hx3_1,hx3_2,hx3_3,hx3_4,hx3_5,hx3_6,hx3_7,hx3_8,hx3_9,hx3_10,hx3_11⟩:=at_T31 HR0.out t2 p3 q3;cases e3;replace hx3_0:=zx_ HB hx3_0;replace hx3_1:=zx_ HB hx3_1;replace hx3_2:=zx_ HB hx3_2;replace hx3_3:=zx_ HB hx3_3;replace hx3_4:=zx_ HB hx3_4;replace hx3_5:=zx_ HB hx3_5;replace hx3_6:=zx_ HB hx3_6;replace hx3_7:=zx_ HB hx3_7;replace hx3_8:=zx_ HB hx3_8;replace hx3_9:=zx_ HB hx3_9;replace hx3_10:=zx_ HB hx3_10;replace hx3_11:=zx_ HB hx3_11;replace p3:=eq_true p3;replace q3:=eq_true q3;have p4:0≤(t2:Int):=of_decide_eq_true zq_;have q4:t2<(l0.length:Int):=of_decide_eq_true zq_;obtain ⟨ad4,e4,hx4_0,hx4_1,hx4_2,hx4_3,hx4_4,hx4_5,hx4_6,hx4_7,hx4_8,hx4_9,hx4_10,hx4_11⟩:=at_T31 HR0.out t2 p4 q4;obtain rfl:ad3=ad4:=(by injection e4);replace hx4_0:=zx_ HB hx4_0;replace hx4_1:=zx_ HB hx4_1;replace hx4_2:=zx_ HB hx4_2;replace hx4_3:=zx_ HB hx4_3;replace hx4_4:=zx_ HB hx4_4;replace hx4_5:=zx_ HB hx4_5;replace hx4_6:=zx_ HB hx4_6;replace hx4_7:=zx_ HB hx4_7;replace hx4_8:=zx_ HB hx4_8;replace hx4_9:=zx_ HB hx4_9;replace hx4_10:=zx_ HB hx4_10;replace hx4_11:=zx_ HB hx4_11;replace p4:=eq_true p4;replace q4:=eq_true q4));try go_wp2_with (first|((with_reducible refine gate_dst (N:=3) rfl ?_);refine bx_ (N:=3) (cs:=#[.int .i64 a1_0, .string a1_1, .string a1_2, .int .i64 a1_3, .int .i64 a1_4, .int .i64 a1_5]) (t:=58) ?_;intro gb1 hg w9 hbox hb;have BK1:=am_ (hbox);have GW1:=am_ ((zg0_ HB hg:w.heap.size≤gb1));have GE1:=am_ ((zg0_ HB hg:w.heap.size≤gb1));replace HB:=am_ (below_step (zl0_ HB) hb);clear hb hbox hg;obtain ⟨hcz10_0,hcz10_1,hcz10_2,hcz10_3,hcz10_4,hcz10_5⟩:=x6_ BK1;have hfz10_0:=blk_frozen BK1.out 0;have hfz10_1:=blk_frozen BK1.out 1;have hfz10_2:=blk_frozen BK1.out 2;have hfz10_3:=blk_frozen BK1.out 3;have hfz10_4:=blk_frozen BK1.out 4;have hfz10_5:=blk_frozen BK1.out 5)|(go_at_call 50;(with_reducible refine (r10_Find.calls k _ _ l0 a1_1 t2 _ ?side1 ?side2 A3.out).mono ?_);(case side1=>exact zc_ (Kd.C_below HR0.out HB.out));(case side2=>exact HC0.out);rintro e w' ⟨rfl,⟨nd,rfl⟩⟩;(try first|exact ⟨rfl,_,World.drewN_drewN _ _ _⟩|exact ⟨rfl,_,Eq.trans (World.drewN_drewN _ _ _) (congrArg (World.drewN _) (Nat.add_assoc _ _ _))⟩);have p3:0≤(t2:Int):=of_decide_eq_true zq_;have q3:t2<(l0.length:Int):=of_decide_eq_true zq_;obtain ⟨ad3,e3,hx3_0,hx3_1,hx3_2,hx3_3,hx3_4,hx3_5,hx3_6,hx3_7,hx3_8,hx3_9,hx3_10,hx3_11⟩:=at_T31 HR0.out t2 p3 q3;cases e3;replace hx3_0:=zx_ HB hx3_0;replace hx3_1:=zx_ HB hx3_1;replace hx3_2:=zx_ HB hx3_2;replace hx3_3:=zx_ HB hx3_3;replace hx3_4:=zx_ HB hx3_4;replace hx3_5:=zx_ HB hx3_5;replace hx3_6:=zx_ HB hx3_6;replace hx3_7:=zx_ HB hx3_7;replace hx3_8:=zx_ HB hx3_8;replace hx3_9:=zx_ HB hx3_9;replace hx3_10:=zx_ HB hx3_10;replace hx3_11:=zx_ HB hx3_11;replace p3:=eq_true p3;replace q3:=eq_true q3;have p4:0≤(t2:Int):=of_decide_eq_true zq_;have q4:t2<(l0.length:Int):=of_decide_eq_true zq_;obtain ⟨ad4,e4,hx4_0,hx4_1,hx4_2,hx4_3,hx4_4,hx4_5,hx4_6,hx4_7,hx4_8,hx4_9,hx4_10,hx4_11⟩:=at_T31 HR0.out t2 p4 q4;obtain rfl:ad3=ad4:=(by injection e4);replace hx4_0:=zx_ HB hx4_0;replace hx4_1:=zx_ HB hx4_1;replace hx4_2:=zx_ HB hx4_2;replace hx4_3:=zx_ HB hx4_3;replace hx4_4:=zx_ HB hx4_4;replace hx4_5:=zx_ HB hx4_5;replace hx4_6:=zx_ HB hx4_6;replace hx4_7:=zx_ HB hx4_7;replace hx4_8:=zx_ HB hx4_8;replace hx4_9:=zx_ HB hx4_9;replace hx4_10:=zx_ HB hx4_10;replace hx4_11:=zx_ HB hx4_11;replace p4:=eq_true p4;replace q4:=eq_true q4)))
   go_ret
   exact ⟨by first|rfl|(simp [errW_none,errW_some]<;>rfl)|(simp [*,errW_none,errW_some]<;>rfl),zl1_ HB GE1⟩
  rw [if_neg c8] at H
  have c8b0:(((rd_T31 l0 t2).f1).toList==a1_2.toList)=false:=beq_eq_false_iff_ne.mpr c8
  have c8b1:(((rd_T31 l0 t2).f1).toList !=a1_2.toList)=true:=bne_iff_ne.mpr c8
  obtain rfl:=Option.some.inj H
  go_enter Try.func53,Try.ntmps53
  go_wp2_with (first|((with_reducible refine gate_dst (N:=3) rfl ?_);refine bx_ (N:=3) (cs:=#[.int .i64 a1_0, .string a1_1, .string a1_2, .int .i64 a1_3, .int .i64 a1_4, .int .i64 a1_5]) (t:=58) ?_;intro gb1 hg w11 hbox hb;have BK1:=am_ (hbox);have GW1:=am_ ((zg0_ HB hg:w.heap.size≤gb1));have GE1:=am_ ((zg0_ HB hg:w.heap.size≤gb1));replace HB:=am_ (below_step (zl0_ HB) hb);clear hb hbox hg;obtain ⟨hcz12_0,hcz12_1,hcz12_2,hcz12_3,hcz12_4,hcz12_5⟩:=x6_ BK1;have hfz12_0:=blk_frozen BK1.out 0;have hfz12_1:=blk_frozen BK1.out 1;have hfz12_2:=blk_frozen BK1.out 2;have hfz12_3:=blk_frozen BK1.out 3;have hfz12_4:=blk_frozen BK1.out 4;have hfz12_5:=blk_frozen BK1.out 5)|(go_at_call 50;(with_reducible refine (r10_Find.calls k _ _ l0 a1_1 t2 _ ?side1 ?side2 A3.out).mono ?_);(case side1=>exact zc_ (Kd.C_below HR0.out HB.out));(case side2=>exact HC0.out);rintro e w' ⟨rfl,⟨nd,rfl⟩⟩;(try first|exact ⟨rfl,_,World.drewN_drewN _ _ _⟩|exact ⟨rfl,_,Eq.trans (World.drewN_drewN _ _ _) (congrArg (World.drewN _) (Nat.add_assoc _ _ _))⟩);have p3:0≤(t2:Int):=of_decide_eq_true zq_;have q3:t2<(l0.length:Int):=of_decide_eq_true zq_;obtain ⟨ad3,e3,hx3_0,hx3_1,hx3_2,hx3_3,hx3_4,hx3_5,hx3_6,hx3_7,hx3_8,hx3_9,hx3_10,hx3_11⟩:=at_T31 HR0.out t2 p3 q3;cases e3;replace hx3_0:=zx_ HB hx3_0;replace hx3_1:=zx_ HB hx3_1;replace hx3_2:=zx_ HB hx3_2;replace hx3_3:=zx_ HB hx3_3;replace hx3_4:=zx_ HB hx3_4;replace hx3_5:=zx_ HB hx3_5;replace hx3_6:=zx_ HB hx3_6;replace hx3_7:=zx_ HB hx3_7;replace hx3_8:=zx_ HB hx3_8;replace hx3_9:=zx_ HB hx3_9;replace hx3_10:=zx_ HB hx3_10;replace hx3_11:=zx_ HB hx3_11;replace p3:=eq_true p3;replace q3:=eq_true q3))
  repeat (go_quiet (first|((with_reducible refine gate_dst (N:=3) rfl ?_);refine bx_ (N:=3) (cs:=#[.int .i64 a1_0, .string a1_1, .string a1_2, .int .i64 a1_3, .int .i64 a1_4, .int .i64 a1_5]) (t:=58) ?_;intro gb1 hg w11 hbox hb;have BK1:=am_ (hbox);have GW1:=am_ ((zg0_ HB hg:w.heap.size≤gb1));have GE1:=am_ ((zg0_ HB hg:w.heap.size≤gb1));replace HB:=am_ (below_step (zl0_ HB) hb);clear hb hbox hg;obtain ⟨hcz12_0,hcz12_1,hcz12_2,hcz12_3,hcz12_4,hcz12_5⟩:=x6_ BK1;have hfz12_0:=blk_frozen BK1.out 0;have hfz12_1:=blk_frozen BK1.out 1;have hfz12_2:=blk_frozen BK1.out 2;have hfz12_3:=blk_frozen BK1.out 3;have hfz12_4:=blk_frozen BK1.out 4;have hfz12_5:=blk_frozen BK1.out 5)|(go_at_call 50;(with_reducible refine (r10_Find.calls k _ _ l0 a1_1 t2 _ ?side1 ?side2 A3.out).mono ?_);(case side1=>exact zc_ (Kd.C_below HR0.out HB.out));(case side2=>exact HC0.out);rintro e w' ⟨rfl,⟨nd,rfl⟩⟩;(try first|exact ⟨rfl,_,World.drewN_drewN _ _ _⟩|exact ⟨rfl,_,Eq.trans (World.drewN_drewN _ _ _) (congrArg (World.drewN _) (Nat.add_assoc _ _ _))⟩);have p3:0≤(t2:Int):=of_decide_eq_true zq_;have q3:t2<(l0.length:Int):=of_decide_eq_true zq_;obtain ⟨ad3,e3,hx3_0,hx3_1,hx3_2,hx3_3,hx3_4,hx3_5,hx3_6,hx3_7,hx3_8,hx3_9,hx3_10,hx3_11⟩:=at_T31 HR0.out t2 p3 q3;cases e3;replace hx3_0:=zx_ HB hx3_0;replace hx3_1:=zx_ HB hx3_1;replace hx3_2:=zx_ HB hx3_2;replace hx3_3:=zx_ HB hx3_3;replace hx3_4:=zx_ HB hx3_4;replace hx3_5:=zx_ HB hx3_5;replace hx3_6:=zx_ HB hx3_6;replace hx3_7:=zx_ HB hx3_7;replace hx3_8:=zx_ HB hx3_8;replace hx3_9:=zx_ HB hx3_9;replace hx3_10:=zx_ HB hx3_10;replace hx3_11:=zx_ HB hx3_11;replace p3:=eq_true p3;replace q3:=eq_true q3));try go_wp2_with (first|((with_reducible refine gate_dst (N:=3) rfl ?_);refine bx_ (N:=3) (cs:=#[.int .i64 a1_0, .string a1_1, .string a1_2, .int .i64 a1_3, .int .i64 a1_4, .int .i64 a1_5]) (t:=58) ?_;intro gb1 hg w11 hbox hb;have BK1:=am_ (hbox);have GW1:=am_ ((zg0_ HB hg:w.heap.size≤gb1));have GE1:=am_ ((zg0_ HB hg:w.heap.size≤gb1));replace HB:=am_ (below_step (zl0_ HB) hb);clear hb hbox hg;obtain ⟨hcz12_0,hcz12_1,hcz12_2,hcz12_3,hcz12_4,hcz12_5⟩:=x6_ BK1;have hfz12_0:=blk_frozen BK1.out 0;have hfz12_1:=blk_frozen BK1.out 1;have hfz12_2:=blk_frozen BK1.out 2;have hfz12_3:=blk_frozen BK1.out 3;have hfz12_4:=blk_frozen BK1.out 4;have hfz12_5:=blk_frozen BK1.out 5)|(go_at_call 50;(with_reducible refine (r10_Find.calls k _ _ l0 a1_1 t2 _ ?side1 ?side2 A3.out).mono ?_);(case side1=>exact zc_ (Kd.C_below HR0.out HB.out));(case side2=>exact HC0.out);rintro e w' ⟨rfl,⟨nd,rfl⟩⟩;(try first|exact ⟨rfl,_,World.drewN_drewN _ _ _⟩|exact ⟨rfl,_,Eq.trans (World.drewN_drewN _ _ _) (congrArg (World.drewN _) (Nat.add_assoc _ _ _))⟩);have p3:0≤(t2:Int):=of_decide_eq_true zq_;have q3:t2<(l0.length:Int):=of_decide_eq_true zq_;obtain ⟨ad3,e3,hx3_0,hx3_1,hx3_2,hx3_3,hx3_4,hx3_5,hx3_6,hx3_7,hx3_8,hx3_9,hx3_10,hx3_11⟩:=at_T31 HR0.out t2 p3 q3;cases e3;replace hx3_0:=zx_ HB hx3_0;replace hx3_1:=zx_ HB hx3_1;replace hx3_2:=zx_ HB hx3_2;replace hx3_3:=zx_ HB hx3_3;replace hx3_4:=zx_ HB hx3_4;replace hx3_5:=zx_ HB hx3_5;replace hx3_6:=zx_ HB hx3_6;replace hx3_7:=zx_ HB hx3_7;replace hx3_8:=zx_ HB hx3_8;replace hx3_9:=zx_ HB hx3_9;replace hx3_10:=zx_ HB hx3_10;replace hx3_11:=zx_ HB hx3_11;replace p3:=eq_true p3;replace q3:=eq_true q3)))
  go_ret
  exact ⟨by first|rfl|(simp [errW_none,errW_some]<;>rfl)|(simp [*,errW_none,errW_some]<;>rfl),zl1_ HB GE1⟩
 rw [if_neg c4] at H
 have c4b0:(a1_0==1)=false:=beq_eq_false_iff_ne.mpr c4
 have c4b1:(a1_0 !=1)=true:=bne_iff_ne.mpr c4
 by_cases c15:a1_0=2
 ·rw [if_pos c15] at H
  have c15b0:(a1_0==2)=true:=beq_iff_eq.mpr c15
  have c15b1:(a1_0 !=2)=false:=bne_eq_false_iff_eq.mpr c15
  clear c15
  by_cases c16:t2≥0
  rotate_left
  ·rw [if_neg c16] at H
   have c16b0:decide (0≤t2)=false:=decide_eq_false c16
   clear c16
   obtain rfl:=Option.some.inj H
   go_enter Try.func53,Try.ntmps53
   go_wp2_with (first|((with_reducible refine gate_dst (N:=3) rfl ?_);refine bx_ (N:=3) (cs:=#[.int .i64 a1_0, .string a1_1, .string a1_2, .int .i64 a1_3, .int .i64 a1_4, .int .i64 a1_5]) (t:=58) ?_;intro gb1 hg w21 hbox hb;have BK1:=am_ (hbox);have GW1:=am_ ((zg0_ HB hg:w.heap.size≤gb1));have GE1:=am_ ((zg0_ HB hg:w.heap.size≤gb1));replace HB:=am_ (below_step (zl0_ HB) hb);clear hb hbox hg;obtain ⟨hcz22_0,hcz22_1,hcz22_2,hcz22_3,hcz22_4,hcz22_5⟩:=x6_ BK1;have hfz22_0:=blk_frozen BK1.out 0;have hfz22_1:=blk_frozen BK1.out 1;have hfz22_2:=blk_frozen BK1.out 2;have hfz22_3:=blk_frozen BK1.out 3;have hfz22_4:=blk_frozen BK1.out 4;have hfz22_5:=blk_frozen BK1.out 5)|(go_at_call 50;(with_reducible refine (r10_Find.calls k _ _ l0 a1_1 t2 _ ?side1 ?side2 A3.out).mono ?_);(case side1=>exact zc_ (Kd.C_below HR0.out HB.out));(case side2=>exact HC0.out);rintro e w' ⟨rfl,⟨nd,rfl⟩⟩;(try first|exact ⟨rfl,_,World.drewN_drewN _ _ _⟩|exact ⟨rfl,_,Eq.trans (World.drewN_drewN _ _ _) (congrArg (World.drewN _) (Nat.add_assoc _ _ _))⟩)))
   repeat (go_quiet (first|((with_reducible refine gate_dst (N:=3) rfl ?_);refine bx_ (N:=3) (cs:=#[.int .i64 a1_0, .string a1_1, .string a1_2, .int .i64 a1_3, .int .i64 a1_4, .int .i64 a1_5]) (t:=58) ?_;intro gb1 hg w21 hbox hb;have BK1:=am_ (hbox);have GW1:=am_ ((zg0_ HB hg:w.heap.size≤gb1));have GE1:=am_ ((zg0_ HB hg:w.heap.size≤gb1));replace HB:=am_ (below_step (zl0_ HB) hb);clear hb hbox hg;obtain ⟨hcz22_0,hcz22_1,hcz22_2,hcz22_3,hcz22_4,hcz22_5⟩:=x6_ BK1;have hfz22_0:=blk_frozen BK1.out 0;have hfz22_1:=blk_frozen BK1.out 1;have hfz22_2:=blk_frozen BK1.out 2;have hfz22_3:=blk_frozen BK1.out 3;have hfz22_4:=blk_frozen BK1.out 4;have hfz22_5:=blk_frozen BK1.out 5)|(go_at_call 50;(with_reducible refine (r10_Find.calls k _ _ l0 a1_1 t2 _ ?side1 ?side2 A3.out).mono ?_);(case side1=>exact zc_ (Kd.C_below HR0.out HB.out));(case side2=>exact HC0.out);rintro e w' ⟨rfl,⟨nd,rfl⟩⟩;(try first|exact ⟨rfl,_,World.drewN_drewN _ _ _⟩|exact ⟨rfl,_,Eq.trans (World.drewN_drewN _ _ _) (congrArg (World.drewN _) (Nat.add_assoc _ _ _))⟩)));try go_wp2_with (first|((with_reducible refine gate_dst (N:=3) rfl ?_);refine bx_ (N:=3) (cs:=#[.int .i64 a1_0, .string a1_1, .string a1_2, .int .i64 a1_3, .int .i64 a1_4, .int .i64 a1_5]) (t:=58) ?_;intro gb1 hg w21 hbox hb;have BK1:=am_ (hbox);have GW1:=am_ ((zg0_ HB hg:w.heap.size≤gb1));have GE1:=am_ ((zg0_ HB hg:w.heap.size≤gb1));replace HB:=am_ (below_step (zl0_ HB) hb);clear hb hbox hg;obtain ⟨hcz22_0,hcz22_1,hcz22_2,hcz22_3,hcz22_4,hcz22_5⟩:=x6_ BK1;have hfz22_0:=blk_frozen BK1.out 0;have hfz22_1:=blk_frozen BK1.out 1;have hfz22_2:=blk_frozen BK1.out 2;have hfz22_3:=blk_frozen BK1.out 3;have hfz22_4:=blk_frozen BK1.out 4;have hfz22_5:=blk_frozen BK1.out 5)|(go_at_call 50;(with_reducible refine (r10_Find.calls k _ _ l0 a1_1 t2 _ ?side1 ?side2 A3.out).mono ?_);(case side1=>exact zc_ (Kd.C_below HR0.out HB.out));(case side2=>exact HC0.out);rintro e w' ⟨rfl,⟨nd,rfl⟩⟩;(try first|exact ⟨rfl,_,World.drewN_drewN _ _ _⟩|exact ⟨rfl,_,Eq.trans (World.drewN_drewN _ _ _) (congrArg (World.drewN _) (Nat.add_assoc _ _ _))⟩))))
   go_ret
   exact ⟨by first|rfl|(simp [errW_none,errW_some]<;>rfl)|(simp [*,errW_none,errW_some]<;>rfl),zl1_ HB GE1⟩
  rw [if_pos c16] at H
  have c16b0:decide (0≤t2)=true:=decide_eq_true c16
  clear c16
  by_cases c17:0≤t2
  rotate_left
  ·rw [if_neg c17] at H
   exact absurd H (by simp)
  rw [if_pos c17] at H
  have c17b0:decide (0≤t2)=true:=decide_eq_true c17
  clear c17
  by_cases c18:t2<(l0.length:Int)
  rotate_left
  ·rw [if_neg c18] at H
   exact absurd H (by simp)
  rw [if_pos c18] at H
  have c18b0:decide (t2<(l0.length:Int))=true:=decide_eq_true c18
  clear c18
  obtain rfl:=Option.some.inj H
  go_enter Try.func53,Try.ntmps53
  go_wp2_with (first|((with_reducible refine gate_dst (N:=3) rfl ?_);refine bx_ (N:=3) (cs:=#[.int .i64 a1_0, .string a1_1, .string a1_2, .int .i64 a1_3, .int .i64 a1_4, .int .i64 a1_5]) (t:=58) ?_;intro gb1 hg w19 hbox hb;have BK1:=am_ (hbox);have GW1:=am_ ((zg0_ HB hg:w.heap.size≤gb1));have GE1:=am_ ((zg0_ HB hg:w.heap.size≤gb1));replace HB:=am_ (below_step (zl0_ HB) hb);clear hb hbox hg;obtain ⟨hcz20_0,hcz20_1,hcz20_2,hcz20_3,hcz20_4,hcz20_5⟩:=x6_ BK1;have hfz20_0:=blk_frozen BK1.out 0;have hfz20_1:=blk_frozen BK1.out 1;have hfz20_2:=blk_frozen BK1.out 2;have hfz20_3:=blk_frozen BK1.out 3;have hfz20_4:=blk_frozen BK1.out 4;have hfz20_5:=blk_frozen BK1.out 5)|(go_at_call 50;(with_reducible refine (r10_Find.calls k _ _ l0 a1_1 t2 _ ?side1 ?side2 A3.out).mono ?_);(case side1=>exact zc_ (Kd.C_below HR0.out HB.out));(case side2=>exact HC0.out);rintro e w' ⟨rfl,⟨nd,rfl⟩⟩;(try first|exact ⟨rfl,_,World.drewN_drewN _ _ _⟩|exact ⟨rfl,_,Eq.trans (World.drewN_drewN _ _ _) (congrArg (World.drewN _) (Nat.add_assoc _ _ _))⟩);have p5:0≤(t2:Int):=of_decide_eq_true zq_;have q5:t2<(l0.length:Int):=of_decide_eq_true zq_;obtain ⟨ad5,e5,hx5_0,hx5_1,hx5_2,hx5_3,hx5_4,hx5_5,hx5_6,hx5_7,hx5_8,hx5_9,hx5_10,hx5_11⟩:=at_T31 HR0.out t2 p5 q5;cases e5;replace hx5_0:=zx_ HB hx5_0;replace hx5_1:=zx_ HB hx5_1;replace hx5_2:=zx_ HB hx5_2;replace hx5_3:=zx_ HB hx5_3;replace hx5_4:=zx_ HB hx5_4;replace hx5_5:=zx_ HB hx5_5;replace hx5_6:=zx_ HB hx5_6;replace hx5_7:=zx_ HB hx5_7;replace hx5_8:=zx_ HB hx5_8;replace hx5_9:=zx_ HB hx5_9;replace hx5_10:=zx_ HB hx5_10;replace hx5_11:=zx_ HB hx5_11;replace p5:=eq_true p5;replace q5:=eq_true q5))
  repeat (go_quiet (first|((with_reducible refine gate_dst (N:=3) rfl ?_);refine bx_ (N:=3) (cs:=#[.int .i64 a1_0, .string a1_1, .string a1_2, .int .i64 a1_3, .int .i64 a1_4, .int .i64 a1_5]) (t:=58) ?_;intro gb1 hg w19 hbox hb;have BK1:=am_ (hbox);have GW1:=am_ ((zg0_ HB hg:w.heap.size≤gb1));have GE1:=am_ ((zg0_ HB hg:w.heap.size≤gb1));replace HB:=am_ (below_step (zl0_ HB) hb);clear hb hbox hg;obtain ⟨hcz20_0,hcz20_1,hcz20_2,hcz20_3,hcz20_4,hcz20_5⟩:=x6_ BK1;have hfz20_0:=blk_frozen BK1.out 0;have hfz20_1:=blk_frozen BK1.out 1;have hfz20_2:=blk_frozen BK1.out 2;have hfz20_3:=blk_frozen BK1.out 3;have hfz20_4:=blk_frozen BK1.out 4;have hfz20_5:=blk_frozen BK1.out 5)|(go_at_call 50;(with_reducible refine (r10_Find.calls k _ _ l0 a1_1 t2 _ ?side1 ?side2 A3.out).mono ?_);(case side1=>exact zc_ (Kd.C_below HR0.out HB.out));(case side2=>exact HC0.out);rintro e w' ⟨rfl,⟨nd,rfl⟩⟩;(try first|exact ⟨rfl,_,World.drewN_drewN _ _ _⟩|exact ⟨rfl,_,Eq.trans (World.drewN_drewN _ _ _) (congrArg (World.drewN _) (Nat.add_assoc _ _ _))⟩);have p5:0≤(t2:Int):=of_decide_eq_true zq_;have q5:t2<(l0.length:Int):=of_decide_eq_true zq_;obtain ⟨ad5,e5,hx5_0,hx5_1,hx5_2,hx5_3,hx5_4,hx5_5,hx5_6,hx5_7,hx5_8,hx5_9,hx5_10,hx5_11⟩:=at_T31 HR0.out t2 p5 q5;cases e5;replace hx5_0:=zx_ HB hx5_0;replace hx5_1:=zx_ HB hx5_1;replace hx5_2:=zx_ HB hx5_2;replace hx5_3:=zx_ HB hx5_3;replace hx5_4:=zx_ HB hx5_4;replace hx5_5:=zx_ HB hx5_5;replace hx5_6:=zx_ HB hx5_6;replace hx5_7:=zx_ HB hx5_7;replace hx5_8:=zx_ HB hx5_8;replace hx5_9:=zx_ HB hx5_9;replace hx5_10:=zx_ HB hx5_10;replace hx5_11:=zx_ HB hx5_11;replace p5:=eq_true p5;replace q5:=eq_true q5));try go_wp2_with (first|((with_reducible refine gate_dst (N:=3) rfl ?_);refine bx_ (N:=3) (cs:=#[.int .i64 a1_0, .string a1_1, .string a1_2, .int .i64 a1_3, .int .i64 a1_4, .int .i64 a1_5]) (t:=58) ?_;intro gb1 hg w19 hbox hb;have BK1:=am_ (hbox);have GW1:=am_ ((zg0_ HB hg:w.heap.size≤gb1));have GE1:=am_ ((zg0_ HB hg:w.heap.size≤gb1));replace HB:=am_ (below_step (zl0_ HB) hb);clear hb hbox hg;obtain ⟨hcz20_0,hcz20_1,hcz20_2,hcz20_3,hcz20_4,hcz20_5⟩:=x6_ BK1;have hfz20_0:=blk_frozen BK1.out 0;have hfz20_1:=blk_frozen BK1.out 1;have hfz20_2:=blk_frozen BK1.out 2;have hfz20_3:=blk_frozen BK1.out 3;have hfz20_4:=blk_frozen BK1.out 4;have hfz20_5:=blk_frozen BK1.out 5)|(go_at_call 50;(with_reducible refine (r10_Find.calls k _ _ l0 a1_1 t2 _ ?side1 ?side2 A3.out).mono ?_);(case side1=>exact zc_ (Kd.C_below HR0.out HB.out));(case side2=>exact HC0.out);rintro e w' ⟨rfl,⟨nd,rfl⟩⟩;(try first|exact ⟨rfl,_,World.drewN_drewN _ _ _⟩|exact ⟨rfl,_,Eq.trans (World.drewN_drewN _ _ _) (congrArg (World.drewN _) (Nat.add_assoc _ _ _))⟩);have p5:0≤(t2:Int):=of_decide_eq_true zq_;have q5:t2<(l0.length:Int):=of_decide_eq_true zq_;obtain ⟨ad5,e5,hx5_0,hx5_1,hx5_2,hx5_3,hx5_4,hx5_5,hx5_6,hx5_7,hx5_8,hx5_9,hx5_10,hx5_11⟩:=at_T31 HR0.out t2 p5 q5;cases e5;replace hx5_0:=zx_ HB hx5_0;replace hx5_1:=zx_ HB hx5_1;replace hx5_2:=zx_ HB hx5_2;replace hx5_3:=zx_ HB hx5_3;replace hx5_4:=zx_ HB hx5_4;replace hx5_5:=zx_ HB hx5_5;replace hx5_6:=zx_ HB hx5_6;replace hx5_7:=zx_ HB hx5_7;replace hx5_8:=zx_ HB hx5_8;replace hx5_9:=zx_ HB hx5_9;replace hx5_10:=zx_ HB hx5_10;replace hx5_11:=zx_ HB hx5_11;replace p5:=eq_true p5;replace q5:=eq_true q5)))
  go_ret
  exact ⟨by first|rfl|(simp [errW_none,errW_some]<;>rfl)|(simp [*,errW_none,errW_some]<;>rfl),zl1_ HB GE1⟩
 rw [if_neg c15] at H
 have c15b0:(a1_0==2)=false:=beq_eq_false_iff_ne.mpr c15
 have c15b1:(a1_0 !=2)=true:=bne_iff_ne.mpr c15
 by_cases c23:a1_0=3
 rotate_left
 ·rw [if_neg c23] at H
  have c23b0:(a1_0==3)=false:=beq_eq_false_iff_ne.mpr c23
  have c23b1:(a1_0 !=3)=true:=bne_iff_ne.mpr c23
  by_cases c31:a1_0=4
  ·rw [if_pos c31] at H
   have c31b0:(a1_0==4)=true:=beq_iff_eq.mpr c31
   have c31b1:(a1_0 !=4)=false:=bne_eq_false_iff_eq.mpr c31
   clear c31
   obtain rfl:=Option.some.inj H
   go_enter Try.func53,Try.ntmps53
   go_wp2_with (first|((with_reducible refine gate_dst (N:=3) rfl ?_);refine bx_ (N:=3) (cs:=#[.int .i64 a1_0, .string a1_1, .string a1_2, .int .i64 a1_3, .int .i64 a1_4, .int .i64 a1_5]) (t:=58) ?_;intro gb1 hg w32 hbox hb;have BK1:=am_ (hbox);have GW1:=am_ ((zg0_ HB hg:w.heap.size≤gb1));have GE1:=am_ ((zg0_ HB hg:w.heap.size≤gb1));replace HB:=am_ (below_step (zl0_ HB) hb);clear hb hbox hg;obtain ⟨hcz33_0,hcz33_1,hcz33_2,hcz33_3,hcz33_4,hcz33_5⟩:=x6_ BK1;have hfz33_0:=blk_frozen BK1.out 0;have hfz33_1:=blk_frozen BK1.out 1;have hfz33_2:=blk_frozen BK1.out 2;have hfz33_3:=blk_frozen BK1.out 3;have hfz33_4:=blk_frozen BK1.out 4;have hfz33_5:=blk_frozen BK1.out 5)|(go_at_call 50;(with_reducible refine (r10_Find.calls k _ _ l0 a1_1 t2 _ ?side1 ?side2 A3.out).mono ?_);(case side1=>exact zc_ (Kd.C_below HR0.out HB.out));(case side2=>exact HC0.out);rintro e w' ⟨rfl,⟨nd,rfl⟩⟩;(try first|exact ⟨rfl,_,World.drewN_drewN _ _ _⟩|exact ⟨rfl,_,Eq.trans (World.drewN_drewN _ _ _) (congrArg (World.drewN _) (Nat.add_assoc _ _ _))⟩)))
   repeat (go_quiet (first|((with_reducible refine gate_dst (N:=3) rfl ?_);refine bx_ (N:=3) (cs:=#[.int .i64 a1_0, .string a1_1, .string a1_2, .int .i64 a1_3, .int .i64 a1_4, .int .i64 a1_5]) (t:=58) ?_;intro gb1 hg w32 hbox hb;have BK1:=am_ (hbox);have GW1:=am_ ((zg0_ HB hg:w.heap.size≤gb1));have GE1:=am_ ((zg0_ HB hg:w.heap.size≤gb1));replace HB:=am_ (below_step (zl0_ HB) hb);clear hb hbox hg;obtain ⟨hcz33_0,hcz33_1,hcz33_2,hcz33_3,hcz33_4,hcz33_5⟩:=x6_ BK1;have hfz33_0:=blk_frozen BK1.out 0;have hfz33_1:=blk_frozen BK1.out 1;have hfz33_2:=blk_frozen BK1.out 2;have hfz33_3:=blk_frozen BK1.out 3;have hfz33_4:=blk_frozen BK1.out 4;have hfz33_5:=blk_frozen BK1.out 5)|(go_at_call 50;(with_reducible refine (r10_Find.calls k _ _ l0 a1_1 t2 _ ?side1 ?side2 A3.out).mono ?_);(case side1=>exact zc_ (Kd.C_below HR0.out HB.out));(case side2=>exact HC0.out);rintro e w' ⟨rfl,⟨nd,rfl⟩⟩;(try first|exact ⟨rfl,_,World.drewN_drewN _ _ _⟩|exact ⟨rfl,_,Eq.trans (World.drewN_drewN _ _ _) (congrArg (World.drewN _) (Nat.add_assoc _ _ _))⟩)));try go_wp2_with (first|((with_reducible refine gate_dst (N:=3) rfl ?_);refine bx_ (N:=3) (cs:=#[.int .i64 a1_0, .string a1_1, .string a1_2, .int .i64 a1_3, .int .i64 a1_4, .int .i64 a1_5]) (t:=58) ?_;intro gb1 hg w32 hbox hb;have BK1:=am_ (hbox);have GW1:=am_ ((zg0_ HB hg:w.heap.size≤gb1));have GE1:=am_ ((zg0_ HB hg:w.heap.size≤gb1));replace HB:=am_ (below_step (zl0_ HB) hb);clear hb hbox hg;obtain ⟨hcz33_0,hcz33_1,hcz33_2,hcz33_3,hcz33_4,hcz33_5⟩:=x6_ BK1;have hfz33_0:=blk_frozen BK1.out 0;have hfz33_1:=blk_frozen BK1.out 1;have hfz33_2:=blk_frozen BK1.out 2;have hfz33_3:=blk_frozen BK1.out 3;have hfz33_4:=blk_frozen BK1.out 4;have hfz33_5:=blk_frozen BK1.out 5)|(go_at_call 50;(with_reducible refine (r10_Find.calls k _ _ l0 a1_1 t2 _ ?side1 ?side2 A3.out).mono ?_);(case side1=>exact zc_ (Kd.C_below HR0.out HB.out));(case side2=>exact HC0.out);rintro e w' ⟨rfl,⟨nd,rfl⟩⟩;(try first|exact ⟨rfl,_,World.drewN_drewN _ _ _⟩|exact ⟨rfl,_,Eq.trans (World.drewN_drewN _ _ _) (congrArg (World.drewN _) (Nat.add_assoc _ _ _))⟩))))
   go_ret
   exact ⟨by first|rfl|(simp [errW_none,errW_some]<;>rfl)|(simp [*,errW_none,errW_some]<;>rfl),zl1_ HB GE1⟩
  rw [if_neg c31] at H
  have c31b0:(a1_0==4)=false:=beq_eq_false_iff_ne.mpr c31
  have c31b1:(a1_0 !=4)=true:=bne_iff_ne.mpr c31
  obtain rfl:=Option.some.inj H
  go_enter Try.func53,Try.ntmps53
  go_wp2_with (first|((with_reducible refine gate_dst (N:=3) rfl ?_);refine bx_ (N:=3) (cs:=#[.int .i64 a1_0, .string a1_1, .string a1_2, .int .i64 a1_3, .int .i64 a1_4, .int .i64 a1_5]) (t:=58) ?_;intro gb1 hg w34 hbox hb;have BK1:=am_ (hbox);have GW1:=am_ ((zg0_ HB hg:w.heap.size≤gb1));have GE1:=am_ ((zg0_ HB hg:w.heap.size≤gb1));replace HB:=am_ (below_step (zl0_ HB) hb);clear hb hbox hg;obtain ⟨hcz35_0,hcz35_1,hcz35_2,hcz35_3,hcz35_4,hcz35_5⟩:=x6_ BK1;have hfz35_0:=blk_frozen BK1.out 0;have hfz35_1:=blk_frozen BK1.out 1;have hfz35_2:=blk_frozen BK1.out 2;have hfz35_3:=blk_frozen BK1.out 3;have hfz35_4:=blk_frozen BK1.out 4;have hfz35_5:=blk_frozen BK1.out 5)|(go_at_call 50;(with_reducible refine (r10_Find.calls k _ _ l0 a1_1 t2 _ ?side1 ?side2 A3.out).mono ?_);(case side1=>exact zc_ (Kd.C_below HR0.out HB.out));(case side2=>exact HC0.out);rintro e w' ⟨rfl,⟨nd,rfl⟩⟩;(try first|exact ⟨rfl,_,World.drewN_drewN _ _ _⟩|exact ⟨rfl,_,Eq.trans (World.drewN_drewN _ _ _) (congrArg (World.drewN _) (Nat.add_assoc _ _ _))⟩)))
  repeat (go_quiet (first|((with_reducible refine gate_dst (N:=3) rfl ?_);refine bx_ (N:=3) (cs:=#[.int .i64 a1_0, .string a1_1, .string a1_2, .int .i64 a1_3, .int .i64 a1_4, .int .i64 a1_5]) (t:=58) ?_;intro gb1 hg w34 hbox hb;have BK1:=am_ (hbox);have GW1:=am_ ((zg0_ HB hg:w.heap.size≤gb1));have GE1:=am_ ((zg0_ HB hg:w.heap.size≤gb1));replace HB:=am_ (below_step (zl0_ HB) hb);clear hb hbox hg;obtain ⟨hcz35_0,hcz35_1,hcz35_2,hcz35_3,hcz35_4,hcz35_5⟩:=x6_ BK1;have hfz35_0:=blk_frozen BK1.out 0;have hfz35_1:=blk_frozen BK1.out 1;have hfz35_2:=blk_frozen BK1.out 2;have hfz35_3:=blk_frozen BK1.out 3;have hfz35_4:=blk_frozen BK1.out 4;have hfz35_5:=blk_frozen BK1.out 5)|(go_at_call 50;(with_reducible refine (r10_Find.calls k _ _ l0 a1_1 t2 _ ?side1 ?side2 A3.out).mono ?_);(case side1=>exact zc_ (Kd.C_below HR0.out HB.out));(case side2=>exact HC0.out);rintro e w' ⟨rfl,⟨nd,rfl⟩⟩;(try first|exact ⟨rfl,_,World.drewN_drewN _ _ _⟩|exact ⟨rfl,_,Eq.trans (World.drewN_drewN _ _ _) (congrArg (World.drewN _) (Nat.add_assoc _ _ _))⟩)));try go_wp2_with (first|((with_reducible refine gate_dst (N:=3) rfl ?_);refine bx_ (N:=3) (cs:=#[.int .i64 a1_0, .string a1_1, .string a1_2, .int .i64 a1_3, .int .i64 a1_4, .int .i64 a1_5]) (t:=58) ?_;intro gb1 hg w34 hbox hb;have BK1:=am_ (hbox);have GW1:=am_ ((zg0_ HB hg:w.heap.size≤gb1));have GE1:=am_ ((zg0_ HB hg:w.heap.size≤gb1));replace HB:=am_ (below_step (zl0_ HB) hb);clear hb hbox hg;obtain ⟨hcz35_0,hcz35_1,hcz35_2,hcz35_3,hcz35_4,hcz35_5⟩:=x6_ BK1;have hfz35_0:=blk_frozen BK1.out 0;have hfz35_1:=blk_frozen BK1.out 1;have hfz35_2:=blk_frozen BK1.out 2;have hfz35_3:=blk_frozen BK1.out 3;have hfz35_4:=blk_frozen BK1.out 4;have hfz35_5:=blk_frozen BK1.out 5)|(go_at_call 50;(with_reducible refine (r10_Find.calls k _ _ l0 a1_1 t2 _ ?side1 ?side2 A3.out).mono ?_);(case side1=>exact zc_ (Kd.C_below HR0.out HB.out));(case side2=>exact HC0.out);rintro e w' ⟨rfl,⟨nd,rfl⟩⟩;(try first|exact ⟨rfl,_,World.drewN_drewN _ _ _⟩|exact ⟨rfl,_,Eq.trans (World.drewN_drewN _ _ _) (congrArg (World.drewN _) (Nat.add_assoc _ _ _))⟩))))
  go_ret
  exact ⟨by first|rfl|(simp [errW_none,errW_some]<;>rfl)|(simp [*,errW_none,errW_some]<;>rfl),zl1_ HB GE1⟩

 rw [if_pos c23] at H
 have c23b0:(a1_0==3)=true:=beq_iff_eq.mpr c23
 have c23b1:(a1_0 !=3)=false:=bne_eq_false_iff_eq.mpr c23
 clear c23
 by_cases c24:t2≥0
 rotate_left
 ·rw [if_neg c24] at H
  have c24b0:decide (0≤t2)=false:=decide_eq_false c24
  clear c24
  obtain rfl:=Option.some.inj H
  go_enter Try.func53,Try.ntmps53
  go_wp2_with (first|((with_reducible refine gate_dst (N:=3) rfl ?_);refine bx_ (N:=3) (cs:=#[.int .i64 a1_0, .string a1_1, .string a1_2, .int .i64 a1_3, .int .i64 a1_4, .int .i64 a1_5]) (t:=58) ?_;intro gb1 hg w29 hbox hb;have BK1:=am_ (hbox);have GW1:=am_ ((zg0_ HB hg:w.heap.size≤gb1));have GE1:=am_ ((zg0_ HB hg:w.heap.size≤gb1));replace HB:=am_ (below_step (zl0_ HB) hb);clear hb hbox hg;obtain ⟨hcz30_0,hcz30_1,hcz30_2,hcz30_3,hcz30_4,hcz30_5⟩:=x6_ BK1;have hfz30_0:=blk_frozen BK1.out 0;have hfz30_1:=blk_frozen BK1.out 1;have hfz30_2:=blk_frozen BK1.out 2;have hfz30_3:=blk_frozen BK1.out 3;have hfz30_4:=blk_frozen BK1.out 4;have hfz30_5:=blk_frozen BK1.out 5)|(go_at_call 50;(with_reducible refine (r10_Find.calls k _ _ l0 a1_1 t2 _ ?side1 ?side2 A3.out).mono ?_);(case side1=>exact zc_ (Kd.C_below HR0.out HB.out));(case side2=>exact HC0.out);rintro e w' ⟨rfl,⟨nd,rfl⟩⟩;(try first|exact ⟨rfl,_,World.drewN_drewN _ _ _⟩|exact ⟨rfl,_,Eq.trans (World.drewN_drewN _ _ _) (congrArg (World.drewN _) (Nat.add_assoc _ _ _))⟩)))
  repeat (go_quiet (first|((with_reducible refine gate_dst (N:=3) rfl ?_);refine bx_ (N:=3) (cs:=#[.int .i64 a1_0, .string a1_1, .string a1_2, .int .i64 a1_3, .int .i64 a1_4, .int .i64 a1_5]) (t:=58) ?_;intro gb1 hg w29 hbox hb;have BK1:=am_ (hbox);have GW1:=am_ ((zg0_ HB hg:w.heap.size≤gb1));have GE1:=am_ ((zg0_ HB hg:w.heap.size≤gb1));replace HB:=am_ (below_step (zl0_ HB) hb);clear hb hbox hg;obtain ⟨hcz30_0,hcz30_1,hcz30_2,hcz30_3,hcz30_4,hcz30_5⟩:=x6_ BK1;have hfz30_0:=blk_frozen BK1.out 0;have hfz30_1:=blk_frozen BK1.out 1;have hfz30_2:=blk_frozen BK1.out 2;have hfz30_3:=blk_frozen BK1.out 3;have hfz30_4:=blk_frozen BK1.out 4;have hfz30_5:=blk_frozen BK1.out 5)|(go_at_call 50;(with_reducible refine (r10_Find.calls k _ _ l0 a1_1 t2 _ ?side1 ?side2 A3.out).mono ?_);(case side1=>exact zc_ (Kd.C_below HR0.out HB.out));(case side2=>exact HC0.out);rintro e w' ⟨rfl,⟨nd,rfl⟩⟩;(try first|exact ⟨rfl,_,World.drewN_drewN _ _ _⟩|exact ⟨rfl,_,Eq.trans (World.drewN_drewN _ _ _) (congrArg (World.drewN _) (Nat.add_assoc _ _ _))⟩)));try go_wp2_with (first|((with_reducible refine gate_dst (N:=3) rfl ?_);refine bx_ (N:=3) (cs:=#[.int .i64 a1_0, .string a1_1, .string a1_2, .int .i64 a1_3, .int .i64 a1_4, .int .i64 a1_5]) (t:=58) ?_;intro gb1 hg w29 hbox hb;have BK1:=am_ (hbox);have GW1:=am_ ((zg0_ HB hg:w.heap.size≤gb1));have GE1:=am_ ((zg0_ HB hg:w.heap.size≤gb1));replace HB:=am_ (below_step (zl0_ HB) hb);clear hb hbox hg;obtain ⟨hcz30_0,hcz30_1,hcz30_2,hcz30_3,hcz30_4,hcz30_5⟩:=x6_ BK1;have hfz30_0:=blk_frozen BK1.out 0;have hfz30_1:=blk_frozen BK1.out 1;have hfz30_2:=blk_frozen BK1.out 2;have hfz30_3:=blk_frozen BK1.out 3;have hfz30_4:=blk_frozen BK1.out 4;have hfz30_5:=blk_frozen BK1.out 5)|(go_at_call 50;(with_reducible refine (r10_Find.calls k _ _ l0 a1_1 t2 _ ?side1 ?side2 A3.out).mono ?_);(case side1=>exact zc_ (Kd.C_below HR0.out HB.out));(case side2=>exact HC0.out);rintro e w' ⟨rfl,⟨nd,rfl⟩⟩;(try first|exact ⟨rfl,_,World.drewN_drewN _ _ _⟩|exact ⟨rfl,_,Eq.trans (World.drewN_drewN _ _ _) (congrArg (World.drewN _) (Nat.add_assoc _ _ _))⟩))))
  go_ret
  exact ⟨by first|rfl|(simp [errW_none,errW_some]<;>rfl)|(simp [*,errW_none,errW_some]<;>rfl),zl1_ HB GE1⟩
 rw [if_pos c24] at H
 have c24b0:decide (0≤t2)=true:=decide_eq_true c24
 clear c24
 by_cases c25:0≤t2
 rotate_left
 ·rw [if_neg c25] at H
  exact absurd H (by simp)
 rw [if_pos c25] at H
 have c25b0:decide (0≤t2)=true:=decide_eq_true c25
 clear c25
 by_cases c26:t2<(l0.length:Int)
 rotate_left
 ·rw [if_neg c26] at H
  exact absurd H (by simp)
 rw [if_pos c26] at H
 have c26b0:decide (t2<(l0.length:Int))=true:=decide_eq_true c26
 clear c26
 obtain rfl:=Option.some.inj H
 go_enter Try.func53,Try.ntmps53
 go_wp2_with (first|((with_reducible refine gate_dst (N:=3) rfl ?_);refine bx_ (N:=3) (cs:=#[.int .i64 a1_0, .string a1_1, .string a1_2, .int .i64 a1_3, .int .i64 a1_4, .int .i64 a1_5]) (t:=58) ?_;intro gb1 hg w27 hbox hb;have BK1:=am_ (hbox);have GW1:=am_ ((zg0_ HB hg:w.heap.size≤gb1));have GE1:=am_ ((zg0_ HB hg:w.heap.size≤gb1));replace HB:=am_ (below_step (zl0_ HB) hb);clear hb hbox hg;obtain ⟨hcz28_0,hcz28_1,hcz28_2,hcz28_3,hcz28_4,hcz28_5⟩:=x6_ BK1;have hfz28_0:=blk_frozen BK1.out 0;have hfz28_1:=blk_frozen BK1.out 1;have hfz28_2:=blk_frozen BK1.out 2;have hfz28_3:=blk_frozen BK1.out 3;have hfz28_4:=blk_frozen BK1.out 4;have hfz28_5:=blk_frozen BK1.out 5)|(go_at_call 50;(with_reducible refine (r10_Find.calls k _ _ l0 a1_1 t2 _ ?side1 ?side2 A3.out).mono ?_);(case side1=>exact zc_ (Kd.C_below HR0.out HB.out));(case side2=>exact HC0.out);rintro e w' ⟨rfl,⟨nd,rfl⟩⟩;(try first|exact ⟨rfl,_,World.drewN_drewN _ _ _⟩|exact ⟨rfl,_,Eq.trans (World.drewN_drewN _ _ _) (congrArg (World.drewN _) (Nat.add_assoc _ _ _))⟩);have p6:0≤(t2:Int):=of_decide_eq_true zq_;have q6:t2<(l0.length:Int):=of_decide_eq_true zq_;obtain ⟨ad6,e6,hx6_0,hx6_1,hx6_2,hx6_3,hx6_4,hx6_5,hx6_6,hx6_7,hx6_8,hx6_9,hx6_10,hx6_11⟩:=at_T31 HR0.out t2 p6 q6;cases e6;replace hx6_0:=zx_ HB hx6_0;replace hx6_1:=zx_ HB hx6_1;replace hx6_2:=zx_ HB hx6_2;replace hx6_3:=zx_ HB hx6_3;replace hx6_4:=zx_ HB hx6_4;replace hx6_5:=zx_ HB hx6_5;replace hx6_6:=zx_ HB hx6_6;replace hx6_7:=zx_ HB hx6_7;replace hx6_8:=zx_ HB hx6_8;replace hx6_9:=zx_ HB hx6_9;replace hx6_10:=zx_ HB hx6_10;replace hx6_11:=zx_ HB hx6_11;replace p6:=eq_true p6;replace q6:=eq_true q6))
 repeat (go_quiet (first|((with_reducible refine gate_dst (N:=3) rfl ?_);refine bx_ (N:=3) (cs:=#[.int .i64 a1_0, .string a1_1, .string a1_2, .int .i64 a1_3, .int .i64 a1_4, .int .i64 a1_5]) (t:=58) ?_;intro gb1 hg w27 hbox hb;have BK1:=am_ (hbox);have GW1:=am_ ((zg0_ HB hg:w.heap.size≤gb1));have GE1:=am_ ((zg0_ HB hg:w.heap.size≤gb1));replace HB:=am_ (below_step (zl0_ HB) hb);clear hb hbox hg;obtain ⟨hcz28_0,hcz28_1,hcz28_2,hcz28_3,hcz28_4,hcz28_5⟩:=x6_ BK1;have hfz28_0:=blk_frozen BK1.out 0;have hfz28_1:=blk_frozen BK1.out 1;have hfz28_2:=blk_frozen BK1.out 2;have hfz28_3:=blk_frozen BK1.out 3;have hfz28_4:=blk_frozen BK1.out 4;have hfz28_5:=blk_frozen BK1.out 5)|(go_at_call 50;(with_reducible refine (r10_Find.calls k _ _ l0 a1_1 t2 _ ?side1 ?side2 A3.out).mono ?_);(case side1=>exact zc_ (Kd.C_below HR0.out HB.out));(case side2=>exact HC0.out);rintro e w' ⟨rfl,⟨nd,rfl⟩⟩;(try first|exact ⟨rfl,_,World.drewN_drewN _ _ _⟩|exact ⟨rfl,_,Eq.trans (World.drewN_drewN _ _ _) (congrArg (World.drewN _) (Nat.add_assoc _ _ _))⟩);have p6:0≤(t2:Int):=of_decide_eq_true zq_;have q6:t2<(l0.length:Int):=of_decide_eq_true zq_;obtain ⟨ad6,e6,hx6_0,hx6_1,hx6_2,hx6_3,hx6_4,hx6_5,hx6_6,hx6_7,hx6_8,hx6_9,hx6_10,hx6_11⟩:=at_T31 HR0.out t2 p6 q6;cases e6;replace hx6_0:=zx_ HB hx6_0;replace hx6_1:=zx_ HB hx6_1;replace hx6_2:=zx_ HB hx6_2;replace hx6_3:=zx_ HB hx6_3;replace hx6_4:=zx_ HB hx6_4;replace hx6_5:=zx_ HB hx6_5;replace hx6_6:=zx_ HB hx6_6;replace hx6_7:=zx_ HB hx6_7;replace hx6_8:=zx_ HB hx6_8;replace hx6_9:=zx_ HB hx6_9;replace hx6_10:=zx_ HB hx6_10;replace hx6_11:=zx_ HB hx6_11;replace p6:=eq_true p6;replace q6:=eq_true q6));try go_wp2_with (first|((with_reducible refine gate_dst (N:=3) rfl ?_);refine bx_ (N:=3) (cs:=#[.int .i64 a1_0, .string a1_1, .string a1_2, .int .i64 a1_3, .int .i64 a1_4, .int .i64 a1_5]) (t:=58) ?_;intro gb1 hg w27 hbox hb;have BK1:=am_ (hbox);have GW1:=am_ ((zg0_ HB hg:w.heap.size≤gb1));have GE1:=am_ ((zg0_ HB hg:w.heap.size≤gb1));replace HB:=am_ (below_step (zl0_ HB) hb);clear hb hbox hg;obtain ⟨hcz28_0,hcz28_1,hcz28_2,hcz28_3,hcz28_4,hcz28_5⟩:=x6_ BK1;have hfz28_0:=blk_frozen BK1.out 0;have hfz28_1:=blk_frozen BK1.out 1;have hfz28_2:=blk_frozen BK1.out 2;have hfz28_3:=blk_frozen BK1.out 3;have hfz28_4:=blk_frozen BK1.out 4;have hfz28_5:=blk_frozen BK1.out 5)|(go_at_call 50;(with_reducible refine (r10_Find.calls k _ _ l0 a1_1 t2 _ ?side1 ?side2 A3.out).mono ?_);(case side1=>exact zc_ (Kd.C_below HR0.out HB.out));(case side2=>exact HC0.out);rintro e w' ⟨rfl,⟨nd,rfl⟩⟩;(try first|exact ⟨rfl,_,World.drewN_drewN _ _ _⟩|exact ⟨rfl,_,Eq.trans (World.drewN_drewN _ _ _) (congrArg (World.drewN _) (Nat.add_assoc _ _ _))⟩);have p6:0≤(t2:Int):=of_decide_eq_true zq_;have q6:t2<(l0.length:Int):=of_decide_eq_true zq_;obtain ⟨ad6,e6,hx6_0,hx6_1,hx6_2,hx6_3,hx6_4,hx6_5,hx6_6,hx6_7,hx6_8,hx6_9,hx6_10,hx6_11⟩:=at_T31 HR0.out t2 p6 q6;cases e6;replace hx6_0:=zx_ HB hx6_0;replace hx6_1:=zx_ HB hx6_1;replace hx6_2:=zx_ HB hx6_2;replace hx6_3:=zx_ HB hx6_3;replace hx6_4:=zx_ HB hx6_4;replace hx6_5:=zx_ HB hx6_5;replace hx6_6:=zx_ HB hx6_6;replace hx6_7:=zx_ HB hx6_7;replace hx6_8:=zx_ HB hx6_8;replace hx6_9:=zx_ HB hx6_9;replace hx6_10:=zx_ HB hx6_10;replace hx6_11:=zx_ HB hx6_11;replace p6:=eq_true p6;replace q6:=eq_true q6)))
 go_ret
 exact ⟨by first|rfl|(simp [errW_none,errW_some]<;>rfl)|(simp [*,errW_none,errW_some]<;>rfl),zl1_ HB GE1⟩
def slices_Clone_Mark.f (l0:List (S54)):Option (List (S54)):=if l0.length<2199023255552 then some l0 else none
set_option maxHeartbeats 8000000 in
set_option maxRecDepth 100000 in
theorem slices_Clone_Mark.calls (A0:Option Addr) (c0:Nat) (l0:List (S54)) (r:List (S54)) (w:World) (hr0:Kd.C k54 w A0 l0.length l0) (hc0:l0.length≤c0) (h:slices_Clone_Mark.f l0=some r):
    Calls Try.prog 112 #[.slice A0 l0.length c0] w fun e w'=> ∃v0_:Value,e= .returned (v0_)∧Kd.R k54 54 w' w.heap.size (fun _=>True) v0_ r∧Below w.heap.size w w':=by
  have hlim:l0.length<2199023255552∧l0=r:=by
    unfold slices_Clone_Mark.f at h
    split at h
    · exact ⟨by assumption,Option.some.inj h⟩
    cases h
  obtain ⟨hlim,rfl⟩:=hlim
  have hnil:=fun (W:World) (n c:Nat)=>Lib.run_eql_slice_nil (P:=Try.prog) W 35 54 A0 n c 0 0 Try.underlying35
  cases A0 with
  | none =>
    have hl:l0=[]:=by
      cases l0 with
      |nil=>rfl
      |cons x l=>exact absurd (hr0.2.2 (by simp)) (by simp)
    subst hl
    clear hr0
    go_enter Try.func112,Try.ntmps112
    go_wp2
    go_ret
    exact ⟨_,rfl,Kd.R_nil _ _ _ _ _,Below.refl _ _⟩
  | some ad =>
    have HR0:=Aside0.mk hr0
    have HC0:=Aside0.mk hc0
    have LM:=Aside0.mk hlim
    clear hr0 hc0 hlim h
    have HB:=am_ (Below.refl w.heap.size w)
    go_enter Try.func112,Try.ntmps112
    go_wp2_with (first|((with_reducible refine gate_dst (N:=5) rfl ?_);refine Kd.R_lit k54 _ 54 ?hg (N:=5) ?hd (xs:=([]:List (S54))) (inner:=[]) (ok:=fun _=>True) (okp:=fun _=>True) ?hr ?hp (fun _ hk=>hk) trivial (Below.refl _ _) (Nat.le_refl _) (by simp) ?_;(case hd=>rfl);(case hg=>rfl);(case hr=>first|(go_simp;done)|(go_simp;rfl));(case hp=>exact (Reps.none _ _));intro v2 w3 ho4 hb hg_ hnew_;clear hg_ hnew_;have HO3:=am_ (Kd.R_lower ho4 (below_size HB.out));replace HB:=am_ (below_step HB.out hb);clear hb ho4)|((with_reducible refine gate_builtin (b:= .append) (xs:=#[.tmp 5, .tmp 6]) rfl ?_);at_builtin;refine Kd.R_append_rows k54 (w0:=w) w.heap.size rfl (.tmp 5) (.tmp 6) 35 54 (.agg #[(.string ⟨#[]⟩),(.string ⟨#[]⟩),(.int .i64 0),(.int .i64 0),(.int .i64 0),(.int .i64 0)]) 64 rfl Try.underlying35 info54 rfl (by decide) (by omega) v2 [] l0 _ _ _ (fun _=>True) (fun _=>False) rfl rfl ?aO ?aR (fun _ _ h=>h) (fun _ h=>h.elim) ?aF ?aB ?aS ?aL ?_;(case aR=>exact (Kd.C_below HR0.out HB.out));(case aB=>exact HB.out);(case aF=>exact (fun _ _=>trivial));(case aO=>exact HO3.out);(case aS=>exact (below_size HB.out));(case aL=>have:=LM.out;simp;omega);intro v5 w5 ho hb hg hat;have n0_:=am_ (hb);have n1_:=am_ (ho);clear HB;clear HO3;have HB:=n0_;have HO6:=n1_;clear n0_ n1_;clear ho hb hg hat))
    go_ret
    exact ⟨_,rfl,HO6.out,HB.out⟩


end Go.Proofs.Ytcgefpklljclgaa.Print

namespace Go.Proofs.Ytcgefpklljclgaa.Print
open Go.RowKit Go.Proofs.YtcgefpklljclgaaW.PrintWords Go.Proofs.YtcgefpklljclgaaW.PrintLast Go.Proofs.YtcgefpklljclgaaW.PrintMore
theorem eff_own {α:Type} {d:Kd α} {e base:Nat} {ok:Nat→Prop} {w:World} {v:Value} {xs:List α} (h:d.R e w base ok v xs) (k:Nat) (hk:v.ownBlock=some k):base≤k∧k<w.heap.size:=⟨((Kd.R_bound h).1 k hk).2.1,((Kd.R_bound h).1 k hk).2.2.1⟩
theorem eff_old {α:Type} {d:Kd α} {e base:Nat} {ok:Nat→Prop} {w:World} {v:Value} {xs:List α} (h:d.R e w base ok v xs):d.R e w base (fun k=>k<w.heap.size) v xs:=Kd.R_mono (Kd.R_bound h) (fun k hk=>hk.2.2.1)
theorem eff_put_old {α:Type} {d:Kd α} {e base g:Nat} {w w1:World} {v:Value} {xs:List α} (h:d.R e w base (fun k=>k<g) v xs) (hg:w.grownBy w1 (some g)):d.R e w1 base (fun k=>k<g) v xs:=Kd.R_grown h hg (fun k hk e=>by cases e;exact absurd hk (Nat.lt_irrefl _))
theorem eff_ne_old {α:Type} {d:Kd α} {e base g:Nat} {w:World} {v:Value} {xs:List α} (h:d.R e w base (fun k=>k<g) v xs):some g≠v.ownBlock:=fun e=>absurd (h.1 g e.symm) (Nat.lt_irrefl g)
def Keep2 (W w:World) (o i:Nat) (row:Option Nat):Prop:=W.heap.size≤w.heap.size∧ ∀g,g<W.heap.size→g≠o→g≠i→some g≠row→w.heap[g]?=W.heap[g]?
set_option maxHeartbeats 4000000 in
set_option maxRecDepth 100000 in
theorem effPut_calls (W:World) (b0 bo bs bf bi base nl:Nat) (A:Option Addr) (c:Nat) (v:Value) (x:Bool) (out:List S54) (s0 s3 s4 s5:Int) (s1 s2:ByteArray) (f1 f2:ByteArray) (f3 f4 f5 f6 f7 f8 f9 f10 f11 f12:Int) (f13:Bool)
    (ho:W.heap[bo]?=some (.cells #[v] 35 (0,0))) (hs:W.heap[bs]?=some (.cells #[.int .i64 s0, .string s1, .string s2, .int .i64 s3, .int .i64 s4, .int .i64 s5] 58 (0,0))) (hf:W.heap[bf]?=some (.cells #[.slice A nl c, .string f1, .string f2, .int .i64 f3, .int .i64 f4, .int .i64 f5, .int .i64 f6, .int .i64 f7, .int .i64 f8, .int .i64 f9, .int .i64 f10, .int .i64 f11, .int .i64 f12, .bool f13] 142 (0,0))) (hi:W.heap[bi]?=some (.cells #[.bool x] 4 (0,0)))
    (h0:b0≤bo) (h1:bo<bi) (h2:bi<base) (h3:base≤W.heap.size) (hr:Kd.R k54 54 W base (fun _=>True) v out) (hl:out.length<1000000000):
    Calls Try.prog 111 #[.pointer (some ⟨bo,0,none⟩), .pointer (some ⟨bs,0,none⟩), .pointer (some ⟨bf,0,none⟩), .pointer (some ⟨bi,0,none⟩)] W fun e w'=>e= .returned (.tuple #[])∧ ∃v',w'.heap[bo]?=some (.cells #[v'] 35 (0,0))∧w'.heap[bi]?=some (.cells #[.bool true] 4 (0,0))∧
      Kd.R k54 54 w' base (fun _=>True) v' (out++ [⟨s1,f2,⟨f3,f4,f5⟩,f12⟩])∧Keep2 W w' bo bi v.ownBlock∧Below b0 W w':=by
  have hu142:=Try.underlying142
  have hu140:=Try.underlying140
  have hu31:=Try.underlying31
  have hu54:=Try.underlying54
  have hu58:=Try.underlying58
  have co:=(blk_cell ho 0).trans rfl
  have cs1:=(blk_cell hs 1).trans rfl
  have cf2:=(blk_cell hf 2).trans rfl
  have cf3:=(blk_cell hf 3).trans rfl
  have cf4:=(blk_cell hf 4).trans rfl
  have cf5:=(blk_cell hf 5).trans rfl
  have cf12:=(blk_cell hf 12).trans rfl
  have HOT:=am_ (blk_lt ho)
  have HIT:=am_ (blk_lt hi)
  have HO:=Aside0.mk hr
  have BO:=Aside0.mk ho
  have BI:=Aside0.mk hi
  have HL:=Aside0.mk hl
  have HOWN:=am_ (eff_own hr)
  have H0:=Aside0.mk h0
  have H1:=Aside0.mk h1
  have H2:=Aside0.mk h2
  have H3:=Aside0.mk h3
  have NBI:=am_ (show bi≠bo by omega)
  obtain ⟨Au,cu,eu⟩:=Kd.R_slice hr
  subst eu
  clear ho hs hf hi hr hl h0 h1 h2 h3
  go_enter Try.func111,Try.ntmps111
  go_wp2_with (first|((with_reducible refine gate_builtin (b:= .append) (xs:=#[.tmp 4, .tmp 17]) rfl ?_);at_builtin;refine Kd.R_append k54 (w0:=W) base rfl (.tmp 4) (.tmp 17) 35 54 (.agg #[(.string ⟨#[]⟩),(.string ⟨#[]⟩),(.int .i64 0),(.int .i64 0),(.int .i64 0),(.int .i64 0)]) 64 rfl Try.underlying35 info54 rfl (by decide) (by omega) _ out ⟨s1,f2,⟨f3,f4,f5⟩,f12⟩ [.string s1, .string f2, .int .i64 f3, .int .i64 f4, .int .i64 f5, .int .i64 f12] (fun _=>True) (fun _=>False) rfl (by first|(go_simp;done)|(go_simp;rfl)) ?aP (fun _ hk=>hk.elim) ?aF ?aO ?aB ?aS ?aL ?_;(case aP=>exact k54_mkM _ _ _ (⟨s1,f2,⟨f3,f4,f5⟩,f12⟩:S54));(case aF=>exact fun _ _=>trivial);(case aO=>exact HO.out);(case aB=>exact Below.refl _ _);(case aS=>exact H3.out);(case aL=>have:=HL.out;omega);intro v5 w8 ho hb hg hat;have HO8:=Aside0.mk ho;have HG8:=Aside0.mk hg;have HAT:=Aside0.mk hat;have hne:some bo≠_:=Kd.R_ne HO.out BO.out (by decide);have hni:some bi≠_:=Kd.R_ne HO.out BI.out (by decide);have BO8:=am_ (blk_grown BO.out hg hne);have BI8:=am_ (blk_grown BI.out hg hni);have zo:=blk_frozen BO8.out 0;have zi:=blk_frozen BI8.out 0;have do_:=(blk_cell BO8.out 0).trans rfl;have di:=(blk_cell BI8.out 0).trans rfl;clear ho hb hg hat hne hni;obtain ⟨Ao,co_,eo⟩:=Kd.R_slice HO8.out;subst eo)|((with_reducible refine gate_store (t:=35) (p:=0) (v:= .tmp 18) rfl ?_);refine store_all BO8.out 35 (.tmp 0) (.tmp 18) rfl rfl rfl _ [_] rfl rfl rfl (by kernel_rfl) rfl (by intro q hq;simp only [List.mem_cons,List.not_mem_nil,or_false] at hq;rcases hq with rfl;rfl) ?_;intro w9 hbk hg9;have BO9:=Aside0.mk hbk;have HG9:=Aside0.mk hg9;have BI9:=am_ (blk_put_other BI8.out hg9 NBI.out);have HO9:=am_ (R_put HO8.out BO8.out (by decide) hg9);clear hbk hg9)|((with_reducible refine gate_store (t:=4) (p:=3) (v:= .const (.bool true)) rfl ?_);refine store_all BI9.out 4 (.tmp 3) (.const (.bool true)) rfl rfl rfl (.bool true) [.bool true] rfl rfl rfl (by kernel_rfl) rfl (by intro q hq;simp only [List.mem_cons,List.not_mem_nil,or_false] at hq;rcases hq with rfl;rfl) ?_;intro w10 hbk hg10;have BI10:=Aside0.mk hbk;have HG10:=Aside0.mk hg10;have BO10:=am_ (blk_put_other BO9.out hg10 (fun e=>NBI.out e.symm));have HO10:=am_ (R_put HO9.out BI9.out (by decide) hg10);clear hbk hg10))
  (first|go_end0|((try simp only [Exit.inBlock,Exit.then]);refine bodyPost_ret (results_none rfl _ _ _) rfl ?_)|refine bodyPost_end (results_none rfl _ _ _) rfl ?_)
  refine ⟨rfl,_,BO10.out,BI10.out,(by first|exact HO10.out|(have q:=HO10.out;simp only [List.length_append,List.length_cons,List.length_nil,Nat.zero_add] at q ⊢;exact q)),⟨?_,fun g hg h4 h5 h6=> ?_⟩, ?_⟩
  · exact Nat.le_trans HG8.out.size (Nat.le_trans HG9.out.size HG10.out.size)
  · rw [HG10.out.block g (Nat.lt_of_lt_of_le hg (Nat.le_trans HG8.out.size HG9.out.size)) (fun e => h5 (Option.some.inj e)), HG9.out.block g (Nat.lt_of_lt_of_le hg HG8.out.size) (fun e => h4 (Option.some.inj e))]
    exact HG8.out.block g hg h6
  have hb0:b0≤bi:=by have:=H0.out;have:=H1.out;omega
  have hbs:b0≤W.heap.size:=by have:=H0.out;have:=HOT.out;omega
  have q8:Below b0 W w8:=pw_below_grown (Below.refl b0 W) _ hbs HG8.out (fun k e=>by have:=(HOWN.out k e).1;have:=H2.out;omega)
  exact below_put (below_put q8 (Nat.le_trans hbs HG8.out.size) HG9.out H0.out) (Nat.le_trans hbs (Nat.le_trans HG8.out.size HG9.out.size)) HG10.out hb0
end Go.Proofs.Ytcgefpklljclgaa.Print

/- DriftTells: a part -/
import Derived.Test.YtcgefpklljclgaaProg
import Derived.Below
import Derived.Deep.Draws
import Derived.Deep.AppendLies
import Derived.Maps.AppendAt
import Derived.OwnWalk
import Derived.Laws.BytesArg
import Derived.Laws.MakeOwn
import Derived.Laws.OwnMore
import Derived.Deep.OwnRows
import Derived.Tactics
import Derived.Lib.ConvBytes
import Derived.Laws.Slices
import Derived.WalkKit
import Derived.KernelRfl
import Derived.RowKit3
import Derived.Deep.LoopGhost
import Derived.Deep.QuietTactic
import Derived.BigQuiet
import Derived.WideLaws
import Derived.Deep.DeepCutAuto
import Derived.Deep.CutBlock
import Derived.Deep.RegionHeld3
import Derived.Laws.Rows
import Derived.Lib.AppendStr
import Derived.ArgAppend
import Derived.Laws.IdiomCopy
import Derived.OrdersHeld
import Derived.Laws.BitsLemmas
import Derived.RowKit
import Derived.Shelf.Abstract
import Derived.Test.YtcgefpklljclgaaBDriftTells0
set_option linter.unusedVariables false
set_option linter.unusedSimpArgs false
namespace Go.Proofs.Ytcgefpklljclgaa.Print
open Go.RowKit Go.Proofs.YtcgefpklljclgaaW.PrintWords Go.Proofs.YtcgefpklljclgaaW.PrintLast Go.Proofs.YtcgefpklljclgaaW.PrintMore
attribute [local go_sem] max2_int min2_int max_two min_two max_three min_three max_four min_four



def errW:Option Int→Value
 |none=> .nilIface
 |some c=> .iface 0 (.int .i64 c)
theorem errW_none:errW none= .nilIface:=rfl
theorem errW_some (c:Int):errW (some c)= .iface 0 (.int .i64 c):=rfl

theorem info9:(Try.prog.info? 9).map (fun i=>(i.zero,i.size,i.bytes))=some (some (.string ⟨#[]⟩),1,16):=by kernel_rfl
theorem info31:(Try.prog.info? 31).map (fun i=>(i.zero,i.size,i.bytes))=some (some (.agg #[(.string ⟨#[]⟩),(.string ⟨#[]⟩),(.int .i64 0),(.int .i64 0),(.int .i64 0),(.int .i64 0),(.int .i64 0),(.int .i64 0),(.int .i64 0),(.int .i64 0),(.int .i64 0),(.int .i64 0)]),12,112):=by kernel_rfl
theorem info37:(Try.prog.info? 37).map (fun i=>(i.zero,i.size,i.bytes))=some (some (.agg #[(.string ⟨#[]⟩),(.int .i64 0)]),2,24):=by kernel_rfl
theorem info54:(Try.prog.info? 54).map (fun i=>(i.zero,i.size,i.bytes))=some (some (.agg #[(.string ⟨#[]⟩),(.string ⟨#[]⟩),(.int .i64 0),(.int .i64 0),(.int .i64 0),(.int .i64 0)]),6,64):=by kernel_rfl
theorem info58:(Try.prog.info? 58).map (fun i=>(i.zero,i.size,i.bytes))=some (some (.agg #[(.int .i64 0),(.string ⟨#[]⟩),(.string ⟨#[]⟩),(.int .i64 0),(.int .i64 0),(.int .i64 0)]),6,64):=by kernel_rfl
-- the values' own types
structure S27 where
 f0:Int
 f1:Int
 f2:Int
def z27:S27:=⟨(0:Int),(0:Int),(0:Int)⟩
def k27:Kd S27:=Kd.iso (Kd.pair (Kd.int .i64) (Kd.pair (Kd.int .i64) (Kd.int .i64))) (fun x:S27=>(x.f0,x.f1,x.f2))
theorem k27_open {w:World} {x:S27} {cs:List Value} (h:k27.K w x cs):cs=[.int .i64 x.f0, .int .i64 x.f1, .int .i64 x.f2]:=by
 obtain ⟨_,_,rfl,rfl,⟨_,_,rfl,rfl,rfl⟩⟩:=h
 exact rfl
theorem k27_openM {w:World} {base:Nat} {ok:Nat→Prop} {x:S27} {cs:List Value} (h:k27.M w base ok x cs):cs=[.int .i64 x.f0, .int .i64 x.f1, .int .i64 x.f2]:=by
 obtain ⟨_,_,rfl,rfl,⟨_,_,rfl,rfl,rfl⟩⟩:=h
 exact rfl
theorem k27_mkM (w:World) (base:Nat) (ok:Nat→Prop) (x:S27):k27.M w base ok x [.int .i64 x.f0, .int .i64 x.f1, .int .i64 x.f2]:=⟨[.int .i64 x.f0],[.int .i64 x.f1, .int .i64 x.f2],rfl,rfl,⟨[.int .i64 x.f1],[.int .i64 x.f2],rfl,rfl,rfl⟩⟩
structure S31 where
 f0:ByteArray
 f1:ByteArray
 f2:S27
 f3:S27
 f4:S27
 f5:Int
def z31:S31:=⟨(⟨#[]⟩:ByteArray),(⟨#[]⟩:ByteArray),z27,z27,z27,(0:Int)⟩
def k31:Kd S31:=Kd.iso (Kd.pair Kd.string (Kd.pair Kd.string (Kd.pair k27 (Kd.pair k27 (Kd.pair k27 (Kd.int .i64)))))) (fun x:S31=>(x.f0,x.f1,x.f2,x.f3,x.f4,x.f5))
theorem k31_open {w:World} {x:S31} {cs:List Value} (h:k31.K w x cs):cs=[.string x.f0, .string x.f1, .int .i64 x.f2.f0, .int .i64 x.f2.f1, .int .i64 x.f2.f2, .int .i64 x.f3.f0, .int .i64 x.f3.f1, .int .i64 x.f3.f2, .int .i64 x.f4.f0, .int .i64 x.f4.f1, .int .i64 x.f4.f2, .int .i64 x.f5]:=by
 obtain ⟨_,_,rfl,rfl,⟨_,_,rfl,rfl,⟨_,_,rfl,s2,⟨_,_,rfl,s5,⟨_,_,rfl,s8,rfl⟩⟩⟩⟩⟩:=h
 obtain rfl:=k27_open s2
 obtain rfl:=k27_open s5
 obtain rfl:=k27_open s8
 exact rfl
theorem k31_openM {w:World} {base:Nat} {ok:Nat→Prop} {x:S31} {cs:List Value} (h:k31.M w base ok x cs):cs=[.string x.f0, .string x.f1, .int .i64 x.f2.f0, .int .i64 x.f2.f1, .int .i64 x.f2.f2, .int .i64 x.f3.f0, .int .i64 x.f3.f1, .int .i64 x.f3.f2, .int .i64 x.f4.f0, .int .i64 x.f4.f1, .int .i64 x.f4.f2, .int .i64 x.f5]:=by
 obtain ⟨_,_,rfl,rfl,⟨_,_,rfl,rfl,⟨_,_,rfl,s2,⟨_,_,rfl,s5,⟨_,_,rfl,s8,rfl⟩⟩⟩⟩⟩:=h
 obtain rfl:=k27_openM s2
 obtain rfl:=k27_openM s5
 obtain rfl:=k27_openM s8
 exact rfl
theorem k31_mkM (w:World) (base:Nat) (ok:Nat→Prop) (x:S31):k31.M w base ok x [.string x.f0, .string x.f1, .int .i64 x.f2.f0, .int .i64 x.f2.f1, .int .i64 x.f2.f2, .int .i64 x.f3.f0, .int .i64 x.f3.f1, .int .i64 x.f3.f2, .int .i64 x.f4.f0, .int .i64 x.f4.f1, .int .i64 x.f4.f2, .int .i64 x.f5]:=⟨[.string x.f0],[.string x.f1, .int .i64 x.f2.f0, .int .i64 x.f2.f1, .int .i64 x.f2.f2, .int .i64 x.f3.f0, .int .i64 x.f3.f1, .int .i64 x.f3.f2, .int .i64 x.f4.f0, .int .i64 x.f4.f1, .int .i64 x.f4.f2, .int .i64 x.f5],rfl,rfl,⟨[.string x.f1],[.int .i64 x.f2.f0, .int .i64 x.f2.f1, .int .i64 x.f2.f2, .int .i64 x.f3.f0, .int .i64 x.f3.f1, .int .i64 x.f3.f2, .int .i64 x.f4.f0, .int .i64 x.f4.f1, .int .i64 x.f4.f2, .int .i64 x.f5],rfl,rfl,⟨[.int .i64 x.f2.f0, .int .i64 x.f2.f1, .int .i64 x.f2.f2],[.int .i64 x.f3.f0, .int .i64 x.f3.f1, .int .i64 x.f3.f2, .int .i64 x.f4.f0, .int .i64 x.f4.f1, .int .i64 x.f4.f2, .int .i64 x.f5],rfl,(k27_mkM w base ok x.f2),⟨[.int .i64 x.f3.f0, .int .i64 x.f3.f1, .int .i64 x.f3.f2],[.int .i64 x.f4.f0, .int .i64 x.f4.f1, .int .i64 x.f4.f2, .int .i64 x.f5],rfl,(k27_mkM w base ok x.f3),⟨[.int .i64 x.f4.f0, .int .i64 x.f4.f1, .int .i64 x.f4.f2],[.int .i64 x.f5],rfl,(k27_mkM w base ok x.f4),rfl⟩⟩⟩⟩⟩
def rd_T31 (xs:List S31) (i:Int):S31:=xs.getD i.toNat z31
theorem at_T31 {w:World} {A:Option Addr} {n:Nat} {xs:List S31} (h:Kd.C k31 w A n xs) (i:Int) (h0:0≤i) (h1:i<n): ∃ad,A=some ad∧w.cell? (ad.add (i.toNat*12))=some (.string (rd_T31 xs i).f0)∧w.cell? ⟨(ad.add (i.toNat*12)).block,(ad.add (i.toNat*12)).off+1,none⟩=some (.string (rd_T31 xs i).f1)∧w.cell? ⟨(ad.add (i.toNat*12)).block,(ad.add (i.toNat*12)).off+2,none⟩=some (.int .i64 (rd_T31 xs i).f2.f0)∧w.cell? ⟨(ad.add (i.toNat*12)).block,(ad.add (i.toNat*12)).off+3,none⟩=some (.int .i64 (rd_T31 xs i).f2.f1)∧w.cell? ⟨(ad.add (i.toNat*12)).block,(ad.add (i.toNat*12)).off+4,none⟩=some (.int .i64 (rd_T31 xs i).f2.f2)∧w.cell? ⟨(ad.add (i.toNat*12)).block,(ad.add (i.toNat*12)).off+5,none⟩=some (.int .i64 (rd_T31 xs i).f3.f0)∧w.cell? ⟨(ad.add (i.toNat*12)).block,(ad.add (i.toNat*12)).off+6,none⟩=some (.int .i64 (rd_T31 xs i).f3.f1)∧w.cell? ⟨(ad.add (i.toNat*12)).block,(ad.add (i.toNat*12)).off+7,none⟩=some (.int .i64 (rd_T31 xs i).f3.f2)∧w.cell? ⟨(ad.add (i.toNat*12)).block,(ad.add (i.toNat*12)).off+8,none⟩=some (.int .i64 (rd_T31 xs i).f4.f0)∧w.cell? ⟨(ad.add (i.toNat*12)).block,(ad.add (i.toNat*12)).off+9,none⟩=some (.int .i64 (rd_T31 xs i).f4.f1)∧w.cell? ⟨(ad.add (i.toNat*12)).block,(ad.add (i.toNat*12)).off+10,none⟩=some (.int .i64 (rd_T31 xs i).f4.f2)∧w.cell? ⟨(ad.add (i.toNat*12)).block,(ad.add (i.toNat*12)).off+11,none⟩=some (.int .i64 (rd_T31 xs i).f5):=by
 obtain ⟨ad,c,e,_,hK,hc0⟩:=Kd.C_get h z31 i h0 h1
 have hc: ∀j u,c[j]?=some u→w.cell? (ad.add (i.toNat*12+j))=some u:=hc0
 obtain rfl:=k31_open hK
 exact ⟨ad,e,hc 0 _ rfl,by rw [←add_field _ _ 1 (by omega)];exact hc 1 _ rfl,by rw [←add_field _ _ 2 (by omega)];exact hc 2 _ rfl,by rw [←add_field _ _ 3 (by omega)];exact hc 3 _ rfl,by rw [←add_field _ _ 4 (by omega)];exact hc 4 _ rfl,by rw [←add_field _ _ 5 (by omega)];exact hc 5 _ rfl,by rw [←add_field _ _ 6 (by omega)];exact hc 6 _ rfl,by rw [←add_field _ _ 7 (by omega)];exact hc 7 _ rfl,by rw [←add_field _ _ 8 (by omega)];exact hc 8 _ rfl,by rw [←add_field _ _ 9 (by omega)];exact hc 9 _ rfl,by rw [←add_field _ _ 10 (by omega)];exact hc 10 _ rfl,by rw [←add_field _ _ 11 (by omega)];exact hc 11 _ rfl⟩

structure S37 where
 f0:ByteArray
 f1:Int
def z37:S37:=⟨(⟨#[]⟩:ByteArray),(0:Int)⟩
def k37:Kd S37:=Kd.iso (Kd.pair Kd.string (Kd.int .i64)) (fun x:S37=>(x.f0,x.f1))
theorem k37_open {w:World} {x:S37} {cs:List Value} (h:k37.K w x cs):cs=[.string x.f0, .int .i64 x.f1]:=by
 obtain ⟨_,_,rfl,rfl,rfl⟩:=h
 exact rfl
theorem k37_mkM (w:World) (base:Nat) (ok:Nat→Prop) (x:S37):k37.M w base ok x [.string x.f0, .int .i64 x.f1]:=⟨[.string x.f0],[.int .i64 x.f1],rfl,rfl,rfl⟩
def rd_T37 (xs:List S37) (i:Int):S37:=xs.getD i.toNat z37
theorem at_T37 {w:World} {A:Option Addr} {n:Nat} {xs:List S37} (h:Kd.C k37 w A n xs) (i:Int) (h0:0≤i) (h1:i<n): ∃ad,A=some ad∧w.cell? (ad.add (i.toNat*2))=some (.string (rd_T37 xs i).f0)∧w.cell? ⟨(ad.add (i.toNat*2)).block,(ad.add (i.toNat*2)).off+1,none⟩=some (.int .i64 (rd_T37 xs i).f1):=by
 obtain ⟨ad,c,e,_,hK,hc0⟩:=Kd.C_get h z37 i h0 h1
 have hc: ∀j u,c[j]?=some u→w.cell? (ad.add (i.toNat*2+j))=some u:=hc0
 obtain rfl:=k37_open hK
 exact ⟨ad,e,hc 0 _ rfl,by rw [←add_field _ _ 1 (by omega)];exact hc 1 _ rfl⟩

structure S54 where
 f0:ByteArray
 f1:ByteArray
 f2:S27
 f3:Int
def z54:S54:=⟨(⟨#[]⟩:ByteArray),(⟨#[]⟩:ByteArray),z27,(0:Int)⟩
def k54:Kd S54:=Kd.iso (Kd.pair Kd.string (Kd.pair Kd.string (Kd.pair k27 (Kd.int .i64)))) (fun x:S54=>(x.f0,x.f1,x.f2,x.f3))
theorem k54_open {w:World} {x:S54} {cs:List Value} (h:k54.K w x cs):cs=[.string x.f0, .string x.f1, .int .i64 x.f2.f0, .int .i64 x.f2.f1, .int .i64 x.f2.f2, .int .i64 x.f3]:=by
 obtain ⟨_,_,rfl,rfl,⟨_,_,rfl,rfl,⟨_,_,rfl,s2,rfl⟩⟩⟩:=h
 obtain rfl:=k27_open s2
 exact rfl
theorem k54_mkM (w:World) (base:Nat) (ok:Nat→Prop) (x:S54):k54.M w base ok x [.string x.f0, .string x.f1, .int .i64 x.f2.f0, .int .i64 x.f2.f1, .int .i64 x.f2.f2, .int .i64 x.f3]:=⟨[.string x.f0],[.string x.f1, .int .i64 x.f2.f0, .int .i64 x.f2.f1, .int .i64 x.f2.f2, .int .i64 x.f3],rfl,rfl,⟨[.string x.f1],[.int .i64 x.f2.f0, .int .i64 x.f2.f1, .int .i64 x.f2.f2, .int .i64 x.f3],rfl,rfl,⟨[.int .i64 x.f2.f0, .int .i64 x.f2.f1, .int .i64 x.f2.f2],[.int .i64 x.f3],rfl,(k27_mkM w base ok x.f2),rfl⟩⟩⟩
def rd_T54 (xs:List S54) (i:Int):S54:=xs.getD i.toNat z54
theorem at_T54 {w:World} {A:Option Addr} {n:Nat} {xs:List S54} (h:Kd.C k54 w A n xs) (i:Int) (h0:0≤i) (h1:i<n): ∃ad,A=some ad∧w.cell? (ad.add (i.toNat*6))=some (.string (rd_T54 xs i).f0)∧w.cell? ⟨(ad.add (i.toNat*6)).block,(ad.add (i.toNat*6)).off+1,none⟩=some (.string (rd_T54 xs i).f1)∧w.cell? ⟨(ad.add (i.toNat*6)).block,(ad.add (i.toNat*6)).off+2,none⟩=some (.int .i64 (rd_T54 xs i).f2.f0)∧w.cell? ⟨(ad.add (i.toNat*6)).block,(ad.add (i.toNat*6)).off+3,none⟩=some (.int .i64 (rd_T54 xs i).f2.f1)∧w.cell? ⟨(ad.add (i.toNat*6)).block,(ad.add (i.toNat*6)).off+4,none⟩=some (.int .i64 (rd_T54 xs i).f2.f2)∧w.cell? ⟨(ad.add (i.toNat*6)).block,(ad.add (i.toNat*6)).off+5,none⟩=some (.int .i64 (rd_T54 xs i).f3):=by
 obtain ⟨ad,c,e,_,hK,hc0⟩:=Kd.C_get h z54 i h0 h1
 have hc: ∀j u,c[j]?=some u→w.cell? (ad.add (i.toNat*6+j))=some u:=hc0
 obtain rfl:=k54_open hK
 exact ⟨ad,e,hc 0 _ rfl,by rw [←add_field _ _ 1 (by omega)];exact hc 1 _ rfl,by rw [←add_field _ _ 2 (by omega)];exact hc 2 _ rfl,by rw [←add_field _ _ 3 (by omega)];exact hc 3 _ rfl,by rw [←add_field _ _ 4 (by omega)];exact hc 4 _ rfl,by rw [←add_field _ _ 5 (by omega)];exact hc 5 _ rfl⟩

structure S58 where
 f0:Int
 f1:ByteArray
 f2:ByteArray
 f3:S27
def k58:Kd S58:=Kd.iso (Kd.pair (Kd.int .i64) (Kd.pair Kd.string (Kd.pair Kd.string k27))) (fun x:S58=>(x.f0,x.f1,x.f2,x.f3))
theorem k58_mkM (w:World) (base:Nat) (ok:Nat→Prop) (x:S58):k58.M w base ok x [.int .i64 x.f0, .string x.f1, .string x.f2, .int .i64 x.f3.f0, .int .i64 x.f3.f1, .int .i64 x.f3.f2]:=⟨[.int .i64 x.f0],[.string x.f1, .string x.f2, .int .i64 x.f3.f0, .int .i64 x.f3.f1, .int .i64 x.f3.f2],rfl,rfl,⟨[.string x.f1],[.string x.f2, .int .i64 x.f3.f0, .int .i64 x.f3.f1, .int .i64 x.f3.f2],rfl,rfl,⟨[.string x.f2],[.int .i64 x.f3.f0, .int .i64 x.f3.f1, .int .i64 x.f3.f2],rfl,rfl,(k27_mkM w base ok x.f3)⟩⟩⟩
structure S180 where
 f0:ByteArray
 f1:ByteArray
 f2:S27
structure S113 where
 f0:(List S31)
 f1:Int
 f2:Int
theorem eqA27 (d:Nat) (w:World) (x0 y0:Int) (x1 y1:Int) (x2 y2:Int):
  (Op.equalIn (d+2) 27 (.agg #[.int .i64 x0, .int .i64 x1, .int .i64 x2]) (.agg #[.int .i64 y0, .int .i64 y1, .int .i64 y2])).run Try.prog w= .ok (x0==y0 && (x1==y1 && (x2==y2))) w:=by
 refine eqA_of Try.underlying27 (by kernel_rfl) ?_
 refine eqf_cons (by rfl) (by go_simp;rfl) (by go_simp;rfl) (by go_simp) ?_
 refine eqf_cons (by rfl) (by go_simp;rfl) (by go_simp;rfl) (by go_simp) ?_
 exact eqf_last (by rfl) (by go_simp;rfl) (by go_simp;rfl) (by go_simp)
theorem eqA37 (d:Nat) (w:World) (x0 y0:ByteArray) (x1 y1:Int):
  (Op.equalIn (d+2) 37 (.agg #[.string x0, .int .i64 x1]) (.agg #[.string y0, .int .i64 y1])).run Try.prog w= .ok (x0.toList==y0.toList && (x1==y1)) w:=by
 refine eqA_of Try.underlying37 (by kernel_rfl) ?_
 refine eqf_cons (by rfl) (by go_simp;rfl) (by go_simp;rfl) (by go_simp) ?_
 exact eqf_last (by rfl) (by go_simp;rfl) (by go_simp;rfl) (by go_simp)
def r10_Find.l0:Nat→List (S31)→ByteArray→Int→Option (Int)
 |0,_,_,_=>none
 |k+1,x0,x1,x5=>if x5<(x0.length:Int) then (if 0≤x5 then (if ((rd_T31 x0 x5).f0).toList=x1.toList then (some x5) else (r10_Find.l0 k x0 x1 (wrap64 (x5+1)))) else (none)) else (some (-1))
def r10_Find.f (k:Nat) (l0:List (S31)) (a1:ByteArray):Option (Int):=r10_Find.l0 k l0 a1 0
theorem r10_Find.mono_l: ∀k,(∀y0 y1 y2,LeO (r10_Find.l0 k y0 y1 y2) (r10_Find.l0 (k+1) y0 y1 y2))
 |0=>fun _ _ _ r h=>by simp [r10_Find.l0] at h
 |k+1=>by
  have ih0:=r10_Find.mono_l k
  intro y0 y1 y2
  unfold r10_Find.l0
  repeat' first
  |(with_reducible exact ih0 _ _ _)
  |(with_reducible exact LeO.refl _)
  |(with_reducible exact LeO.none _)
  |(with_reducible refine LeO.ite ?_ ?_)
  |(with_reducible refine LeO.bind ?_ (fun _=> ?_))
  |exact ih0 _ _ _
  |exact LeO.none _
  |refine LeO.ite ?_ ?_
  |refine LeO.bind ?_ (fun _=> ?_)
theorem r10_Find.mono: ∀a0 a1 k,LeO (r10_Find.f k a0 a1) (r10_Find.f (k+1) a0 a1):=by
 intro a0 a1 k
 have ih0:=r10_Find.mono_l k
 unfold r10_Find.f
 repeat' first
  |(with_reducible exact ih0 _ _ _)
  |(with_reducible exact LeO.refl _)
  |(with_reducible exact LeO.none _)
  |(with_reducible refine LeO.ite ?_ ?_)
  |(with_reducible refine LeO.bind ?_ (fun _=> ?_))
  |exact ih0 _ _ _
  |exact LeO.none _
  |refine LeO.ite ?_ ?_
  |refine LeO.bind ?_ (fun _=> ?_)
set_option maxHeartbeats 8000000 in
set_option maxRecDepth 100000 in
theorem r10_Find.calls (k:Nat) (A0:Option Addr) (c0:Nat) (l0:List (S31)) (a1:ByteArray) (r:Int) (w:World) (hr0:Kd.C k31 w A0 l0.length l0) (hc0:l0.length≤c0) (h:r10_Find.f k l0 a1=some r):
  Calls Try.prog 50 #[.slice A0 l0.length c0, .string a1] w fun e w'=>e= .returned (.int .i64 r)∧Drawn0 w w':=by
 have HR0:=Aside0.mk hr0
 have HC0:=Aside0.mk hc0
 clear hr0 hc0
 have H:(r10_Find.l0 k l0 a1 0)=some r:=h
 clear h
 have H':=Aside0.mk H
 clear H
 go_enter Try.func50,Try.ntmps50
 go_wp2
 go_loopg [5] k (fun kq v5 w'=> ∃(x5_1:Int),v5= .int .i64 x5_1∧Aside0 (r10_Find.l0 kq l0 a1 x5_1=some r)∧Aside0 (kq≤k)∧Drawn0 w w')
 case atStart=>exact ⟨(0),(by first|rfl|(simp;done)|(simp [*];done)),H',⟨Nat.le_refl _⟩,by repeat (first|exact Drawn0.refl _|apply Drawn0.step)⟩
 case round=>
  clear H'
  try clear p2
  obtain ⟨x5_1,rfl,HA,HK1,⟨m1,rfl⟩⟩:=hrel
  cases gk with
  |zero=>exact absurd HA.out (by simp [r10_Find.l0])
  |succ k1=>
   have H:=HA.out
   clear HA
   simp only [r10_Find.l0] at H
   by_cases c3:x5_1<(l0.length:Int)
   rotate_left
   ·rw [if_neg c3] at H
    have c3b0:decide (x5_1<(l0.length:Int))=false:=decide_eq_false c3
    clear c3
    obtain rfl:=Option.some.inj H
    go_wp2
    go_ret
    exact ⟨by first|rfl|(simp;done)|(simp [*];done),by repeat (first|exact Drawn0.refl _|apply Drawn0.step)⟩

   rw [if_pos c3] at H
   have c3b0:decide (x5_1<(l0.length:Int))=true:=decide_eq_true c3
   clear c3
   by_cases c4:0≤x5_1
   rotate_left
   ·rw [if_neg c4] at H
    exact absurd H (by simp)
   rw [if_pos c4] at H
   have c4b0:decide (0≤x5_1)=true:=decide_eq_true c4
   clear c4
   by_cases c5:((rd_T31 l0 x5_1).f0).toList=a1.toList
   ·rw [if_pos c5] at H
    have c5b0:(((rd_T31 l0 x5_1).f0).toList==a1.toList)=true:=beq_iff_eq.mpr c5
    have c5b1:(((rd_T31 l0 x5_1).f0).toList !=a1.toList)=false:=bne_eq_false_iff_eq.mpr c5
    clear c5
    obtain rfl:=Option.some.inj H
    have p1:0≤(x5_1:Int):=of_decide_eq_true zq_
    have q1:x5_1<(l0.length:Int):=of_decide_eq_true zq_
    obtain ⟨ad1,e1,hx1_0,hx1_1,hx1_2,hx1_3,hx1_4,hx1_5,hx1_6,hx1_7,hx1_8,hx1_9,hx1_10,hx1_11⟩:=at_T31 HR0.out x5_1 p1 q1
    cases e1
    replace p1:=eq_true p1
    replace q1:=eq_true q1
    go_wp2
    go_ret
    exact ⟨by first|rfl|(simp;done)|(simp [*];done),by repeat (first|exact Drawn0.refl _|apply Drawn0.step)⟩
   rw [if_neg c5] at H
   have c5b0:(((rd_T31 l0 x5_1).f0).toList==a1.toList)=false:=beq_eq_false_iff_ne.mpr c5
   have c5b1:(((rd_T31 l0 x5_1).f0).toList !=a1.toList)=true:=bne_iff_ne.mpr c5
   have H':=Aside0.mk H
   clear H
   have p1:0≤(x5_1:Int):=of_decide_eq_true zq_
   have q1:x5_1<(l0.length:Int):=of_decide_eq_true zq_
   obtain ⟨ad1,e1,hx1_0,hx1_1,hx1_2,hx1_3,hx1_4,hx1_5,hx1_6,hx1_7,hx1_8,hx1_9,hx1_10,hx1_11⟩:=at_T31 HR0.out x5_1 p1 q1
   cases e1
   replace p1:=eq_true p1
   replace q1:=eq_true q1
   go_wp2
   go_roundg k1
   case measure=>have:=HK1.out;omega
   case rel=>exact ⟨(wrap64 (x5_1+1)),(by first|rfl|(simp;done)|(simp [*];done)),H',⟨by have:=HK1.out;omega⟩,by repeat (first|exact Drawn0.refl _|apply Drawn0.step)⟩
def fidx {α:Type} (p:α→Bool):List α→Int→Int
 |[],_=> -1
 |x::l,i=>if p x=true then i else fidx p l (i+1)
theorem fidx_drop {α:Type} (p:α→Bool) (z:α) (l:List α) (i:Nat) (h:i<l.length):fidx p (l.drop i) i=if p (l.getD i z)=true then (i:Int) else fidx p (l.drop (i+1)) ((i+1:Nat):Int):=by
 rw [List.drop_eq_getElem_cons h,List.getD_eq_getElem?_getD,List.getElem?_eq_getElem h]
 rfl
def itemCells (x:S31):Array Value:=#[.string x.f0, .string x.f1, .int .i64 x.f2.f0, .int .i64 x.f2.f1, .int .i64 x.f2.f2, .int .i64 x.f3.f0, .int .i64 x.f3.f1, .int .i64 x.f3.f2, .int .i64 x.f4.f0, .int .i64 x.f4.f1, .int .i64 x.f4.f2, .int .i64 x.f5]
set_option maxHeartbeats 1000000 in
set_option maxRecDepth 100000 in
theorem idxItem_calls (g:Nat) (lb:Array Value) (p:S31→Bool) (eg: ∀args w,(callFunc g args).run Try.prog w= .ok (.enter g args) w) (w:World)
    (hp: ∀W x,Below w.heap.size w W→Calls Try.prog g (#[.agg (itemCells x)]++lb) W fun e w'=>e= .returned (.bool (p x))∧Below W.heap.size W w')
    (A:Option Addr) (c:Nat) (l:List S31) (hr0:Kd.C k31 w A l.length l) (hc0:l.length≤c):
    Calls Try.prog 127 #[.slice A l.length c, .func (.func g) #[] lb] w fun e w'=>e= .returned (.int .i64 (fidx p l 0))∧Below w.heap.size w w':=by
  have hu31:=Try.underlying31
  have HR0:=Aside0.mk hr0
  have HP:=Aside0.mk hp
  have HEG:=Aside0.mk eg
  have hm:l.length≤9223372036854775807:=hr0.2.1
  clear hr0 hp eg
  go_enter Try.func127,Try.ntmps127
  go_wp2
  go_loopg [5,8] l.length (fun kq s5 s8 wr=> ∃i:Nat,i≤l.length∧l.length - i≤kq∧s8= .int .i64 i∧Aside0 (Below w.heap.size w wr)∧Aside0 (fidx p l 0=fidx p (l.drop i) i))
  case atStart=>exact ⟨0,by omega,by omega,rfl,⟨Below.refl _ _⟩,⟨rfl⟩⟩
  case round=>
    obtain ⟨i,hi,hg,rfl,HB,HF⟩:=hrel
    by_cases hlt:i<l.length
    rotate_left
    · obtain rfl : i = l.length := by omega
      go_wp2
      go_ret
      refine ⟨?_,HB.out⟩
      rw [HF.out,List.drop_length]
      rfl


    have hltz:(i:Int)<(l.length:Int):=by omega
    obtain ⟨ad,e1,h0,h1,h2,h3,h4,h5,h6,h7,h8,h9,h10,h11⟩:=at_T31 HR0.out (i:Int) (by omega) (by omega)
    cases e1
    simp only [Int.toNat_natCast] at h0 h1 h2 h3 h4 h5 h6 h7 h8 h9 h10 h11
    replace h0:=zx_ HB h0
    replace h1:=zx_ HB h1
    replace h2:=zx_ HB h2
    replace h3:=zx_ HB h3
    replace h4:=zx_ HB h4
    replace h5:=zx_ HB h5
    replace h6:=zx_ HB h6
    replace h7:=zx_ HB h7
    replace h8:=zx_ HB h8
    replace h9:=zx_ HB h9
    replace h10:=zx_ HB h10
    replace h11:=zx_ HB h11
    have hd:Aside0 _:=⟨fidx_drop p z31 l i hlt⟩
    have HC:=am_ (HP.out wr (rd_T31 l i) HB.out)
    generalize hy:rd_T31 l i=y at h0 h1 h2 h3 h4 h5 h6 h7 h8 h9 h10 h11 HC
    have hq:p (l.getD i z31)=p y:=by rw [←hy];simp [rd_T31]
    have HQ:=Aside0.mk hq
    clear hy hq
    have eg:=HEG.out
    cases hb:p y with
    | true =>
      rw [hb] at HC HQ
      clear hb
      go_wp2_with (go_at_fn g;refine HC.out.mono ?_;rintro e w' ⟨rfl,hb'⟩;have HB':=am_ (below_step HB.out hb');clear hb')
      go_ret
      refine ⟨?_,HB'.out⟩
      rw [HF.out,hd.out,HQ.out]
      rfl
    | false =>
      rw [hb] at HC HQ
      clear hb
      go_wp2_with (go_at_fn g;refine HC.out.mono ?_;rintro e w' ⟨rfl,hb'⟩;have HB':=am_ (below_step HB.out hb');clear hb')
      go_roundg (l.length - (i+1))
      case measure=>omega
      case rel=>exact ⟨i+1,by omega,by omega,by go_num,HB',⟨by rw [HF.out,hd.out,HQ.out];rfl⟩⟩
set_option maxHeartbeats 1000000 in
set_option maxRecDepth 100000 in
theorem treeFind1_calls (W:World) (b:Nat) (nm:ByteArray) (hb:W.heap[b]?=some (.cells #[.string nm] 9 (0,0))) (x:S31):
  Calls Try.prog 128 #[.agg (itemCells x), .pointer (some ⟨b,0,none⟩)] W fun e w'=>e= .returned (.bool (x.f0.toList==nm.toList))∧Below W.heap.size W w':=by
 unfold itemCells
 have hu31:=Try.underlying31
 have h0:=(blk_cell hb 0).trans rfl
 have hl:b<W.heap.size:=blk_lt hb
 clear hb
 go_enter Try.func128,Try.ntmps128
 go_wp2
 go_ret
 exact ⟨rfl,by repeat (first|(with_reducible first|exact Below.refl _ _|apply below_alloc|apply pw_below_drewN|apply below_drew1))⟩
def tree_Find.f (l0:List (S31)) (a1:ByteArray):Option Int:=some (fidx (fun x=>x.f0.toList==a1.toList) l0 0)
set_option maxHeartbeats 1000000 in
set_option maxRecDepth 100000 in
theorem tree_Find.calls (A0:Option Addr) (c0:Nat) (l0:List (S31)) (a1:ByteArray) (r:Int) (w:World) (hr0:Kd.C k31 w A0 l0.length l0) (hc0:l0.length≤c0) (h:tree_Find.f l0 a1=some r):
  Calls Try.prog 71 #[.slice A0 l0.length c0, .string a1] w fun e w'=>e= .returned (.int .i64 r)∧Below w.heap.size w w':=by
 have hr:fidx (fun x=>x.f0.toList==a1.toList) l0 0=r:=Option.some.inj h
 obtain ⟨W1,hW1⟩: ∃W1,W1=w.alloc (.cells #[.string a1] 9):=⟨_,rfl⟩
 have hn:W1.heap[w.heap.size]?=some (.cells #[.string a1] 9 (0,0)):=by rw [hW1];exact blk_new _ _
 have hB:Below w.heap.size w W1:=by rw [hW1];exact below_alloc (Below.refl _ _) _
 have HC:=am_ (idxItem_calls 128 #[.pointer (some ⟨w.heap.size,0,none⟩)] (fun x=>x.f0.toList==a1.toList) (enters_of Try.func128 (by kernel_rfl) rfl) W1 (fun W x hb=>treeFind1_calls W w.heap.size a1 (blk_below hn hb) x) A0 c0 l0 (Kd.C_below hr0 hB) hc0)
 rw [hr] at HC
 have HW:=Aside0.mk hW1
 have HB:=Aside0.mk hB
 clear hr0 hr hW1 hn hB h
 go_enter Try.func71,Try.ntmps71
 go_wp2_with fail
 rw [←HW.out]
 refine HC.out.mono ?_
 rintro e w' ⟨rfl,hb⟩
 have HB':=am_ (below_step HB.out hb)
 clear hb
 go_wp2
 go_ret
 exact ⟨rfl,HB'.out⟩


def drift_live_find.f (l0_0:List (S31)) (a1:ByteArray):Option (ByteArray×ByteArray×Int×Int×Int×Int×Int×Int×Int×Int×Int×Int×Bool):=(tree_Find.f l0_0 a1).bind fun t3=>(if t3<0 then (some ((⟨#[]⟩:ByteArray),(⟨#[]⟩:ByteArray),0,0,0,0,0,0,0,0,0,0,false)) else (if 0≤t3 then (if t3<(l0_0.length:Int) then (some ((rd_T31 l0_0 t3).f0,(rd_T31 l0_0 t3).f1,(rd_T31 l0_0 t3).f2.f0,(rd_T31 l0_0 t3).f2.f1,(rd_T31 l0_0 t3).f2.f2,(rd_T31 l0_0 t3).f3.f0,(rd_T31 l0_0 t3).f3.f1,(rd_T31 l0_0 t3).f3.f2,(rd_T31 l0_0 t3).f4.f0,(rd_T31 l0_0 t3).f4.f1,(rd_T31 l0_0 t3).f4.f2,(rd_T31 l0_0 t3).f5,true)) else (none)) else (none)))
set_option maxHeartbeats 8000000 in
set_option maxRecDepth 100000 in
theorem drift_live_find.calls (A0_0:Option Addr) (c0_0:Nat) (l0_0:List (S31)) (a1:ByteArray) (r1:ByteArray) (r2:ByteArray) (r3:Int) (r4:Int) (r5:Int) (r6:Int) (r7:Int) (r8:Int) (r9:Int) (r10:Int) (r11:Int) (r12:Int) (r13:Bool) (w:World) (hr0_0:Kd.C k31 w A0_0 l0_0.length l0_0) (hc0_0:l0_0.length≤c0_0) (h:drift_live_find.f l0_0 a1=some (r1,r2,r3,r4,r5,r6,r7,r8,r9,r10,r11,r12,r13)):
  Calls Try.prog 108 #[.agg #[.slice A0_0 l0_0.length c0_0], .string a1] w fun e w'=>e= .returned (.tuple #[.agg #[.string r1, .string r2, .int .i64 r3, .int .i64 r4, .int .i64 r5, .int .i64 r6, .int .i64 r7, .int .i64 r8, .int .i64 r9, .int .i64 r10, .int .i64 r11, .int .i64 r12], .bool r13])∧Below w.heap.size w w':=by
 have hu132:=Try.underlying132
 have hu31:=Try.underlying31
 have HR0_0:=Aside0.mk hr0_0
 have HC0_0:=Aside0.mk hc0_0
 clear hr0_0 hc0_0
 have HB:=am_ (Below.refl w.heap.size w)
 have H:((tree_Find.f l0_0 a1).bind fun t3=>(if t3<0 then (some ((⟨#[]⟩:ByteArray),(⟨#[]⟩:ByteArray),0,0,0,0,0,0,0,0,0,0,false)) else (if 0≤t3 then (if t3<(l0_0.length:Int) then (some ((rd_T31 l0_0 t3).f0,(rd_T31 l0_0 t3).f1,(rd_T31 l0_0 t3).f2.f0,(rd_T31 l0_0 t3).f2.f1,(rd_T31 l0_0 t3).f2.f2,(rd_T31 l0_0 t3).f3.f0,(rd_T31 l0_0 t3).f3.f1,(rd_T31 l0_0 t3).f3.f2,(rd_T31 l0_0 t3).f4.f0,(rd_T31 l0_0 t3).f4.f1,(rd_T31 l0_0 t3).f4.f2,(rd_T31 l0_0 t3).f5,true)) else (none)) else (none))))=some (r1,r2,r3,r4,r5,r6,r7,r8,r9,r10,r11,r12,r13):=h
 clear h
 replace H:=Option.bind_eq_some_iff.mp H
 obtain ⟨t3,A30,H⟩:=H
 try dsimp only at H
 have A3:=Aside0.mk A30
 clear A30
 by_cases c4:t3<0
 ·rw [if_pos c4] at H
  have c4b0:decide (t3<0)=true:=decide_eq_true c4
  clear c4
  simp only [Option.some.injEq,Prod.mk.injEq] at H
  obtain ⟨rfl,rfl,rfl,rfl,rfl,rfl,rfl,rfl,rfl,rfl,rfl,rfl,rfl⟩:=H
  go_enter Try.func108,Try.ntmps108
  go_wp2_with (first|((with_reducible refine gate_dst (N:=2) rfl ?_);refine bx_ (N:=2) (cs:=#[.slice A0_0 l0_0.length c0_0]) (t:=132) ?_;intro gb1 hg w5 hbox hb;have BK1:=am_ (hbox);have GW1:=am_ ((zg0_ HB hg:w.heap.size≤gb1));have GE1:=am_ ((zg0_ HB hg:w.heap.size≤gb1));replace HB:=am_ (below_step (zl0_ HB) hb);clear hb hbox hg)|((with_reducible refine gate_dst (N:=4) rfl ?_);refine bx_ (N:=4) (cs:=#[.string (⟨#[]⟩:ByteArray), .string (⟨#[]⟩:ByteArray), .int .i64 0, .int .i64 0, .int .i64 0, .int .i64 0, .int .i64 0, .int .i64 0, .int .i64 0, .int .i64 0, .int .i64 0, .int .i64 0]) (t:=31) ?_;intro gb2 hg w6 hbox hb;have BK2:=am_ (hbox);have GW2:=am_ ((zg1_ HB GE1 hg:w.heap.size≤gb2));have GE2:=am_ ((zg1_ HB GE1 hg:w.heap.size≤gb2));replace HB:=am_ (below_step (zl1_ HB GE1) hb);have NB1_2:=am_ ((zn_ BK1 hg:gb1≠gb2));have NB2_1:=am_ ((zm_ BK1 hg:gb2≠gb1));replace BK1:=am_ (blk_below (zb_ BK1) hb);clear hb hbox hg;have hnb7:=NB1_2.out;have hnc7:=NB2_1.out;have hcz8_0:=zz_ BK1 0;have hfz8_0:=blk_frozen BK1.out 0)|((with_reducible refine gate_callee (f:=71) rfl ?_);refine gl_ (some 10) Try.func71 #[.slice A0_0 l0_0.length c0_0, .string a1] ?_;(with_reducible refine (tree_Find.calls _ _ l0_0 a1 t3 _ ?side1 ?side2 A3.out).mono ?_);(case side1=>exact zc_ (Kd.C_below HR0_0.out HB.out));(case side2=>exact HC0_0.out);rintro e w9 ⟨rfl,hb⟩;refine ⟨_,rfl, ?_⟩;replace BK1:=am_ (blk_below (zb_ BK1) hb);replace BK2:=am_ (blk_below (g:=gb2) (o:= .cells #[.string (⟨#[]⟩:ByteArray), .string (⟨#[]⟩:ByteArray), .int .i64 0, .int .i64 0, .int .i64 0, .int .i64 0, .int .i64 0, .int .i64 0, .int .i64 0, .int .i64 0, .int .i64 0, .int .i64 0] 31 (0,0)) (zb_ BK2) hb);replace HB:=am_ (below_step (zl2_ HB GE1 GE2) hb);(try clear hb);(try clear hb2);(try clear hk);(try clear hi);obtain ⟨hcz10_0,hcz10_1,hcz10_2,hcz10_3,hcz10_4,hcz10_5,hcz10_6,hcz10_7,hcz10_8,hcz10_9,hcz10_10,hcz10_11⟩:=x12_ BK2;have hfz10_0:=blk_frozen BK2.out 0;have hfz10_1:=blk_frozen BK2.out 1;have hfz10_2:=blk_frozen BK2.out 2;have hfz10_3:=blk_frozen BK2.out 3;have hfz10_4:=blk_frozen BK2.out 4;have hfz10_5:=blk_frozen BK2.out 5;have hfz10_6:=blk_frozen BK2.out 6;have hfz10_7:=blk_frozen BK2.out 7;have hfz10_8:=blk_frozen BK2.out 8;have hfz10_9:=blk_frozen BK2.out 9;have hfz10_10:=blk_frozen BK2.out 10;have hfz10_11:=blk_frozen BK2.out 11))
  refine bodyPost_ret (results_ct rfl _ _ gb2 31 #[.string (⟨#[]⟩:ByteArray), .string (⟨#[]⟩:ByteArray), .int .i64 0, .int .i64 0, .int .i64 0, .int .i64 0, .int .i64 0, .int .i64 0, .int .i64 0, .int .i64 0, .int .i64 0, .int .i64 0] (0,0) _ rfl (zw_ BK2) Try.underlying31 rfl (by kernel_rfl)) rfl ?_
  exact ⟨by first|rfl|(simp [errW_none,errW_some]<;>rfl)|(simp [*,errW_none,errW_some]<;>rfl),zl2_ HB GE1 GE2⟩
 rw [if_neg c4] at H
 have c4b0:decide (t3<0)=false:=decide_eq_false c4
 clear c4
 by_cases c11:0≤t3
 rotate_left
 ·rw [if_neg c11] at H
  exact absurd H (by simp)

 rw [if_pos c11] at H
 have c11b0:decide (0≤t3)=true:=decide_eq_true c11
 clear c11
 by_cases c12:t3<(l0_0.length:Int)
 rotate_left
 ·rw [if_neg c12] at H
  exact absurd H (by simp)
 rw [if_pos c12] at H
 have c12b0:decide (t3<(l0_0.length:Int))=true:=decide_eq_true c12
 clear c12
 simp only [Option.some.injEq,Prod.mk.injEq] at H
 obtain ⟨rfl,rfl,rfl,rfl,rfl,rfl,rfl,rfl,rfl,rfl,rfl,rfl,rfl⟩:=H
 go_enter Try.func108,Try.ntmps108
 go_wp2_with (first|((with_reducible refine gate_dst (N:=2) rfl ?_);refine bx_ (N:=2) (cs:=#[.slice A0_0 l0_0.length c0_0]) (t:=132) ?_;intro gb1 hg w13 hbox hb;have BK1:=am_ (hbox);have GW1:=am_ ((zg0_ HB hg:w.heap.size≤gb1));have GE1:=am_ ((zg0_ HB hg:w.heap.size≤gb1));replace HB:=am_ (below_step (zl0_ HB) hb);clear hb hbox hg)|((with_reducible refine gate_dst (N:=4) rfl ?_);refine bx_ (N:=4) (cs:=#[.string (⟨#[]⟩:ByteArray), .string (⟨#[]⟩:ByteArray), .int .i64 0, .int .i64 0, .int .i64 0, .int .i64 0, .int .i64 0, .int .i64 0, .int .i64 0, .int .i64 0, .int .i64 0, .int .i64 0]) (t:=31) ?_;intro gb2 hg w14 hbox hb;have BK2:=am_ (hbox);have GW2:=am_ ((zg1_ HB GE1 hg:w.heap.size≤gb2));have GE2:=am_ ((zg1_ HB GE1 hg:w.heap.size≤gb2));replace HB:=am_ (below_step (zl1_ HB GE1) hb);have NB1_2:=am_ ((zn_ BK1 hg:gb1≠gb2));have NB2_1:=am_ ((zm_ BK1 hg:gb2≠gb1));replace BK1:=am_ (blk_below (zb_ BK1) hb);clear hb hbox hg;have hnb15:=NB1_2.out;have hnc15:=NB2_1.out;have hcz16_0:=zz_ BK1 0;have hfz16_0:=blk_frozen BK1.out 0)|((with_reducible refine gate_callee (f:=71) rfl ?_);refine gl_ (some 10) Try.func71 #[.slice A0_0 l0_0.length c0_0, .string a1] ?_;(with_reducible refine (tree_Find.calls _ _ l0_0 a1 t3 _ ?side1 ?side2 A3.out).mono ?_);(case side1=>exact zc_ (Kd.C_below HR0_0.out HB.out));(case side2=>exact HC0_0.out);rintro e w17 ⟨rfl,hb⟩;refine ⟨_,rfl, ?_⟩;replace BK1:=am_ (blk_below (zb_ BK1) hb);replace BK2:=am_ (blk_below (g:=gb2) (o:= .cells #[.string (⟨#[]⟩:ByteArray), .string (⟨#[]⟩:ByteArray), .int .i64 0, .int .i64 0, .int .i64 0, .int .i64 0, .int .i64 0, .int .i64 0, .int .i64 0, .int .i64 0, .int .i64 0, .int .i64 0] 31 (0,0)) (zb_ BK2) hb);replace HB:=am_ (below_step (zl2_ HB GE1 GE2) hb);(try clear hb);(try clear hb2);(try clear hk);(try clear hi);have hcz18_0:=zz_ BK1 0;have hfz18_0:=blk_frozen BK1.out 0;have p4:0≤(t3:Int):=of_decide_eq_true zq_;have q4:t3<(l0_0.length:Int):=of_decide_eq_true zq_;obtain ⟨ad4,e4,hx4_0,hx4_1,hx4_2,hx4_3,hx4_4,hx4_5,hx4_6,hx4_7,hx4_8,hx4_9,hx4_10,hx4_11⟩:=at_T31 HR0_0.out t3 p4 q4;cases e4;replace hx4_0:=zx_ HB hx4_0;replace hx4_1:=zx_ HB hx4_1;replace hx4_2:=zx_ HB hx4_2;replace hx4_3:=zx_ HB hx4_3;replace hx4_4:=zx_ HB hx4_4;replace hx4_5:=zx_ HB hx4_5;replace hx4_6:=zx_ HB hx4_6;replace hx4_7:=zx_ HB hx4_7;replace hx4_8:=zx_ HB hx4_8;replace hx4_9:=zx_ HB hx4_9;replace hx4_10:=zx_ HB hx4_10;replace hx4_11:=zx_ HB hx4_11;replace p4:=eq_true p4;replace q4:=eq_true q4;obtain ⟨hcz19_0,hcz19_1,hcz19_2,hcz19_3,hcz19_4,hcz19_5,hcz19_6,hcz19_7,hcz19_8,hcz19_9,hcz19_10,hcz19_11⟩:=x12_ BK2;have hfz19_0:=blk_frozen BK2.out 0;have hfz19_1:=blk_frozen BK2.out 1;have hfz19_2:=blk_frozen BK2.out 2;have hfz19_3:=blk_frozen BK2.out 3;have hfz19_4:=blk_frozen BK2.out 4;have hfz19_5:=blk_frozen BK2.out 5;have hfz19_6:=blk_frozen BK2.out 6;have hfz19_7:=blk_frozen BK2.out 7;have hfz19_8:=blk_frozen BK2.out 8;have hfz19_9:=blk_frozen BK2.out 9;have hfz19_10:=blk_frozen BK2.out 10;have hfz19_11:=blk_frozen BK2.out 11))
 refine bodyPost_ret (results_ct rfl _ _ gb2 31 #[.string ((rd_T31 l0_0 t3).f0), .string ((rd_T31 l0_0 t3).f1), .int .i64 ((rd_T31 l0_0 t3).f2.f0), .int .i64 ((rd_T31 l0_0 t3).f2.f1), .int .i64 ((rd_T31 l0_0 t3).f2.f2), .int .i64 ((rd_T31 l0_0 t3).f3.f0), .int .i64 ((rd_T31 l0_0 t3).f3.f1), .int .i64 ((rd_T31 l0_0 t3).f3.f2), .int .i64 ((rd_T31 l0_0 t3).f4.f0), .int .i64 ((rd_T31 l0_0 t3).f4.f1), .int .i64 ((rd_T31 l0_0 t3).f4.f2), .int .i64 ((rd_T31 l0_0 t3).f5)] (0,0) _ rfl (zw_ BK2) Try.underlying31 rfl (by kernel_rfl)) rfl ?_
 exact ⟨by first|rfl|(simp [errW_none,errW_some]<;>rfl)|(simp [*,errW_none,errW_some]<;>rfl),zl2_ HB GE1 GE2⟩
theorem R_own {α:Type} {d:Kd α} {e base:Nat} {ok:Nat→Prop} {w:World} {v:Value} {xs:List α} (h:d.R e w base ok v xs) (k:Nat) (hk:v.ownBlock=some k):base≤k∧k<w.heap.size:=by
  obtain ⟨_,inner,⟨_,h|⟨g,cap,cur,rfl,hg,hh,_⟩⟩,_⟩:=h
  · rw [h.1] at hk
    simp [Value.ownBlock] at hk
  simp [Value.ownBlock] at hk
  subst hk
  exact ⟨hg,blk_lt hh⟩
set_option maxHeartbeats 1000000 in
set_option maxRecDepth 100000 in
theorem driftPut_calls (W:World) (b base:Nat) (la v:Value) (out:List S37) (s:ByteArray) (kd:Int) (hb:W.heap[b]?=some (.cells #[la,v] 134 (0,0))) (hbb:b<base) (hbase:base≤W.heap.size)
    (ho:Kd.R k37 37 W base (fun _=>True) v out) (hl:out.length<1000000000):
    Calls Try.prog 160 #[.pointer (some ⟨b,0,none⟩), .string s, .int .i64 kd] W fun e w'=>e= .returned (.tuple #[])∧ ∃v',w'.heap[b]?=some (.cells #[la,v'] 134 (0,0))∧Kd.R k37 37 w' base (fun _=>True) v' (out++ [⟨s,kd⟩])∧
      (v'.ownBlock=v.ownBlock∨ ∃b2,v'.ownBlock=some b2∧W.heap.size≤b2)∧Below b W w'∧KeepBut W w' b v.ownBlock:=by
  have hu134:=Try.underlying134
  have hu37:=Try.underlying37
  have c1:=(blk_cell hb 1).trans rfl
  have hlt:b<W.heap.size:=blk_lt hb
  have HO:=Aside0.mk ho
  have HBK:=Aside0.mk hb
  have HL:=Aside0.mk hl
  have HOWN:=am_ (R_own ho)
  clear hb ho hl
  go_enter Try.func160,Try.ntmps160
  go_wp2_with ((with_reducible refine gate_builtin (b:= .append) (xs:=#[.tmp 10, .tmp 14]) rfl ?_);at_builtin;refine Kd.R_append k37 (w0:=W) base rfl (.tmp 10) (.tmp 14) 45 37 (.agg #[(.string ⟨#[]⟩),(.int .i64 0)]) 24 rfl Try.underlying45 info37 rfl (by decide) (by omega) v out ⟨s,kd⟩ [.string s, .int .i64 kd] (fun _=>True) (fun _=>False) rfl (by first|(go_simp;done)|(go_simp;rfl)) ?aP (fun _ hk=>hk.elim) ?aF ?aO ?aB ?aS ?aL ?_;(case aP=>exact k37_mkM _ _ _ (⟨s,kd⟩:S37));(case aF=>exact fun _ _=>trivial);(case aO=>exact HO.out);(case aB=>exact Below.refl _ _);(case aS=>exact hbase);(case aL=>have:=HL.out;omega);intro v5 w8 ho hb hg hat;have HO8:=Aside0.mk ho;have HG8:=Aside0.mk hg;have HAT:=Aside0.mk hat;have hne:some b≠v.ownBlock:=(fun e=>by have:=(HOWN.out b e.symm).1;omega);have HK8:=am_ (blk_grown HBK.out hg hne);have hlt8:b<w8.heap.size:=Nat.lt_of_lt_of_le hlt hg.size;have z1:=blk_frozen HK8.out 1;have d1:=(blk_cell HK8.out 1).trans rfl;clear ho hb hg hat hne;obtain ⟨Ao,co,eo⟩:=Kd.R_slice HO8.out;subst eo;simp only [List.length_append,List.length_cons,List.length_nil,Nat.zero_add] at HO8 HAT)
  (first|go_end0|((try simp only [Exit.inBlock,Exit.then]);refine bodyPost_ret (results_none rfl _ _ _) rfl ?_)|refine bodyPost_end (results_none rfl _ _ _) rfl ?_)
  refine ⟨rfl,_,blk_put HK8.out 1 _ rfl,Kd.R_set HO8.out HK8.out (by decide) 1 _,HAT.out, ?_, ?_⟩
  · exact (pw_below_grown (Below.refl b W) v.ownBlock (by omega) HG8.out (fun k e=>by have:=(HOWN.out k e).1;omega)).setCell (p:=⟨b,1,none⟩) (Nat.le_refl _) _
  refine ⟨?_,fun i hi hne hr=> ?_⟩
  · rw [show (w8.setCell ⟨b, 1, none⟩ (.slice Ao (out.length + 1) co)).heap.size = w8.heap.size from by simp [World.setCell]; try (split <;> simp)]
    exact HG8.out.size
  rw [Below.heap_setCell w8 ⟨b,1,none⟩ _ i hne]
  exact HG8.out.block i hi hr


end Go.Proofs.Ytcgefpklljclgaa.Print

namespace Go.Proofs.Ytcgefpklljclgaa.Print
open Go.RowKit Go.Proofs.YtcgefpklljclgaaW.PrintWords Go.Proofs.YtcgefpklljclgaaW.PrintLast Go.Proofs.YtcgefpklljclgaaW.PrintMore
section
variable {P:Program} {ops:Array Oper} {rest:List Oper} {o:Oper} {a:Act} {Q:Exit→Act→World→Prop} {Kc:Act→World→Prop} {W:World}
theorem put_run {gb e:Nat} {zs:Array Value} (hh:W.heap[gb]?=some (.cells zs e (0,0))) (t:TypeId) (u:Value) (off:Nat) (seg:List Value) (hu:u.cells.toList=seg) (ht:(P.info? t).map (·.size)=some seg.length) (hfit:off+seg.length≤zs.size) (h1: ∀q∈seg,q.oneCell'=true):
  ∃w' cur,(Instr.storeAt t (.pointer (some ⟨gb,off,none⟩)) u).run P W= .ok () w'∧w'.heap[gb]?=some (.cells cur e (0,0))∧cur.size=zs.size∧cur.toList=zs.toList.take off++seg++zs.toList.drop (off+seg.length)∧W.grownBy w' (some gb):=by
 have hrun:=run_store_run (P:=P) t u seg hh hu ht (o:=off) hfit h1
 obtain ⟨cur,hc,hs,hl⟩:=setCells_row seg off W zs hh hfit
 obtain ⟨s1,s2,s3,s4⟩:=setCells_same gb seg off W
 exact ⟨_,cur,hrun,hc,hs,hl,⟨s1,s2,s3,by rw [s4];exact Nat.le_refl _,fun k hk hne=>setCells_far seg off k (by rintro rfl;exact hne rfl)⟩⟩
theorem store_all {gb e:Nat} {zs:Array Value} (hh:W.heap[gb]?=some (.cells zs e (0,0))) (t:TypeId) (p x:Operand) (ho:o.op= .store t p x) (hN:o.dst=none) (hgd:o.guard=none) (u:Value) (seg:List Value)
  (hp:a.eval p= .pointer (some ⟨gb,0,none⟩)) (hx:a.eval x=u) (hu:u.cells.toList=seg) (ht:(P.info? t).map (·.size)=some seg.length) (hz:zs.size=seg.length) (h1: ∀q∈seg,q.oneCell'=true)
  (h: ∀w',w'.heap[gb]?=some (.cells seg.toArray e (0,0))→W.grownBy w' (some gb)→wpList P ops Q rest a w'):wpList P ops Q (o::rest) a W:=by
 obtain ⟨w',cur,hrun,hc,hs,hl,hg⟩:=put_run (P:=P) hh t u 0 seg hu ht (by omega) h1
 have e1:cur=seg.toArray:=by
  apply Array.ext'
  rw [hl,List.take_zero,List.nil_append,Nat.zero_add,List.drop_of_length_le (by simp [Array.length_toList];omega),List.append_nil]
 subst e1
 refine wpList_plain hgd fun K hK=> ?_
 unfold Oper.wp execOp
 simp only [ho,hp,hx,Sem.run_bind,Sem.run_pure,Result.andThen_ok,hrun]
 show K (a.put o.dst undef) _
 rw [hN]
 exact hK a _ (h _ hc hg)
theorem store_all_step {gb e:Nat} {zs:Array Value} (hh:W.heap[gb]?=some (.cells zs e (0,0))) (hw:Region.wanted o (yielded ops a.tmps)=true) (t:TypeId) (p x:Operand) (ho:o.op= .store t p x) (hN:o.dst=none) (u:Value) (seg:List Value)
  (hp:a.eval p= .pointer (some ⟨gb,0,none⟩)) (hx:a.eval x=u) (hu:u.cells.toList=seg) (ht:(P.info? t).map (·.size)=some seg.length) (hz:zs.size=seg.length) (h1: ∀q∈seg,q.oneCell'=true)
  (h: ∀w',w'.heap[gb]?=some (.cells seg.toArray e (0,0))→W.grownBy w' (some gb)→Kc a w'):if Region.wanted o (yielded ops a.tmps)=true then Oper.wp P o a W Kc Q else Kc (a.put none undef) W:=by
 obtain ⟨w',cur,hrun,hc,hs,hl,hg⟩:=put_run (P:=P) hh t u 0 seg hu ht (by omega) h1
 have e1:cur=seg.toArray:=by
  apply Array.ext'
  rw [hl,List.take_zero,List.nil_append,Nat.zero_add,List.drop_of_length_le (by simp [Array.length_toList];omega),List.append_nil]
 subst e1
 rw [if_pos hw]
 unfold Oper.wp execOp
 simp only [ho,hp,hx,Sem.run_bind,Sem.run_pure,Result.andThen_ok,hrun]
 show Kc (a.put o.dst undef) _
 rw [hN]
 exact h _ hc hg
end
theorem R_put {α:Type} {d:Kd α} {e base:Nat} {w w1:World} {v:Value} {xs:List α} (h:d.R e w base (fun _=>True) v xs) {g t:Nat} {cells:Array Value} (hb:w.heap[g]?=some (.cells cells t (0,0))) (ht: ∀q,q∈e::d.E→q≠t) (hg:w.grownBy w1 (some g)):d.R e w1 base (fun _=>True) v xs:=
 Kd.R_mono (Kd.R_grown (Kd.R_types h hb ht) hg (fun _ hk e=>hk.2 (Option.some.inj e))) (fun _ _=>trivial)
theorem below_put {a w w1:World} {base g:Nat} (h:Below base a w) (hb:base≤w.heap.size) (hg:w.grownBy w1 (some g)) (hge:base≤g):Below base a w1:=pw_below_grown h (some g) hb hg (fun k e=>by cases e;exact hge)
theorem blk_put_other {w w1:World} {g k:Nat} {ob:Obj} (h:w.heap[k]?=some ob) (hg:w.grownBy w1 (some g)) (hne:k≠g):w1.heap[k]?=some ob:=by
  rw [hg.block k (by
    rcases Nat.lt_or_ge k w.heap.size with hl|hl
    · exact hl
    rw [Array.getElem?_eq_none hl] at h;cases h) (by intro e;cases e;exact hne rfl)]
  exact h
end Go.Proofs.Ytcgefpklljclgaa.Print

namespace Go.Proofs.Ytcgefpklljclgaa.Print
open Go.RowKit Go.Proofs.YtcgefpklljclgaaW.PrintWords Go.Proofs.YtcgefpklljclgaaW.PrintLast Go.Proofs.YtcgefpklljclgaaW.PrintMore
attribute [local go_sem] max2_int min2_int max_two min_two max_three min_three max_four min_four

attribute [local go_sem high] eqA27
theorem below_at_b {a w:World} {b:Nat} (h:Below a.heap.size a w) (hb:b<a.heap.size):Below b a w:=h.mono (Nat.le_of_lt hb)
def driftMarkF (l:List S31) (m:S54):Option (List S37):=
 (drift_live_find.f l m.f0).bind fun r=>if r.2.2.2.2.2.2.2.2.2.2.2.2=true then some ((if r.2.1.toList=m.f1.toList then [] else [⟨m.f0,2⟩])++(if r.2.2.1=m.f2.f0∧r.2.2.2.1=m.f2.f1∧r.2.2.2.2.1=m.f2.f2 then [] else [⟨m.f0,3⟩])) else some [⟨m.f0,1⟩]
set_option maxHeartbeats 8000000 in
set_option maxRecDepth 100000 in
theorem driftMark_calls (W:World) (b base:Nat) (A:Option Addr) (c:Nat) (l:List S31) (v:Value) (out ds:List S37) (m:S54) (hb:W.heap[b]?=some (.cells #[.slice A l.length c,v] 134 (0,0))) (hbb:b<base) (hbase:base≤W.heap.size)
    (hr:Kd.C k31 W A l.length l) (hc:l.length≤c) (ho:Kd.R k37 37 W base (fun _=>True) v out) (hl:out.length<900000000) (h:driftMarkF l m=some ds):
    Calls Try.prog 107 #[.pointer (some ⟨b,0,none⟩), .agg #[.string m.f0, .string m.f1, .int .i64 m.f2.f0, .int .i64 m.f2.f1, .int .i64 m.f2.f2, .int .i64 m.f3]] W fun e w'=>e= .returned (.tuple #[])∧ ∃v',w'.heap[b]?=some (.cells #[.slice A l.length c,v'] 134 (0,0))∧Kd.R k37 37 w' base (fun _=>True) v' (out++ds)∧Below b W w':=by
  have hu134:=Try.underlying134
  have hu132:=Try.underlying132
  have hu54:=Try.underlying54
  have hu31:=Try.underlying31
  have hu27:=Try.underlying27
  obtain ⟨⟨r1,r2,r3,r4,r5,r6,r7,r8,r9,r10,r11,r12,r13⟩,hf,h⟩:=Option.bind_eq_some_iff.1 h
  have HF:=Aside0.mk hf
  have HH:=Aside0.mk h
  have HR:=Aside0.mk hr
  have HC:=Aside0.mk hc
  have HO:=Aside0.mk ho
  have BK:=Aside0.mk hb
  have HL:=Aside0.mk hl
  have HBB:=Aside0.mk hbb
  have HBA:=Aside0.mk hbase
  have HB:=am_ (Below.refl W.heap.size W)
  have HBL:=am_ (blk_lt hb)
  clear hb ho hl h hf hr hc hbb hbase
  go_enter Try.func107,Try.ntmps107
  go_wp2_with (first|((with_reducible refine gate_dst (N:=3) rfl ?_);refine bx_ (N:=3) (cs:=#[.string m.f0, .string m.f1, .int .i64 m.f2.f0, .int .i64 m.f2.f1, .int .i64 m.f2.f2, .int .i64 m.f3]) (t:=54) ?_;intro gb3 hg w3 hbox hb;replace HO:=am_ (Kd.R_below HO.out hb);replace BK:=am_ (blk_below BK.out hb);have BK3:=am_ (hbox);have GE3:=am_ ((by rw [hg];exact below_size HB.out:W.heap.size≤gb3));replace HB:=am_ (below_step HB.out hb);have EQ3:=am_ (hg);clear hb hbox hg))
  replace HO:=am_ (Kd.R_drew HO.out)
  replace BK:=am_ (blk_drew BK.out)
  replace BK3:=am_ (blk_drew BK3.out)
  replace HB:=am_ (below_drew1 HB.out)
  refine start_ (n:=13) (S:=fun w'=>w'.cell? ⟨b,0,none⟩=some (.slice A l.length c)∧w'.cell? ⟨gb3,0,none⟩=some (.string m.f0)) (ds:=[11]) (bt_ 13 0) (by kernel_rfl) rfl rfl ⟨(blk_cell BK.out 0).trans rfl,(blk_cell BK3.out 0).trans rfl⟩ (fun hHeld=> ?_)
  generalize w3.drew=w4 at HO BK BK3 HB hHeld ⊢
  refine pv_ (i:=0) (N:=some 7) (bt_ 13 1) ?_
  refine pv_ (i:=1) (N:=some 8) (bt_ 13 3) ?_
  refine pv_ (i:=2) (N:=some 9) (bt_ 13 7) ?_
  refine tv_ (i:=3) (N:=some 10) (bt_ 13 15) hHeld ?_
  refine pv_ (i:=4) (N:=some 11) (bt_ 13 31) ?_
  refine tv_ (i:=5) (N:=some 12) (bt_ 13 63) hHeld ?_
  refine join_ (σ:=Nat) 2 (bt_ 13 2047) (fun s_=> [(13, .tuple #[.agg #[.string r1, .string r2, .int .i64 r3, .int .i64 r4, .int .i64 r5, .int .i64 r6, .int .i64 r7, .int .i64 r8, .int .i64 r9, .int .i64 r10, .int .i64 r11, .int .i64 r12], .bool r13]),(6, .tuple #[.agg #[.string r1, .string r2, .int .i64 r3, .int .i64 r4, .int .i64 r5, .int .i64 r6, .int .i64 r7, .int .i64 r8, .int .i64 r9, .int .i64 r10, .int .i64 r11, .int .i64 r12], .bool r13]),(14, .agg #[.string r1, .string r2, .int .i64 r3, .int .i64 r4, .int .i64 r5, .int .i64 r6, .int .i64 r7, .int .i64 r8, .int .i64 r9, .int .i64 r10, .int .i64 r11, .int .i64 r12]),(15, .bool r13),(4, .pointer (some ⟨s_,0,none⟩))]) (fun s_ w'=>Below w4.heap.size w4 w'∧w'.heap[s_]?=some (.cells #[.string ⟨#[]⟩, .string ⟨#[]⟩, .int .i64 0, .int .i64 0, .int .i64 0, .int .i64 0, .int .i64 0, .int .i64 0, .int .i64 0, .int .i64 0, .int .i64 0, .int .i64 0] 31 (0,0))∧w4.heap.size≤s_) ?_ ?_
  rotate_left
  · intro hCont
    refine two_ (i:=6) (j:=10) (Ni:=some 13) (Nj:=some 4) (bt_ 13 127) (bt_ 13 1087) rfl rfl rfl rfl (by kernel_rfl) (by decide) (by decide) (fun K hK=> ?_) (fun K hK=> ?_)
    · skip
      refine goes_ Try.func108 (by kernel_rfl) rfl #[.agg #[.slice A l.length c], .string m.f0] (by rfl) rfl rfl (by (try simp only [List.map_toArray,List.map_cons,List.map_nil]);rfl) ?_
      refine (drift_live_find.calls A c l m.f0 r1 r2 r3 r4 r5 r6 r7 r8 r9 r10 r11 r12 r13 _ (Kd.C_below HR.out HB.out) HC.out HF.out).mono ?_
      rintro e w5 ⟨rfl,hb5⟩
      refine ⟨_,rfl, ?_⟩
      refine hK.out _ _ ⟨(blk_cell (blk_below BK.out hb5) 0).trans rfl,(blk_cell (blk_below BK3.out hb5) 0).trans rfl⟩ (fun hHeld=> ?_)
      clear hK K
      refine norm_ (a':= ?_) ?_ ?_
      rotate_left
      · show Act.put _ (some 13) _ = _
        simp only [Act.put,List.setIfInBounds_toArray,List.set_cons_zero,List.set_cons_succ,i64_w,i32_w]
        rfl
      refine pv_ (i:=7) (N:=some 6) (bt_ 13 255) ?_
      refine pv_ (i:=8) (N:=some 14) (bt_ 13 511) ?_
      refine pv_ (i:=9) (N:=some 15) (bt_ 13 1023) ?_
      refine one_ (i:=10) (N:=some 4) (bt_ 13 2047) rfl rfl (by kernel_rfl) (by decide) (fun K hK=> ?_)
      refine box_step ?hg (N:=4) ?hd (cs:=#[.string ⟨#[]⟩, .string ⟨#[]⟩, .int .i64 0, .int .i64 0, .int .i64 0, .int .i64 0, .int .i64 0, .int .i64 0, .int .i64 0, .int .i64 0, .int .i64 0, .int .i64 0]) (t:=31) ?hr ?_;(case hd=>rfl);(case hg=>rfl);(case hr=>first|(go_simp;done)|(go_simp;rfl))
      intro gx gx_eq w6 hbox hb6
      have hB6:Below w4.heap.size w4 w6:=below_step hb5 hb6
      refine hK.out _ _ ⟨(blk_cell (blk_below BK.out hB6) 0).trans rfl,(blk_cell (blk_below BK3.out hB6) 0).trans rfl⟩ (fun hHeld=> ?_)
      clear hK K
      refine norm_ (a':= ?_) ?_ ?_
      rotate_left
      · show Act.put _ (some 4) _ = _
        simp only [Act.put,List.setIfInBounds_toArray,List.set_cons_zero,List.set_cons_succ,i64_w,i32_w]
        rfl
      exact norm_ (by simp only [putAll,Act.put,List.setIfInBounds_toArray,List.set_cons_zero,List.set_cons_succ]) (hCont gx _ ⟨hB6,hbox,by rw [gx_eq];exact hb5.size⟩)
    skip
    refine box_step ?hg (N:=4) ?hd (cs:=#[.string ⟨#[]⟩, .string ⟨#[]⟩, .int .i64 0, .int .i64 0, .int .i64 0, .int .i64 0, .int .i64 0, .int .i64 0, .int .i64 0, .int .i64 0, .int .i64 0, .int .i64 0]) (t:=31) ?hr ?_;(case hd=>rfl);(case hg=>rfl);(case hr=>first|(go_simp;done)|(go_simp;rfl))
    intro gx gx_eq w5 hbox hb5
    refine hK.out _ _ ⟨(blk_cell (blk_below BK.out hb5) 0).trans rfl,(blk_cell (blk_below BK3.out hb5) 0).trans rfl⟩ (fun hHeld=> ?_)
    clear hK K
    refine norm_ (a':= ?_) ?_ ?_
    rotate_left
    · show Act.put _ (some 4) _ = _
      simp only [Act.put,List.setIfInBounds_toArray,List.set_cons_zero,List.set_cons_succ,i64_w,i32_w]
      rfl
    refine one_ (i:=6) (N:=some 13) (bt_ 13 1151) rfl rfl (by kernel_rfl) (by decide) (fun K hK=> ?_)
    refine goes_ Try.func108 (by kernel_rfl) rfl #[.agg #[.slice A l.length c], .string m.f0] (by rfl) rfl rfl (by (try simp only [List.map_toArray,List.map_cons,List.map_nil]);rfl) ?_
    refine (drift_live_find.calls A c l m.f0 r1 r2 r3 r4 r5 r6 r7 r8 r9 r10 r11 r12 r13 _ (Kd.C_below HR.out (below_step HB.out hb5)) HC.out HF.out).mono ?_
    rintro e w6 ⟨rfl,hb6⟩
    refine ⟨_,rfl, ?_⟩
    have hB6:Below w4.heap.size w4 w6:=below_step hb5 hb6
    refine hK.out _ _ ⟨(blk_cell (blk_below BK.out hB6) 0).trans rfl,(blk_cell (blk_below BK3.out hB6) 0).trans rfl⟩ (fun hHeld=> ?_)
    clear hK K
    refine norm_ (a':= ?_) ?_ ?_
    rotate_left
    · show Act.put _ (some 13) _ = _
      simp only [Act.put,List.setIfInBounds_toArray,List.set_cons_zero,List.set_cons_succ,i64_w,i32_w]
      rfl
    refine pv_ (i:=7) (N:=some 6) (bt_ 13 1279) ?_
    refine pv_ (i:=8) (N:=some 14) (bt_ 13 1535) ?_
    refine pv_ (i:=9) (N:=some 15) (bt_ 13 2047) ?_
    exact norm_ (by simp only [putAll,Act.put,List.setIfInBounds_toArray,List.set_cons_zero,List.set_cons_succ]) (hCont gx _ ⟨hB6,blk_below hbox hb6,by rw [gx_eq];exact Nat.le_refl _⟩)
  rintro gb4 w6 ⟨hB6,hbox,hge4⟩
  have NEB3:=am_ (show gb3≠b from by have:=EQ3.out;have:=HBL.out;omega)
  have n0_:=am_ (Kd.R_below HO.out hB6)
  have n1_:=am_ (blk_below BK.out hB6)
  have n2_:=am_ (blk_below BK3.out hB6)
  have n3_:=am_ (below_step HB.out hB6)
  have NE4:=am_ (show b≠gb4 from by have:=blk_lt BK.out;omega)
  have NE34:=am_ (show gb3≠gb4 from by have:=blk_lt BK3.out;omega)
  have GE4:=am_ (show W.heap.size≤gb4 from by have:=below_size HB.out;omega)
  clear HO BK BK3 HB hHeld hB6 hge4
  have HO:=n0_
  have BK:=n1_
  have BK3:=n2_
  have HB:=n3_
  have BK4:=Aside0.mk hbox
  clear n0_ n1_ n2_ n3_ hbox
  refine norm_ (a':= ?_) ?_ ?_
  rotate_left
  · simp only [putAll, Act.put, List.setIfInBounds_toArray, List.set_cons_zero, List.set_cons_succ]
    rfl
  refine last_ (i:=11) (N:=none) (bt_ 13 4095) rfl rfl (by kernel_rfl) (by decide) (fun K hK=> ?_)
  refine store_all_step BK4.out (by rfl) 31 (.tmp 4) (.tmp 14) rfl rfl (.agg #[.string r1, .string r2, .int .i64 r3, .int .i64 r4, .int .i64 r5, .int .i64 r6, .int .i64 r7, .int .i64 r8, .int .i64 r9, .int .i64 r10, .int .i64 r11, .int .i64 r12]) [.string r1, .string r2, .int .i64 r3, .int .i64 r4, .int .i64 r5, .int .i64 r6, .int .i64 r7, .int .i64 r8, .int .i64 r9, .int .i64 r10, .int .i64 r11, .int .i64 r12] rfl rfl rfl (by kernel_rfl) rfl (by intro q hq;simp only [List.mem_cons,List.not_mem_nil,or_false] at hq;rcases hq with rfl|rfl|rfl|rfl|rfl|rfl|rfl|rfl|rfl|rfl|rfl|rfl<;>rfl) ?_
  intro w7 hbk hg
  have n0_:=am_ (R_put HO.out BK4.out (by decide) hg)
  have n1_:=am_ (blk_put_other BK.out hg NE4.out)
  have n2_:=am_ (blk_put_other BK3.out hg NE34.out)
  have n3_:=am_ (below_put HB.out (below_size HB.out) hg GE4.out)
  clear HO BK BK3 HB BK4
  have HO:=n0_
  have BK:=n1_
  have BK3:=n2_
  have HB:=n3_
  have BK4:=Aside0.mk hbk
  clear n0_ n1_ n2_ n3_ hbk hg
  refine hK.out _ _ ?_
  clear hK K
  refine pv_ (i:=12) (N:=some 5) (bt_ 13 8191) ?_
  refine done_ (by kernel_rfl) ?_
  have h2:=HH.out
  clear HH
  have HX:=am_ (below_at_b HB.out HBL.out)
  have HZ:=am_ (below_size HB.out)
  have d1:=(blk_cell BK4.out 1).trans rfl
  have d2:=(blk_cell BK4.out 2).trans rfl
  have d3:=(blk_cell BK4.out 3).trans rfl
  have d4:=(blk_cell BK4.out 4).trans rfl
  have e0:=(blk_cell BK3.out 0).trans rfl
  have e1:=(blk_cell BK3.out 1).trans rfl
  have e2:=(blk_cell BK3.out 2).trans rfl
  have e3:=(blk_cell BK3.out 3).trans rfl
  have e4:=(blk_cell BK3.out 4).trans rfl
  cases r13 with
  | false =>
    rw [if_neg (by simp)] at h2
    cases h2
    go_wp2_with fail
    have hlp:(out).length<1000000000:=by have:=HL.out;(try simp only [List.length_append,List.length_cons,List.length_nil]);omega
    have hne3:some gb3≠_:=Kd.R_ne HO.out BK3.out (by decide)
    have hne4:some gb4≠_:=Kd.R_ne HO.out BK4.out (by decide)
    refine (driftPut_calls _ b base _ _ (out) m.f0 1 BK.out HBB.out (Nat.le_trans HBA.out HZ.out) HO.out hlp).mono ?_
    rintro e w8 ⟨rfl,vw8,hbk,ho,hat,hb,hk⟩
    clear d1 d2 d3 d4 e0 e1 e2 e3 e4
    have n0_:=am_ (hk.blk BK3.out NEB3.out hne3)
    have n1_:=am_ (hk.blk BK4.out (fun e=>NE4.out e.symm) hne4)
    have n2_:=am_ (HX.out.trans hb)
    have n3_:=am_ (Nat.le_trans HZ.out hk.1)
    clear BK3 BK4 HX HZ HO BK
    have BK3:=n0_
    have BK4:=n1_
    have HX:=n2_
    have HZ:=n3_
    have HO:=Aside0.mk ho
    have BK:=Aside0.mk hbk
    clear n0_ n1_ n2_ n3_ hbk ho hat hb hk hne3 hne4 hlp
    have d1:=(blk_cell BK4.out 1).trans rfl
    have d2:=(blk_cell BK4.out 2).trans rfl
    have d3:=(blk_cell BK4.out 3).trans rfl
    have d4:=(blk_cell BK4.out 4).trans rfl
    have e0:=(blk_cell BK3.out 0).trans rfl
    have e1:=(blk_cell BK3.out 1).trans rfl
    have e2:=(blk_cell BK3.out 2).trans rfl
    have e3:=(blk_cell BK3.out 3).trans rfl
    have e4:=(blk_cell BK3.out 4).trans rfl
    go_wp2_with fail
    (first|go_end0|((try simp only [Exit.inBlock,Exit.then]);refine bodyPost_ret (results_none rfl _ _ _) rfl ?_)|refine bodyPost_end (results_none rfl _ _ _) rfl ?_)
    refine ⟨rfl,_,BK.out,HO.out,HX.out⟩
  | true =>
    rw [if_pos rfl] at h2
    have hds:=(Option.some.inj h2).symm
    clear h2
    (try dsimp only at hds)
    by_cases c1:r2.toList=m.f1.toList
    · have c1a : (r2.toList == m.f1.toList) = true := beq_iff_eq.mpr c1
      have c1b:(r2.toList !=m.f1.toList)=false:=bne_eq_false_iff_eq.mpr c1
      rw [if_pos c1,List.nil_append] at hds
      clear c1
      by_cases c2:r3=m.f2.f0∧r4=m.f2.f1∧r5=m.f2.f2
      · obtain ⟨q1, q2, q3⟩ := c2
        subst q1 q2 q3
        rw [if_pos ⟨rfl,rfl,rfl⟩] at hds
        go_wp2_with fail
        (first|go_end0|((try simp only [Exit.inBlock,Exit.then]);refine bodyPost_ret (results_none rfl _ _ _) rfl ?_)|refine bodyPost_end (results_none rfl _ _ _) rfl ?_)
        refine ⟨rfl,_,BK.out,(by rw [hds];simpa using HO.out),HX.out⟩
      rw [if_neg c2] at hds
      have c2b:(r3==m.f2.f0 && (r4==m.f2.f1 && (r5==m.f2.f2)))=false:=by simpa using c2
      clear c2
      go_wp2_with fail
      have hlp:(out).length<1000000000:=by have:=HL.out;(try simp only [List.length_append,List.length_cons,List.length_nil]);omega
      have hne3:some gb3≠_:=Kd.R_ne HO.out BK3.out (by decide)
      have hne4:some gb4≠_:=Kd.R_ne HO.out BK4.out (by decide)
      refine (driftPut_calls _ b base _ _ (out) m.f0 3 BK.out HBB.out (Nat.le_trans HBA.out HZ.out) HO.out hlp).mono ?_
      rintro e w8 ⟨rfl,vw8,hbk,ho,hat,hb,hk⟩
      clear d1 d2 d3 d4 e0 e1 e2 e3 e4
      have n0_:=am_ (hk.blk BK3.out NEB3.out hne3)
      have n1_:=am_ (hk.blk BK4.out (fun e=>NE4.out e.symm) hne4)
      have n2_:=am_ (HX.out.trans hb)
      have n3_:=am_ (Nat.le_trans HZ.out hk.1)
      clear BK3 BK4 HX HZ HO BK
      have BK3:=n0_
      have BK4:=n1_
      have HX:=n2_
      have HZ:=n3_
      have HO:=Aside0.mk ho
      have BK:=Aside0.mk hbk
      clear n0_ n1_ n2_ n3_ hbk ho hat hb hk hne3 hne4 hlp
      have d1:=(blk_cell BK4.out 1).trans rfl
      have d2:=(blk_cell BK4.out 2).trans rfl
      have d3:=(blk_cell BK4.out 3).trans rfl
      have d4:=(blk_cell BK4.out 4).trans rfl
      have e0:=(blk_cell BK3.out 0).trans rfl
      have e1:=(blk_cell BK3.out 1).trans rfl
      have e2:=(blk_cell BK3.out 2).trans rfl
      have e3:=(blk_cell BK3.out 3).trans rfl
      have e4:=(blk_cell BK3.out 4).trans rfl
      go_wp2_with fail
      (first|go_end0|((try simp only [Exit.inBlock,Exit.then]);refine bodyPost_ret (results_none rfl _ _ _) rfl ?_)|refine bodyPost_end (results_none rfl _ _ _) rfl ?_)
      refine ⟨rfl,_,BK.out,(by rw [hds];exact HO.out),HX.out⟩
    have c1a:(r2.toList==m.f1.toList)=false:=beq_eq_false_iff_ne.mpr c1
    have c1b:(r2.toList !=m.f1.toList)=true:=bne_iff_ne.mpr c1
    rw [if_neg c1] at hds
    clear c1
    go_wp2_with fail
    have hlp:(out).length<1000000000:=by have:=HL.out;(try simp only [List.length_append,List.length_cons,List.length_nil]);omega
    have hne3:some gb3≠_:=Kd.R_ne HO.out BK3.out (by decide)
    have hne4:some gb4≠_:=Kd.R_ne HO.out BK4.out (by decide)
    refine (driftPut_calls _ b base _ _ (out) m.f0 2 BK.out HBB.out (Nat.le_trans HBA.out HZ.out) HO.out hlp).mono ?_
    rintro e w8 ⟨rfl,vw8,hbk,ho,hat,hb,hk⟩
    clear d1 d2 d3 d4 e0 e1 e2 e3 e4
    have n0_:=am_ (hk.blk BK3.out NEB3.out hne3)
    have n1_:=am_ (hk.blk BK4.out (fun e=>NE4.out e.symm) hne4)
    have n2_:=am_ (HX.out.trans hb)
    have n3_:=am_ (Nat.le_trans HZ.out hk.1)
    clear BK3 BK4 HX HZ HO BK
    have BK3:=n0_
    have BK4:=n1_
    have HX:=n2_
    have HZ:=n3_
    have HO:=Aside0.mk ho
    have BK:=Aside0.mk hbk
    clear n0_ n1_ n2_ n3_ hbk ho hat hb hk hne3 hne4 hlp
    have d1:=(blk_cell BK4.out 1).trans rfl
    have d2:=(blk_cell BK4.out 2).trans rfl
    have d3:=(blk_cell BK4.out 3).trans rfl
    have d4:=(blk_cell BK4.out 4).trans rfl
    have e0:=(blk_cell BK3.out 0).trans rfl
    have e1:=(blk_cell BK3.out 1).trans rfl
    have e2:=(blk_cell BK3.out 2).trans rfl
    have e3:=(blk_cell BK3.out 3).trans rfl
    have e4:=(blk_cell BK3.out 4).trans rfl
    by_cases c2:r3=m.f2.f0∧r4=m.f2.f1∧r5=m.f2.f2
    · obtain ⟨q1, q2, q3⟩ := c2
      subst q1 q2 q3
      rw [if_pos ⟨rfl,rfl,rfl⟩] at hds
      go_wp2_with fail
      (first|go_end0|((try simp only [Exit.inBlock,Exit.then]);refine bodyPost_ret (results_none rfl _ _ _) rfl ?_)|refine bodyPost_end (results_none rfl _ _ _) rfl ?_)
      refine ⟨rfl,_,BK.out,(by rw [hds];simpa using HO.out),HX.out⟩
    rw [if_neg c2] at hds
    have c2b:(r3==m.f2.f0 && (r4==m.f2.f1 && (r5==m.f2.f2)))=false:=by simpa using c2
    clear c2
    go_wp2_with fail
    have hlp:(out++ [(⟨m.f0,2⟩:S37)]).length<1000000000:=by have:=HL.out;(try simp only [List.length_append,List.length_cons,List.length_nil]);omega
    have hne3:some gb3≠_:=Kd.R_ne HO.out BK3.out (by decide)
    have hne4:some gb4≠_:=Kd.R_ne HO.out BK4.out (by decide)
    refine (driftPut_calls _ b base _ _ (out++ [(⟨m.f0,2⟩:S37)]) m.f0 3 BK.out HBB.out (Nat.le_trans HBA.out HZ.out) HO.out hlp).mono ?_
    rintro e w9 ⟨rfl,vw9,hbk,ho,hat,hb,hk⟩
    clear d1 d2 d3 d4 e0 e1 e2 e3 e4
    have n0_:=am_ (hk.blk BK3.out NEB3.out hne3)
    have n1_:=am_ (hk.blk BK4.out (fun e=>NE4.out e.symm) hne4)
    have n2_:=am_ (HX.out.trans hb)
    have n3_:=am_ (Nat.le_trans HZ.out hk.1)
    clear BK3 BK4 HX HZ HO BK
    have BK3:=n0_
    have BK4:=n1_
    have HX:=n2_
    have HZ:=n3_
    have HO:=Aside0.mk ho
    have BK:=Aside0.mk hbk
    clear n0_ n1_ n2_ n3_ hbk ho hat hb hk hne3 hne4 hlp
    have d1:=(blk_cell BK4.out 1).trans rfl
    have d2:=(blk_cell BK4.out 2).trans rfl
    have d3:=(blk_cell BK4.out 3).trans rfl
    have d4:=(blk_cell BK4.out 4).trans rfl
    have e0:=(blk_cell BK3.out 0).trans rfl
    have e1:=(blk_cell BK3.out 1).trans rfl
    have e2:=(blk_cell BK3.out 2).trans rfl
    have e3:=(blk_cell BK3.out 3).trans rfl
    have e4:=(blk_cell BK3.out 4).trans rfl
    go_wp2_with fail
    (first|go_end0|((try simp only [Exit.inBlock,Exit.then]);refine bodyPost_ret (results_none rfl _ _ _) rfl ?_)|refine bodyPost_end (results_none rfl _ _ _) rfl ?_)
    refine ⟨rfl,_,BK.out,(by rw [hds];have q:=HO.out;rw [List.append_assoc] at q;exact q),HX.out⟩


def driftL (l1:List S31):List S54→Option (List S37)
 |[]=>some []
 |m::ms=>(driftMarkF l1 m).bind fun d=>(driftL l1 ms).bind fun r=>some (d++r)
theorem driftMarkF_len {l:List S31} {m:S54} {d:List S37} (h:driftMarkF l m=some d):d.length≤2:=by
  obtain ⟨⟨r1,r2,r3,r4,r5,r6,r7,r8,r9,r10,r11,r12,r13⟩,hf,h2⟩:=Option.bind_eq_some_iff.1 h
  dsimp only at h2
  split at h2
  · cases h2
    rw [List.length_append]
    split<;>split<;>simp
  cases h2
  simp
def drift_Of.f (l0:List (S54)) (l1:List (S31)):Option (List (S37)):=if l0.length<400000000 then driftL l1 l0 else none
set_option maxHeartbeats 8000000 in
set_option maxRecDepth 100000 in
theorem drift_Of.calls (A0:Option Addr) (c0:Nat) (l0:List (S54)) (A1:Option Addr) (c1:Nat) (l1:List (S31)) (r:List (S37)) (w:World) (hr0:Kd.C k54 w A0 l0.length l0) (hc0:l0.length≤c0) (hr1:Kd.C k31 w A1 l1.length l1) (hc1:l1.length≤c1) (h:drift_Of.f l0 l1=some r):
    Calls Try.prog 43 #[.slice A0 l0.length c0, .slice A1 l1.length c1] w fun e w'=> ∃v0_:Value,e= .returned (v0_)∧Kd.R k37 37 w' w.heap.size (fun _=>True) v0_ r∧Below w.heap.size w w':=by
  have hu134:=Try.underlying134
  have hu132:=Try.underlying132
  have hu54:=Try.underlying54
  unfold drift_Of.f at h
  by_cases hlim:l0.length<400000000
  case neg=>rw [if_neg hlim] at h;cases h
  rw [if_pos hlim] at h
  have HL:=Aside0.mk hlim
  have HH:=Aside0.mk h
  have HR0:=Aside0.mk hr0
  have HR1:=Aside0.mk hr1
  have HC1:=Aside0.mk hc1
  have HB:=am_ (Below.refl w.heap.size w)
  clear hr0 hr1 hc0 hc1 h hlim
  go_enter Try.func43,Try.ntmps43
  go_wp2_with (first|((with_reducible refine gate_dst (N:=11) rfl ?_);refine bx_ (N:=11) (cs:=#[.slice A1 l1.length c1, .slice none 0 0]) (t:=134) ?_;intro gb11 hg w2 hbox hb;have BK11:=am_ (hbox);have GE11:=am_ ((by rw [hg];exact below_size HB.out:w.heap.size≤gb11));replace HB:=am_ (below_step HB.out hb);have EQ11:=am_ (hg);clear hb hbox hg))
  have EQb:Aside0 (gb11=w.heap.size):=EQ11
  go_loopg [14] l0.length (fun kq v14 w'=> ∃(i:Nat) (acc rest:List S37) (u:Value),i≤l0.length∧l0.length - i≤kq∧v14= .int .i64 i∧Aside0 (driftL l1 (l0.drop i)=some rest)∧Aside0 (r=acc++rest)∧Aside0 (acc.length≤2*i)∧Aside0 (Kd.R k37 37 w' (w.heap.size+1) (fun _=>True) u acc)∧Aside0 (w'.heap[gb11]?=some (.cells #[.slice A1 l1.length c1,u] 134 (0,0)))∧Aside0 (Below w.heap.size w w'))
  case atStart=>exact ⟨0,[],r, .slice none 0 0,Nat.zero_le _,Nat.le_refl _,(by first|rfl|(simp;done)|(simp [*];done)),HH,⟨rfl⟩,⟨Nat.le_refl _⟩,⟨Kd.R_nil _ _ _ _ _⟩,⟨by refine zk_ ?_;exact BK11.out⟩,⟨zl0_ HB⟩⟩
  case round=>
    clear HH BK11 HB GE11 EQ11
    obtain ⟨i,acc,rest,u,hi,hm,rfl,HD,HE,HA,HO,BK,HB⟩:=hrel
    have HI:=Aside0.mk hi
    have HM:=Aside0.mk hm
    clear hi hm
    obtain ⟨Au,cu,eu⟩:=Kd.R_slice HO.out
    subst eu
    by_cases c1:i<l0.length
    rotate_left
    · have c1b : decide ((i : Int) < (l0.length : Int)) = false := decide_eq_false (by omega)
      have c1c:decide (i<l0.length)=false:=decide_eq_false c1
      have c1d:(i<l0.length)=False:=eq_false c1
      have e1:r=acc:=by
        have hh:=HD.out
        rw [List.drop_of_length_le (by omega)] at hh
        have:=Option.some.inj hh
        rw [HE.out,←this,List.append_nil]
      have HQ:=Aside0.mk e1
      have d1:=(blk_cell BK.out 1).trans rfl
      clear c1 e1
      go_wp2
      go_ret
      exact ⟨_,rfl,by rw [HQ.out];exact Kd.R_lower HO.out (Nat.le_succ _),HB.out⟩


    have c1b:decide ((i:Int)<(l0.length:Int))=true:=decide_eq_true (by omega)
    have hdr:driftL l1 (l0[i]::l0.drop (i+1))=some rest:=by rw [←List.drop_eq_getElem_cons c1];exact HD.out
    have hrd:rd_T54 l0 (i:Int)=l0[i]:=by
      show l0.getD (i:Int).toNat _=_
      rw [Int.toNat_natCast,List.getD_eq_getElem?_getD,List.getElem?_eq_getElem c1,Option.getD_some]
    rw [←hrd] at hdr
    obtain ⟨d,hd,h2⟩:=Option.bind_eq_some_iff.1 hdr
    obtain ⟨rest2,hre,h3⟩:=Option.bind_eq_some_iff.1 h2
    have HDM:=Aside0.mk hd
    have HRE:=Aside0.mk hre
    have HE3:=am_ (Option.some.inj h3)
    have HC:=Aside0.mk c1
    have p6:0≤((i:Nat):Int):=by omega
    have q6:((i:Nat):Int)<(l0.length:Int):=by omega
    clear hdr hrd hd h2 hre h3 c1
    obtain ⟨ad,e6,k0,k1_,k2,k3,k4,k5⟩:=at_T54 HR0.out (i:Int) p6 q6
    cases e6
    have k0:=zx_ HB k0
    have k1_:=zx_ HB k1_
    have k2:=zx_ HB k2
    have k3:=zx_ HB k3
    have k4:=zx_ HB k4
    have k5:=zx_ HB k5
    simp only [Int.toNat_natCast] at k0 k1_ k2 k3 k4 k5
    replace p6:=eq_true p6
    replace q6:=eq_true q6
    have BK_:=BK
    go_wp2_with (first|((with_reducible refine gate_dst (N:=7) rfl ?_);refine bx_ (N:=7) (cs:=#[.string ⟨#[]⟩, .string ⟨#[]⟩, .int .i64 0, .int .i64 0, .int .i64 0, .int .i64 0]) (t:=54) ?_;intro gb7 hg w4 hbox hb;replace HO:=am_ (Kd.R_below HO.out hb);replace BK:=am_ (blk_below BK.out hb);have BK7:=am_ (hbox);have GE7:=am_ ((by rw [hg];exact below_size HB.out:w.heap.size≤gb7));replace HB:=am_ (below_step HB.out hb);have EQ7:=am_ (hg);have NE7:=am_ (show gb11≠gb7 from by have:=blk_lt BK_.out;rw [hg];exact Nat.ne_of_lt this);clear hb hbox hg;have cgb7_0:=(blk_cell BK7.out 0).trans rfl;have cgb7_1:=(blk_cell BK7.out 1).trans rfl;have cgb7_2:=(blk_cell BK7.out 2).trans rfl;have cgb7_3:=(blk_cell BK7.out 3).trans rfl;have cgb7_4:=(blk_cell BK7.out 4).trans rfl;have cgb7_5:=(blk_cell BK7.out 5).trans rfl)|((with_reducible refine gate_store (t:=54) (p:=7) (v:= .tmp 17) rfl ?_);refine store_all BK7.out 54 (.tmp 7) (.tmp 17) rfl rfl rfl (.agg #[.string (rd_T54 l0 (i:Int)).f0, .string (rd_T54 l0 (i:Int)).f1, .int .i64 (rd_T54 l0 (i:Int)).f2.f0, .int .i64 (rd_T54 l0 (i:Int)).f2.f1, .int .i64 (rd_T54 l0 (i:Int)).f2.f2, .int .i64 (rd_T54 l0 (i:Int)).f3]) [.string (rd_T54 l0 (i:Int)).f0, .string (rd_T54 l0 (i:Int)).f1, .int .i64 (rd_T54 l0 (i:Int)).f2.f0, .int .i64 (rd_T54 l0 (i:Int)).f2.f1, .int .i64 (rd_T54 l0 (i:Int)).f2.f2, .int .i64 (rd_T54 l0 (i:Int)).f3] rfl rfl rfl (by kernel_rfl) rfl (by intro q hq;simp only [List.mem_cons,List.not_mem_nil,or_false] at hq;rcases hq with rfl|rfl|rfl|rfl|rfl|rfl<;>rfl) ?_;intro w5 hbk hg;clear cgb7_0 cgb7_1 cgb7_2 cgb7_3 cgb7_4 cgb7_5;replace HO:=am_ (R_put HO.out BK7.out (by decide) hg);replace BK:=am_ (blk_put_other BK.out hg (NE7.out));replace HB:=am_ (below_put HB.out (below_size HB.out) hg GE7.out);replace BK7:=am_ (hbk);clear hbk hg;have cgb7_0:=(blk_cell BK7.out 0).trans rfl;have cgb7_1:=(blk_cell BK7.out 1).trans rfl;have cgb7_2:=(blk_cell BK7.out 2).trans rfl;have cgb7_3:=(blk_cell BK7.out 3).trans rfl;have cgb7_4:=(blk_cell BK7.out 4).trans rfl;have cgb7_5:=(blk_cell BK7.out 5).trans rfl))
    refine (driftMark_calls _ gb11 (w.heap.size+1) A1 c1 l1 _ acc d (rd_T54 l0 (i:Int)) BK.out (by rw [EQb.out];exact Nat.lt_succ_self _) (by have:=blk_lt BK.out;have:=EQb.out;omega) (Kd.C_below HR1.out HB.out) HC1.out HO.out (by have:=HA.out;have:=HI.out;have:=HL.out;omega) HDM.out).mono ?_
    rintro e w9 ⟨rfl,v2,hbk,ho,hb⟩
    have HB9:=am_ (HB.out.trans (show Below w.heap.size _ _ from by rw [←EQb.out];exact hb))
    have BK9:=Aside0.mk hbk
    have HO9:=Aside0.mk ho
    clear hbk ho hb cgb7_0 cgb7_1 cgb7_2 cgb7_3 cgb7_4 cgb7_5 k0 k1_ k2 k3 k4 k5
    have ei:wrap64 ((i:Int)+1)=((i+1:Nat):Int):=by have:=HL.out;have:=HC.out;rw [show wrap64 ((i:Int)+1)=(i:Int)+1 from by unfold wrap64;omega];rfl
    go_wp2_with fail
    go_roundg (l0.length - (i+1))
    case measure=>have:=HM.out;have:=HC.out;omega
    case rel=>exact ⟨i+1,acc++d,rest2,v2,(by have:=HC.out;omega),Nat.le_refl _,(by first|rfl|(rw [ei];done)|(simp [ei];done)|(simp [*];done)),HRE,⟨by rw [HE.out,←HE3.out,List.append_assoc]⟩,⟨by have:=HA.out;have:=driftMarkF_len HDM.out;rw [List.length_append];omega⟩,HO9,BK9,HB9⟩
theorem eqA54 (d:Nat) (w:World) (x0 y0:ByteArray) (x1 y1:ByteArray) (x2 y2:Int) (x3 y3:Int) (x4 y4:Int) (x5 y5:Int):
  (Op.equalIn (d+3) 54 (.agg #[.string x0, .string x1, .int .i64 x2, .int .i64 x3, .int .i64 x4, .int .i64 x5]) (.agg #[.string y0, .string y1, .int .i64 y2, .int .i64 y3, .int .i64 y4, .int .i64 y5])).run Try.prog w= .ok (x0.toList==y0.toList && (x1.toList==y1.toList && ((x2==y2 && (x3==y3 && (x4==y4))) && (x5==y5)))) w:=by
 refine eqA_of Try.underlying54 (by kernel_rfl) ?_
 refine eqf_cons (by rfl) (by go_simp;rfl) (by go_simp;rfl) (by go_simp) ?_
 refine eqf_cons (by rfl) (by go_simp;rfl) (by go_simp;rfl) (by go_simp) ?_
 refine eqf_cons (by rfl) (by go_simp) (by go_simp) (eqA27 (d+0) w _ _ _ _ _ _) ?_
 exact eqf_last (by rfl) (by go_simp;rfl) (by go_simp;rfl) (by go_simp)
attribute [local go_sem high] eqA54
def r16_SameMarks.l0:Nat→List (S54)→List (S54)→Int→Option (Bool)
 |0,_,_,_=>none
 |k+1,x0,x1,x5=>if x5<(x0.length:Int) then (if 0≤x5 then (if x5<(x1.length:Int) then (if (!((((rd_T54 x0 x5).f0).toList)==(((rd_T54 x1 x5).f0).toList))||(!((((rd_T54 x0 x5).f1).toList)==(((rd_T54 x1 x5).f1).toList))||((!(((rd_T54 x0 x5).f2.f0)==((rd_T54 x1 x5).f2.f0))||(!(((rd_T54 x0 x5).f2.f1)==((rd_T54 x1 x5).f2.f1))||(!(((rd_T54 x0 x5).f2.f2)==((rd_T54 x1 x5).f2.f2)))))||(!(((rd_T54 x0 x5).f3)==((rd_T54 x1 x5).f3))))))=true then (some false) else (r16_SameMarks.l0 k x0 x1 (wrap64 (x5+1)))) else (none)) else (none)) else (some true)
def r16_SameMarks.f (k:Nat) (l0:List (S54)) (l1:List (S54)):Option (Bool):=if (l0.length:Int)=(l1.length:Int) then (r16_SameMarks.l0 k l0 l1 0) else (some false)
theorem r16_SameMarks.mono_l: ∀k,(∀y0 y1 y2,LeO (r16_SameMarks.l0 k y0 y1 y2) (r16_SameMarks.l0 (k+1) y0 y1 y2))
 |0=>fun _ _ _ r h=>by simp [r16_SameMarks.l0] at h
 |k+1=>by
  have ih0:=r16_SameMarks.mono_l k
  intro y0 y1 y2
  unfold r16_SameMarks.l0
  repeat' first
  |(with_reducible exact ih0 _ _ _)
  |(with_reducible exact LeO.refl _)
  |(with_reducible exact LeO.none _)
  |(with_reducible refine LeO.ite ?_ ?_)
  |(with_reducible refine LeO.bind ?_ (fun _=> ?_))
  |exact ih0 _ _ _
  |exact LeO.none _
  |refine LeO.ite ?_ ?_
  |refine LeO.bind ?_ (fun _=> ?_)
theorem r16_SameMarks.mono: ∀a0 a1 k,LeO (r16_SameMarks.f k a0 a1) (r16_SameMarks.f (k+1) a0 a1):=by
 intro a0 a1 k
 have ih0:=r16_SameMarks.mono_l k
 unfold r16_SameMarks.f
 repeat' first
  |(with_reducible exact ih0 _ _ _)
  |(with_reducible exact LeO.refl _)
  |(with_reducible exact LeO.none _)
  |(with_reducible refine LeO.ite ?_ ?_)
  |(with_reducible refine LeO.bind ?_ (fun _=> ?_))
  |exact ih0 _ _ _
  |exact LeO.none _
  |refine LeO.ite ?_ ?_
  |refine LeO.bind ?_ (fun _=> ?_)
set_option maxHeartbeats 8000000 in
set_option maxRecDepth 100000 in
theorem r16_SameMarks.calls (k:Nat) (A0:Option Addr) (c0:Nat) (l0:List (S54)) (A1:Option Addr) (c1:Nat) (l1:List (S54)) (r:Bool) (w:World) (hr0:Kd.C k54 w A0 l0.length l0) (hc0:l0.length≤c0) (hr1:Kd.C k54 w A1 l1.length l1) (hc1:l1.length≤c1) (h:r16_SameMarks.f k l0 l1=some r):
  Calls Try.prog 45 #[.slice A0 l0.length c0, .slice A1 l1.length c1] w fun e w'=>e= .returned (.bool r)∧Drawn0 w w':=by
 have hu54:=Try.underlying54
 have HR0:=Aside0.mk hr0
 have HC0:=Aside0.mk hc0
 clear hr0 hc0
 have HR1:=Aside0.mk hr1
 have HC1:=Aside0.mk hc1
 clear hr1 hc1
 have H:(if (l0.length:Int)=(l1.length:Int) then (r16_SameMarks.l0 k l0 l1 0) else (some false))=some r:=h
 clear h
 by_cases c3:(l0.length:Int)=(l1.length:Int)
 rotate_left
 ·rw [if_neg c3] at H
  have c3b0:((l0.length:Int)==(l1.length:Int))=false:=beq_eq_false_iff_ne.mpr c3
  have c3b1:((l0.length:Int) !=(l1.length:Int))=true:=bne_iff_ne.mpr c3
  have c3b2:(l0.length==l1.length)=false:=by first|simpa using c3|(simp at c3 ⊢;omega)
  obtain rfl:=Option.some.inj H
  go_enter Try.func45,Try.ntmps45
  go_wp2
  repeat (go_quiet (fail);try go_wp2)
  go_ret
  exact ⟨by first|rfl|(simp;done)|(simp [*];done),by repeat (first|exact Drawn0.refl _|apply Drawn0.step)⟩

 rw [if_pos c3] at H
 have c3b0:((l0.length:Int)==(l1.length:Int))=true:=beq_iff_eq.mpr c3
 have c3b1:((l0.length:Int) !=(l1.length:Int))=false:=bne_eq_false_iff_eq.mpr c3
 have c3b2:(l0.length==l1.length)=true:=by first|simpa using c3|(simp at c3 ⊢;omega)
 clear c3
 have H':=Aside0.mk H
 clear H
 go_enter Try.func45,Try.ntmps45
 go_wp2
 repeat (go_quiet (fail);try go_wp2)
 go_loopg [5] k (fun kq v5 w'=> ∃(x5_1:Int),v5= .int .i64 x5_1∧Aside0 (r16_SameMarks.l0 kq l0 l1 x5_1=some r)∧Aside0 (kq≤k)∧Drawn0 w w')
 case atStart=>exact ⟨(0),(by first|rfl|(simp;done)|(simp [*];done)),H',⟨Nat.le_refl _⟩,by repeat (first|exact Drawn0.refl _|apply Drawn0.step)⟩
 case round=>
  clear H'
  try clear c1
  try clear p2
  try clear c3
  try clear c3b0
  try clear c3b1
  try clear c3b2
  obtain ⟨x5_1,rfl,HA,HK1,⟨m1,rfl⟩⟩:=hrel
  cases gk with
  |zero=>exact absurd HA.out (by simp [r16_SameMarks.l0])
  |succ k1=>
   have H:=HA.out
   clear HA
   simp only [r16_SameMarks.l0] at H
   by_cases c4:x5_1<(l0.length:Int)
   rotate_left
   ·rw [if_neg c4] at H
    have c4b0:decide (x5_1<(l0.length:Int))=false:=decide_eq_false c4
    clear c4
    obtain rfl:=Option.some.inj H
    go_wp2
    repeat (go_quiet (fail);try go_wp2)
    go_ret
    exact ⟨by first|rfl|(simp;done)|(simp [*];done),by repeat (first|exact Drawn0.refl _|apply Drawn0.step)⟩
   rw [if_pos c4] at H
   have c4b0:decide (x5_1<(l0.length:Int))=true:=decide_eq_true c4
   clear c4
   by_cases c5:0≤x5_1
   rotate_left
   ·rw [if_neg c5] at H
    exact absurd H (by simp)
   rw [if_pos c5] at H
   have c5b0:decide (0≤x5_1)=true:=decide_eq_true c5
   clear c5
   by_cases c6:x5_1<(l1.length:Int)
   rotate_left
   ·rw [if_neg c6] at H
    exact absurd H (by simp)
   rw [if_pos c6] at H
   have c6b0:decide (x5_1<(l1.length:Int))=true:=decide_eq_true c6
   clear c6
   by_cases c7:(!((((rd_T54 l0 x5_1).f0).toList)==(((rd_T54 l1 x5_1).f0).toList))||(!((((rd_T54 l0 x5_1).f1).toList)==(((rd_T54 l1 x5_1).f1).toList))||((!(((rd_T54 l0 x5_1).f2.f0)==((rd_T54 l1 x5_1).f2.f0))||(!(((rd_T54 l0 x5_1).f2.f1)==((rd_T54 l1 x5_1).f2.f1))||(!(((rd_T54 l0 x5_1).f2.f2)==((rd_T54 l1 x5_1).f2.f2)))))||(!(((rd_T54 l0 x5_1).f3)==((rd_T54 l1 x5_1).f3))))))=true
   ·rw [if_pos c7] at H
    have c7b0:(!((((rd_T54 l0 x5_1).f0).toList)==(((rd_T54 l1 x5_1).f0).toList))||(!((((rd_T54 l0 x5_1).f1).toList)==(((rd_T54 l1 x5_1).f1).toList))||((!(((rd_T54 l0 x5_1).f2.f0)==((rd_T54 l1 x5_1).f2.f0))||(!(((rd_T54 l0 x5_1).f2.f1)==((rd_T54 l1 x5_1).f2.f1))||(!(((rd_T54 l0 x5_1).f2.f2)==((rd_T54 l1 x5_1).f2.f2)))))||(!(((rd_T54 l0 x5_1).f3)==((rd_T54 l1 x5_1).f3))))))=true:=c7
    clear c7
    obtain rfl:=Option.some.inj H
    have p1:0≤(x5_1:Int):=of_decide_eq_true zq_
    have q1:x5_1<(l0.length:Int):=of_decide_eq_true zq_
    obtain ⟨ad1,e1,hx1_0,hx1_1,hx1_2,hx1_3,hx1_4,hx1_5⟩:=at_T54 HR0.out x5_1 p1 q1
    cases e1
    replace p1:=eq_true p1
    replace q1:=eq_true q1
    have p2:0≤(x5_1:Int):=of_decide_eq_true zq_
    have q2:x5_1<(l1.length:Int):=of_decide_eq_true zq_
    obtain ⟨ad2,e2,hx2_0,hx2_1,hx2_2,hx2_3,hx2_4,hx2_5⟩:=at_T54 HR1.out x5_1 p2 q2
    cases e2
    replace p2:=eq_true p2
    replace q2:=eq_true q2
    go_wp2
    repeat (go_quiet (fail);try go_wp2)
    go_ret
    exact ⟨by first|rfl|(simp;done)|(simp [*];done),by repeat (first|exact Drawn0.refl _|apply Drawn0.step)⟩
   rw [if_neg c7] at H
   have c7b0:(!((((rd_T54 l0 x5_1).f0).toList)==(((rd_T54 l1 x5_1).f0).toList))||(!((((rd_T54 l0 x5_1).f1).toList)==(((rd_T54 l1 x5_1).f1).toList))||((!(((rd_T54 l0 x5_1).f2.f0)==((rd_T54 l1 x5_1).f2.f0))||(!(((rd_T54 l0 x5_1).f2.f1)==((rd_T54 l1 x5_1).f2.f1))||(!(((rd_T54 l0 x5_1).f2.f2)==((rd_T54 l1 x5_1).f2.f2)))))||(!(((rd_T54 l0 x5_1).f3)==((rd_T54 l1 x5_1).f3))))))=false:=by simpa using c7
   clear c7
   have H':=Aside0.mk H
   clear H
   have p1:0≤(x5_1:Int):=of_decide_eq_true zq_
   have q1:x5_1<(l0.length:Int):=of_decide_eq_true zq_
   obtain ⟨ad1,e1,hx1_0,hx1_1,hx1_2,hx1_3,hx1_4,hx1_5⟩:=at_T54 HR0.out x5_1 p1 q1
   cases e1
   replace p1:=eq_true p1
   replace q1:=eq_true q1
   have p2:0≤(x5_1:Int):=of_decide_eq_true zq_
   have q2:x5_1<(l1.length:Int):=of_decide_eq_true zq_
   obtain ⟨ad2,e2,hx2_0,hx2_1,hx2_2,hx2_3,hx2_4,hx2_5⟩:=at_T54 HR1.out x5_1 p2 q2
   cases e2
   replace p2:=eq_true p2
   replace q2:=eq_true q2
   go_wp2
   repeat (go_quiet (fail);try go_wp2)
   go_roundg k1
   case measure=>have:=HK1.out;omega
   case rel=>exact ⟨(wrap64 (x5_1+1)),(by first|rfl|(simp;done)|(simp [*];done)),H',⟨by have:=HK1.out;omega⟩,by repeat (first|exact Drawn0.refl _|apply Drawn0.step)⟩
def drift_Fresh.l0:Nat→List (S31)→List (S54)→List (S54)→Int→Int→Option ((List (S54)))
 |0,_,_,_,_,_=>none
 |k+1,x1,x5,x10,x11,x12=>if x12<x11 then (if 0≤x12 then (if x12<(x10.length:Int) then ((drift_live_find.f x1 ((rd_T54 x10 x12).f0)).bind fun bt3=>(if bt3.2.2.2.2.2.2.2.2.2.2.2.2=true then (if x5.length<2199023255552 then (drift_Fresh.l0 k x1 (x5++ [(⟨bt3.1,bt3.2.1,(⟨bt3.2.2.1,bt3.2.2.2.1,bt3.2.2.2.2.1⟩:S27),bt3.2.2.2.2.2.2.2.2.2.2.2.1⟩:S54)]) x10 x11 (wrap64 (x12+1))) else (none)) else (drift_Fresh.l0 k x1 x5 x10 x11 (wrap64 (x12+1))))) else (none)) else (none)) else (some x5)
def drift_Fresh.f (k:Nat) (l0:List (S54)) (l1:List (S31)):Option ((List (S54))):=drift_Fresh.l0 k l1 ([]:List (S54)) l0 (l0.length:Int) 0
theorem drift_Fresh.mono_l: ∀k,(∀y0 y1 y2 y3 y4,LeO (drift_Fresh.l0 k y0 y1 y2 y3 y4) (drift_Fresh.l0 (k+1) y0 y1 y2 y3 y4))
 |0=>fun _ _ _ _ _ r h=>by simp [drift_Fresh.l0] at h
 |k+1=>by
  have ih0:=drift_Fresh.mono_l k
  intro y0 y1 y2 y3 y4
  unfold drift_Fresh.l0
  repeat' first
  |(with_reducible exact ih0 _ _ _ _ _)
  |(with_reducible exact LeO.refl _)
  |(with_reducible exact LeO.none _)
  |(with_reducible refine LeO.ite ?_ ?_)
  |(with_reducible refine LeO.bind ?_ (fun _=> ?_))
  |exact ih0 _ _ _ _ _
  |exact LeO.none _
  |refine LeO.ite ?_ ?_
  |refine LeO.bind ?_ (fun _=> ?_)
theorem drift_Fresh.mono: ∀a0 a1 k,LeO (drift_Fresh.f k a0 a1) (drift_Fresh.f (k+1) a0 a1):=by
 intro a0 a1 k
 have ih0:=drift_Fresh.mono_l k
 unfold drift_Fresh.f
 repeat' first
  |(with_reducible exact ih0 _ _ _ _ _)
  |(with_reducible exact LeO.refl _)
  |(with_reducible exact LeO.none _)
  |(with_reducible refine LeO.ite ?_ ?_)
  |(with_reducible refine LeO.bind ?_ (fun _=> ?_))
  |exact ih0 _ _ _ _ _
  |exact LeO.none _
  |refine LeO.ite ?_ ?_
  |refine LeO.bind ?_ (fun _=> ?_)
set_option maxHeartbeats 8000000 in
set_option maxRecDepth 100000 in
theorem drift_Fresh.calls (k:Nat) (A0:Option Addr) (c0:Nat) (l0:List (S54)) (A1:Option Addr) (c1:Nat) (l1:List (S31)) (r:List (S54)) (w:World) (hr0:Kd.C k54 w A0 l0.length l0) (hc0:l0.length≤c0) (hr1:Kd.C k31 w A1 l1.length l1) (hc1:l1.length≤c1) (h:drift_Fresh.f k l0 l1=some r):
  Calls Try.prog 46 #[.slice A0 l0.length c0, .slice A1 l1.length c1] w fun e w'=> ∃v0_:Value,e= .returned (v0_)∧Kd.R k54 54 w' w.heap.size (fun _=>True) v0_ r∧Below w.heap.size w w':=by
 have hu54:=Try.underlying54
 have hu132:=Try.underlying132
 have hu31:=Try.underlying31
 have hu27:=Try.underlying27
 have HR0:=Aside0.mk hr0
 have HC0:=Aside0.mk hc0
 clear hr0 hc0
 have HR1:=Aside0.mk hr1
 have HC1:=Aside0.mk hc1
 clear hr1 hc1
 have HB:=am_ (Below.refl w.heap.size w)
 have H:(drift_Fresh.l0 k l1 ([]:List (S54)) l0 (l0.length:Int) 0)=some r:=h
 clear h
 have H':=Aside0.mk H
 clear H
 go_enter Try.func46,Try.ntmps46
 go_wp2
 go_loopg [5,12] k (fun kq v5 v12 w'=> ∃(x5_1:List (S54)) (x12_1:Int),v12= .int .i64 x12_1∧Aside0 (drift_Fresh.l0 kq l1 x5_1 l0 (l0.length:Int) x12_1=some r)∧Aside0 (kq≤k)∧Aside0 (Kd.R k54 54 w' w.heap.size (fun _=>True) v5 x5_1)∧Aside0 (Below w.heap.size w w'))
 case atStart=>exact ⟨(([]:List (S54))),(0),(by first|rfl|(simp;done)|(simp [*];done)),H',⟨Nat.le_refl _⟩,⟨by first|exact Kd.R_nil _ _ _ _ _|exact Kd.N_nil _ _ _ _ _|exact Kd.V_nil _ _ _ _ _|exact Kd.Q_nil _ _ _ _ _|exact Kd.S_nil _ _ _ _ _⟩,⟨zl0_ HB⟩⟩
 case round=>
  clear H'
  try clear c1
  try clear p2
  obtain ⟨x5_1,x12_1,rfl,HA,HK1,HO_5,HB⟩:=hrel
  cases gk with
  |zero=>exact absurd HA.out (by simp [drift_Fresh.l0])
  |succ k1=>
   have H:=HA.out
   clear HA
   simp only [drift_Fresh.l0] at H
   by_cases c3:x12_1<(l0.length:Int)
   rotate_left
   ·rw [if_neg c3] at H
    have c3b0:decide (x12_1<(l0.length:Int))=false:=decide_eq_false c3
    clear c3
    obtain rfl:=Option.some.inj H
    go_wp2
    go_ret
    exact ⟨_,by first|rfl|(simp [errW_none,errW_some]<;>rfl)|(simp [*,errW_none,errW_some]<;>rfl),by (with_reducible repeat (first|apply Kd.R_alloc|apply Kd.R_drewN|apply Kd.R_drew));exact HO_5.out,zl0_ HB⟩

   rw [if_pos c3] at H
   have c3b0:decide (x12_1<(l0.length:Int))=true:=decide_eq_true c3
   clear c3
   by_cases c4:0≤x12_1
   rotate_left
   ·rw [if_neg c4] at H
    exact absurd H (by simp)
   rw [if_pos c4] at H
   have c4b0:decide (0≤x12_1)=true:=decide_eq_true c4
   clear c4
   by_cases c5:x12_1<(l0.length:Int)
   rotate_left
   ·rw [if_neg c5] at H
    exact absurd H (by simp)
   rw [if_pos c5] at H
   have c5b0:decide (x12_1<(l0.length:Int))=true:=decide_eq_true c5
   clear c5
   replace H:=Option.bind_eq_some_iff.mp H
   obtain ⟨⟨t3,t4,t5,t6,t7,t8,t9,t10,t11,t12,t13,t14,t15⟩,A60,H⟩:=H
   try dsimp only at H
   have A6:=Aside0.mk A60
   clear A60
   by_cases c7:t15=true
   rotate_left
   ·replace c7:=Bool.eq_false_iff.mpr c7
    subst c7
    have H1:(drift_Fresh.l0 k1 l1 x5_1 l0 (l0.length:Int) (wrap64 (x12_1+1)))=some r:=by rw [if_neg (show¬(false=true) by decide)] at H;exact H
    clear H
    have H:=H1
    clear H1
    have H':=Aside0.mk H
    clear H
    have p1:0≤(x12_1:Int):=of_decide_eq_true zq_
    have q1:x12_1<(l0.length:Int):=of_decide_eq_true zq_
    obtain ⟨ad1,e1,hx1_0,hx1_1,hx1_2,hx1_3,hx1_4,hx1_5⟩:=at_T54 HR0.out x12_1 p1 q1
    cases e1
    replace hx1_0:=zx_ HB hx1_0
    replace hx1_1:=zx_ HB hx1_1
    replace hx1_2:=zx_ HB hx1_2
    replace hx1_3:=zx_ HB hx1_3
    replace hx1_4:=zx_ HB hx1_4
    replace hx1_5:=zx_ HB hx1_5
    replace p1:=eq_true p1
    replace q1:=eq_true q1
    go_wp2_with (first|((with_reducible refine gate_dst (N:=7) rfl ?_);refine bx_ (N:=7) (cs:=#[.string (⟨#[]⟩:ByteArray), .string (⟨#[]⟩:ByteArray), .int .i64 0, .int .i64 0, .int .i64 0, .int .i64 0]) (t:=54) ?_;intro gb2 hg w16 hbox hb;replace HO_5:=am_ (Kd.R_below (Kd.R_elderB (zr_ HO_5) gb2 (Nat.le_of_eq hg.symm)) hb);have BK2:=am_ (hbox);have GW2:=am_ ((zg0_ HB hg:w.heap.size≤gb2));have GE2:=am_ ((zg0_ HB hg:w.heap.size≤gb2));replace HB:=am_ (below_step (zl0_ HB) hb);clear hb hbox hg;obtain ⟨hcz17_0,hcz17_1,hcz17_2,hcz17_3,hcz17_4,hcz17_5⟩:=x6_ BK2;have hfz17_0:=blk_frozen BK2.out 0;have hfz17_1:=blk_frozen BK2.out 1;have hfz17_2:=blk_frozen BK2.out 2;have hfz17_3:=blk_frozen BK2.out 3;have hfz17_4:=blk_frozen BK2.out 4;have hfz17_5:=blk_frozen BK2.out 5)|((with_reducible refine gate_callee (f:=108) rfl ?_);refine gl_ (some 21) Try.func108 #[.agg #[.slice A1 l1.length c1], .string ((rd_T54 l0 x12_1).f0)] ?_;(with_reducible refine (drift_live_find.calls _ _ l1 ((rd_T54 l0 x12_1).f0) t3 t4 t5 t6 t7 t8 t9 t10 t11 t12 t13 t14 false _ ?side1 ?side2 A6.out).mono ?_);(case side1=>exact Kd.C_below HR1.out (zl1_ HB GE2));(case side2=>exact HC1.out);rintro e w18 ⟨rfl,hb⟩;refine ⟨_,rfl, ?_⟩;replace HO_5:=am_ (Kd.R_below (by refine zt_ ?_;exact (Kd.R_mono (Kd.R_far (p:=⟨gb2,5,none⟩) (Kd.R_far (p:=⟨gb2,4,none⟩) (Kd.R_far (p:=⟨gb2,3,none⟩) (Kd.R_far (p:=⟨gb2,2,none⟩) (Kd.R_far (p:=⟨gb2,1,none⟩) (Kd.R_far (p:=⟨gb2,0,none⟩) (Kd.R_mono HO_5.out (fun k_ hk=>(⟨hk,hk.2⟩:_∧k_≠gb2))) (fun _ hk=>hk.2) (.string ((rd_T54 l0 x12_1).f0))) (fun _ hk=>hk.2) (.string ((rd_T54 l0 x12_1).f1))) (fun _ hk=>hk.2) (.int .i64 ((rd_T54 l0 x12_1).f2.f0))) (fun _ hk=>hk.2) (.int .i64 ((rd_T54 l0 x12_1).f2.f1))) (fun _ hk=>hk.2) (.int .i64 ((rd_T54 l0 x12_1).f2.f2))) (fun _ hk=>hk.2) (.int .i64 ((rd_T54 l0 x12_1).f3))) (fun _ h_=>h_.1))) hb);replace BK2:=am_ (blk_below (g:=gb2) (o:= .cells #[.string ((rd_T54 l0 x12_1).f0), .string ((rd_T54 l0 x12_1).f1), .int .i64 ((rd_T54 l0 x12_1).f2.f0), .int .i64 ((rd_T54 l0 x12_1).f2.f1), .int .i64 ((rd_T54 l0 x12_1).f2.f2), .int .i64 ((rd_T54 l0 x12_1).f3)] 54 (0,0)) (zw_ BK2) hb);replace HB:=am_ (below_step (zl1_ HB GE2) hb);(try clear hb);(try clear hb2);(try clear hk);(try clear hi))|((with_reducible refine gate_dst (N:=8) rfl ?_);refine bx_ (N:=8) (cs:=#[.string (⟨#[]⟩:ByteArray), .string (⟨#[]⟩:ByteArray), .int .i64 0, .int .i64 0, .int .i64 0, .int .i64 0, .int .i64 0, .int .i64 0, .int .i64 0, .int .i64 0, .int .i64 0, .int .i64 0]) (t:=31) ?_;intro gb16 hg w19 hbox hb;replace HO_5:=am_ (Kd.R_below (zr_ HO_5) hb);have BK16:=am_ (hbox);have GW16:=am_ ((zg1_ HB GE2 hg:w.heap.size≤gb16));have GE16:=am_ ((zg1_ HB GE2 hg:w.heap.size≤gb16));replace HB:=am_ (below_step (zl1_ HB GE2) hb);have NB2_16:=am_ ((zn_ BK2 hg:gb2≠gb16));have NB16_2:=am_ ((zm_ BK2 hg:gb16≠gb2));replace BK2:=am_ (blk_below (zb_ BK2) hb);clear hb hbox hg;have hnb20:=NB16_2.out;have hnc20:=NB2_16.out;obtain ⟨hcz21_0,hcz21_1,hcz21_2,hcz21_3,hcz21_4,hcz21_5,hcz21_6,hcz21_7,hcz21_8,hcz21_9,hcz21_10,hcz21_11⟩:=x12_ BK16;have hfz21_0:=blk_frozen BK16.out 0;have hfz21_1:=blk_frozen BK16.out 1;have hfz21_2:=blk_frozen BK16.out 2;have hfz21_3:=blk_frozen BK16.out 3;have hfz21_4:=blk_frozen BK16.out 4;have hfz21_5:=blk_frozen BK16.out 5;have hfz21_6:=blk_frozen BK16.out 6;have hfz21_7:=blk_frozen BK16.out 7;have hfz21_8:=blk_frozen BK16.out 8;have hfz21_9:=blk_frozen BK16.out 9;have hfz21_10:=blk_frozen BK16.out 10;have hfz21_11:=blk_frozen BK16.out 11))
    go_roundg k1
    case measure=>have:=HK1.out;omega
    case rel=>exact ⟨(x5_1),(wrap64 (x12_1+1)),(by first|rfl|(simp;done)|(simp [*];done)),H',⟨by have:=HK1.out;omega⟩,⟨zy_ HO_5 BK16⟩,⟨zl2_ HB GE2 GE16⟩⟩
   subst c7
   have H1:(if x5_1.length<2199023255552 then (drift_Fresh.l0 k1 l1 (x5_1++ [(⟨t3,t4,(⟨t5,t6,t7⟩:S27),t14⟩:S54)]) l0 (l0.length:Int) (wrap64 (x12_1+1))) else (none))=some r:=by rw [if_pos rfl] at H;exact H
   clear H
   have H:=H1
   clear H1
   by_cases c8:x5_1.length<2199023255552
   rotate_left
   ·rw [if_neg c8] at H
    exact absurd H (by simp)
   rw [if_pos c8] at H
   have LMc8:=Aside0.mk c8
   clear c8
   obtain ⟨y17,hy17⟩: ∃y_:List (S54),y_=(x5_1++ [(⟨t3,t4,(⟨t5,t6,t7⟩:S27),t14⟩:S54)]):=⟨_,rfl⟩
   replace H:(drift_Fresh.l0 k1 l1 y17 l0 (l0.length:Int) (wrap64 (x12_1+1)))=some r:=by first|(rw [hy17];with_reducible exact H)|(have H2_:=(Option.bind_some _ _).symm.trans H;rw [hy17];with_reducible exact H2_)|(have H2_:=(Option.bind_some _ _).symm.trans H;with_reducible exact H2_)|with_reducible exact H|(rw [hy17];exact H)|exact H
   have Ny17:=Aside0.mk hy17
   clear hy17
   have H':=Aside0.mk H
   clear H
   have p1:0≤(x12_1:Int):=of_decide_eq_true zq_
   have q1:x12_1<(l0.length:Int):=of_decide_eq_true zq_
   obtain ⟨ad1,e1,hx1_0,hx1_1,hx1_2,hx1_3,hx1_4,hx1_5⟩:=at_T54 HR0.out x12_1 p1 q1
   cases e1
   replace hx1_0:=zx_ HB hx1_0
   replace hx1_1:=zx_ HB hx1_1
   replace hx1_2:=zx_ HB hx1_2
   replace hx1_3:=zx_ HB hx1_3
   replace hx1_4:=zx_ HB hx1_4
   replace hx1_5:=zx_ HB hx1_5
   replace p1:=eq_true p1
   replace q1:=eq_true q1
   go_wp2_with (first|((with_reducible refine gate_dst (N:=7) rfl ?_);refine bx_ (N:=7) (cs:=#[.string (⟨#[]⟩:ByteArray), .string (⟨#[]⟩:ByteArray), .int .i64 0, .int .i64 0, .int .i64 0, .int .i64 0]) (t:=54) ?_;intro gb2 hg w9 hbox hb;replace HO_5:=am_ (Kd.R_below (Kd.R_elderB (zr_ HO_5) gb2 (Nat.le_of_eq hg.symm)) hb);have BK2:=am_ (hbox);have GW2:=am_ ((zg0_ HB hg:w.heap.size≤gb2));have GE2:=am_ ((zg0_ HB hg:w.heap.size≤gb2));replace HB:=am_ (below_step (zl0_ HB) hb);clear hb hbox hg;obtain ⟨hcz10_0,hcz10_1,hcz10_2,hcz10_3,hcz10_4,hcz10_5⟩:=x6_ BK2;have hfz10_0:=blk_frozen BK2.out 0;have hfz10_1:=blk_frozen BK2.out 1;have hfz10_2:=blk_frozen BK2.out 2;have hfz10_3:=blk_frozen BK2.out 3;have hfz10_4:=blk_frozen BK2.out 4;have hfz10_5:=blk_frozen BK2.out 5)|((with_reducible refine gate_callee (f:=108) rfl ?_);refine gl_ (some 21) Try.func108 #[.agg #[.slice A1 l1.length c1], .string ((rd_T54 l0 x12_1).f0)] ?_;(with_reducible refine (drift_live_find.calls _ _ l1 ((rd_T54 l0 x12_1).f0) t3 t4 t5 t6 t7 t8 t9 t10 t11 t12 t13 t14 true _ ?side1 ?side2 A6.out).mono ?_);(case side1=>exact Kd.C_below HR1.out (zl1_ HB GE2));(case side2=>exact HC1.out);rintro e w11 ⟨rfl,hb⟩;refine ⟨_,rfl, ?_⟩;replace HO_5:=am_ (Kd.R_below (by refine zt_ ?_;exact (Kd.R_mono (Kd.R_far (p:=⟨gb2,5,none⟩) (Kd.R_far (p:=⟨gb2,4,none⟩) (Kd.R_far (p:=⟨gb2,3,none⟩) (Kd.R_far (p:=⟨gb2,2,none⟩) (Kd.R_far (p:=⟨gb2,1,none⟩) (Kd.R_far (p:=⟨gb2,0,none⟩) (Kd.R_mono HO_5.out (fun k_ hk=>(⟨hk,hk.2⟩:_∧k_≠gb2))) (fun _ hk=>hk.2) (.string ((rd_T54 l0 x12_1).f0))) (fun _ hk=>hk.2) (.string ((rd_T54 l0 x12_1).f1))) (fun _ hk=>hk.2) (.int .i64 ((rd_T54 l0 x12_1).f2.f0))) (fun _ hk=>hk.2) (.int .i64 ((rd_T54 l0 x12_1).f2.f1))) (fun _ hk=>hk.2) (.int .i64 ((rd_T54 l0 x12_1).f2.f2))) (fun _ hk=>hk.2) (.int .i64 ((rd_T54 l0 x12_1).f3))) (fun _ h_=>h_.1))) hb);replace BK2:=am_ (blk_below (g:=gb2) (o:= .cells #[.string ((rd_T54 l0 x12_1).f0), .string ((rd_T54 l0 x12_1).f1), .int .i64 ((rd_T54 l0 x12_1).f2.f0), .int .i64 ((rd_T54 l0 x12_1).f2.f1), .int .i64 ((rd_T54 l0 x12_1).f2.f2), .int .i64 ((rd_T54 l0 x12_1).f3)] 54 (0,0)) (zw_ BK2) hb);replace HB:=am_ (below_step (zl1_ HB GE2) hb);(try clear hb);(try clear hb2);(try clear hk);(try clear hi))|((with_reducible refine gate_dst (N:=8) rfl ?_);refine bx_ (N:=8) (cs:=#[.string (⟨#[]⟩:ByteArray), .string (⟨#[]⟩:ByteArray), .int .i64 0, .int .i64 0, .int .i64 0, .int .i64 0, .int .i64 0, .int .i64 0, .int .i64 0, .int .i64 0, .int .i64 0, .int .i64 0]) (t:=31) ?_;intro gb16 hg w12 hbox hb;replace HO_5:=am_ (Kd.R_below (zr_ HO_5) hb);have BK16:=am_ (hbox);have GW16:=am_ ((zg1_ HB GE2 hg:w.heap.size≤gb16));have GE16:=am_ ((zg1_ HB GE2 hg:w.heap.size≤gb16));replace HB:=am_ (below_step (zl1_ HB GE2) hb);have NB2_16:=am_ ((zn_ BK2 hg:gb2≠gb16));have NB16_2:=am_ ((zm_ BK2 hg:gb16≠gb2));replace BK2:=am_ (blk_below (zb_ BK2) hb);clear hb hbox hg;have hnb13:=NB16_2.out;have hnc13:=NB2_16.out;obtain ⟨hcz14_0,hcz14_1,hcz14_2,hcz14_3,hcz14_4,hcz14_5,hcz14_6,hcz14_7,hcz14_8,hcz14_9,hcz14_10,hcz14_11⟩:=x12_ BK16;have hfz14_0:=blk_frozen BK16.out 0;have hfz14_1:=blk_frozen BK16.out 1;have hfz14_2:=blk_frozen BK16.out 2;have hfz14_3:=blk_frozen BK16.out 3;have hfz14_4:=blk_frozen BK16.out 4;have hfz14_5:=blk_frozen BK16.out 5;have hfz14_6:=blk_frozen BK16.out 6;have hfz14_7:=blk_frozen BK16.out 7;have hfz14_8:=blk_frozen BK16.out 8;have hfz14_9:=blk_frozen BK16.out 9;have hfz14_10:=blk_frozen BK16.out 10;have hfz14_11:=blk_frozen BK16.out 11)|((with_reducible refine gate_builtin (b:= .append) (xs:=#[.tmp 25, .tmp 35]) rfl ?_);at_builtin;refine Kd.R_append k54 (w0:=w) w.heap.size rfl (.tmp 25) (.tmp 35) 35 54 (.agg #[(.string ⟨#[]⟩),(.string ⟨#[]⟩),(.int .i64 0),(.int .i64 0),(.int .i64 0),(.int .i64 0)]) 64 rfl Try.underlying35 info54 rfl (by decide) (by omega) u5 x5_1 (⟨t3,t4,(⟨t5,t6,t7⟩:S27),t14⟩:S54) [.string t3, .string t4, .int .i64 t5, .int .i64 t6, .int .i64 t7, .int .i64 t14] (fun k_=>k_≠gb2) (fun _=>False) rfl (by first|(go_simp;done)|(go_simp;rfl)) ?aP (fun _ hk=>hk.elim) ?aF ?aO ?aB ?aS ?aL ?_;(case aP=>exact k54_mkM _ _ _ (⟨t3,t4,(⟨t5,t6,t7⟩:S27),t14⟩:S54));(case aB=>exact (zl2_ HB GE2 GE16));(case aF=>exact (fun k_ hk=>Kd.freshB (g:=gb2) (o:= .cells #[.string ((rd_T54 l0 x12_1).f0), .string ((rd_T54 l0 x12_1).f1), .int .i64 ((rd_T54 l0 x12_1).f2.f0), .int .i64 ((rd_T54 l0 x12_1).f2.f1), .int .i64 ((rd_T54 l0 x12_1).f2.f2), .int .i64 ((rd_T54 l0 x12_1).f3)] 54 (0,0)) (zw_ BK2) k_ hk));(case aO=>exact (by refine zt_ ?_;exact Kd.R_mono (Kd.R_far (p:=⟨gb16,11,none⟩) (Kd.R_far (p:=⟨gb16,10,none⟩) (Kd.R_far (p:=⟨gb16,9,none⟩) (Kd.R_far (p:=⟨gb16,8,none⟩) (Kd.R_far (p:=⟨gb16,7,none⟩) (Kd.R_far (p:=⟨gb16,6,none⟩) (Kd.R_far (p:=⟨gb16,5,none⟩) (Kd.R_far (p:=⟨gb16,4,none⟩) (Kd.R_far (p:=⟨gb16,3,none⟩) (Kd.R_far (p:=⟨gb16,2,none⟩) (Kd.R_far (p:=⟨gb16,1,none⟩) (Kd.R_far (p:=⟨gb16,0,none⟩) (Kd.R_types HO_5.out BK16.out (by decide)) (fun _ hk=>hk.2) (.string t3)) (fun _ hk=>hk.2) (.string t4)) (fun _ hk=>hk.2) (.int .i64 t5)) (fun _ hk=>hk.2) (.int .i64 t6)) (fun _ hk=>hk.2) (.int .i64 t7)) (fun _ hk=>hk.2) (.int .i64 t8)) (fun _ hk=>hk.2) (.int .i64 t9)) (fun _ hk=>hk.2) (.int .i64 t10)) (fun _ hk=>hk.2) (.int .i64 t11)) (fun _ hk=>hk.2) (.int .i64 t12)) (fun _ hk=>hk.2) (.int .i64 t13)) (fun _ hk=>hk.2) (.int .i64 t14)) (fun _ hk=>hk.1.2)));(case aS=>exact (below_size (zl2_ HB GE2 GE16)));(case aL=>have:=LMc8.out;omega);intro v18 w15 ho hb hg hat;rw [←Ny17.out] at ho;have n0_:=am_ (blk_grown (g:=gb2) (o:= .cells #[.string ((rd_T54 l0 x12_1).f0), .string ((rd_T54 l0 x12_1).f1), .int .i64 ((rd_T54 l0 x12_1).f2.f0), .int .i64 ((rd_T54 l0 x12_1).f2.f1), .int .i64 ((rd_T54 l0 x12_1).f2.f2), .int .i64 ((rd_T54 l0 x12_1).f3)] 54 (0,0)) (zw_ BK2) hg (Kd.R_away HO_5.out (fun _ hk=>hk.2)));have n1_:=am_ (blk_grown (g:=gb16) (o:= .cells #[.string t3, .string t4, .int .i64 t5, .int .i64 t6, .int .i64 t7, .int .i64 t8, .int .i64 t9, .int .i64 t10, .int .i64 t11, .int .i64 t12, .int .i64 t13, .int .i64 t14] 31 (0,0)) (zw_ BK16) hg (Kd.R_ne HO_5.out BK16.out (by decide)));have n2_:=am_ (hb);have n3_:=am_ (ho);clear BK2;clear BK16;clear HB;clear HO_5;have BK2:=n0_;have BK16:=n1_;have HB:=n2_;have HO19:=n3_;clear n0_ n1_ n2_ n3_;clear ho hb hg hat))
   go_roundg k1
   case measure=>have:=HK1.out;omega
   case rel=>exact ⟨(y17),(wrap64 (x12_1+1)),(by first|rfl|(simp;done)|(simp [*];done)),H',⟨by have:=HK1.out;omega⟩,⟨by (with_reducible repeat (first|apply Kd.R_alloc|apply Kd.R_drewN|apply Kd.R_drew));exact Kd.R_mono HO19.out (fun _ hk=>trivial)⟩,⟨zl2_ HB GE2 GE16⟩⟩
def r10_unit.f (a0:Int):Option (Bool):=if a0≥0 then (some (decide (a0≤1099511627776))) else (some false)
set_option maxHeartbeats 8000000 in
set_option maxRecDepth 100000 in
theorem r10_unit.calls (a0:Int) (r:Bool) (w:World) (h:r10_unit.f a0=some r):
  Calls Try.prog 123 #[.int .i64 a0] w fun e w'=>e= .returned (.bool r)∧Drawn0 w w':=by
 have H:(if a0≥0 then (some (decide (a0≤1099511627776))) else (some false))=some r:=h
 clear h
 by_cases c2:a0≥0
 ·rw [if_pos c2] at H
  have c2b0:decide (0≤a0)=true:=decide_eq_true c2
  clear c2
  obtain rfl:=Option.some.inj H
  go_enter Try.func123,Try.ntmps123
  go_wp2
  go_ret
  exact ⟨by first|rfl|(simp;done)|(simp [*];done),by repeat (first|exact Drawn0.refl _|apply Drawn0.step)⟩
 rw [if_neg c2] at H
 have c2b0:decide (0≤a0)=false:=decide_eq_false c2
 clear c2
 obtain rfl:=Option.some.inj H
 go_enter Try.func123,Try.ntmps123
 go_wp2
 go_ret
 exact ⟨by first|rfl|(simp;done)|(simp [*];done),by repeat (first|exact Drawn0.refl _|apply Drawn0.step)⟩

def r10_MayVec.f (a0_0:Int) (a0_1:Int) (a0_2:Int):Option (Bool):=(r10_unit.f a0_0).bind fun t2=>(if t2=true then ((r10_unit.f a0_1).bind fun t3=>(if t3=true then ((r10_unit.f a0_2).bind fun t4=>(some t4)) else (some false))) else (some false))
set_option maxHeartbeats 8000000 in
set_option maxRecDepth 100000 in
theorem r10_MayVec.calls (a0_0:Int) (a0_1:Int) (a0_2:Int) (r:Bool) (w:World) (h:r10_MayVec.f a0_0 a0_1 a0_2=some r):
  Calls Try.prog 65 #[.agg #[.int .i64 a0_0, .int .i64 a0_1, .int .i64 a0_2]] w fun e w'=>e= .returned (.bool r)∧Below w.heap.size w w':=by
 have hu27:=Try.underlying27
 have HB:=am_ (Below.refl w.heap.size w)
 have H:((r10_unit.f a0_0).bind fun t2=>(if t2=true then ((r10_unit.f a0_1).bind fun t3=>(if t3=true then ((r10_unit.f a0_2).bind fun t4=>(some t4)) else (some false))) else (some false)))=some r:=h
 clear h
 replace H:=Option.bind_eq_some_iff.mp H
 obtain ⟨t2,A20,H⟩:=H
 try dsimp only at H
 have A2:=Aside0.mk A20
 clear A20
 by_cases c3:t2=true
 rotate_left
 ·replace c3:=Bool.eq_false_iff.mpr c3
  subst c3
  have H1:(some false)=some r:=by rw [if_neg (show¬(false=true) by decide)] at H;exact H
  clear H
  have H:=H1
  clear H1
  obtain rfl:=Option.some.inj H
  go_enter Try.func65,Try.ntmps65
  go_wp2_with (first|((with_reducible refine gate_dst (N:=1) rfl ?_);refine bx_ (N:=1) (cs:=#[.int .i64 a0_0, .int .i64 a0_1, .int .i64 a0_2]) (t:=27) ?_;intro gb1 hg w11 hbox hb;have BK1:=am_ (hbox);have GW1:=am_ ((zg0_ HB hg:w.heap.size≤gb1));have GE1:=am_ ((zg0_ HB hg:w.heap.size≤gb1));replace HB:=am_ (below_step (zl0_ HB) hb);clear hb hbox hg;obtain ⟨hcz12_0,hcz12_1,hcz12_2⟩:=x3_ BK1;have hfz12_0:=blk_frozen BK1.out 0;have hfz12_1:=blk_frozen BK1.out 1;have hfz12_2:=blk_frozen BK1.out 2)|((with_reducible refine gate_callee (f:=123) rfl ?_);refine gl_ (some 5) Try.func123 #[.int .i64 a0_0] ?_;(with_reducible refine (r10_unit.calls a0_0 false _ A2.out).mono ?_);rintro e w' ⟨rfl,⟨nd,rfl⟩⟩;refine ⟨_,rfl, ?_⟩))
  go_ret
  exact ⟨by first|rfl|(simp [errW_none,errW_some]<;>rfl)|(simp [*,errW_none,errW_some]<;>rfl),zl1_ HB GE1⟩

 subst c3
 have H1:((r10_unit.f a0_1).bind fun t3=>(if t3=true then ((r10_unit.f a0_2).bind fun t4=>(some t4)) else (some false)))=some r:=by rw [if_pos rfl] at H;exact H
 clear H
 have H:=H1
 clear H1
 replace H:=Option.bind_eq_some_iff.mp H
 obtain ⟨t3,A40,H⟩:=H
 try dsimp only at H
 have A4:=Aside0.mk A40
 clear A40
 by_cases c5:t3=true
 rotate_left
 ·replace c5:=Bool.eq_false_iff.mpr c5
  subst c5
  have H1:(some false)=some r:=by rw [if_neg (show¬(false=true) by decide)] at H;exact H
  clear H
  have H:=H1
  clear H1
  obtain rfl:=Option.some.inj H
  go_enter Try.func65,Try.ntmps65
  go_wp2_with (first|((with_reducible refine gate_dst (N:=1) rfl ?_);refine bx_ (N:=1) (cs:=#[.int .i64 a0_0, .int .i64 a0_1, .int .i64 a0_2]) (t:=27) ?_;intro gb1 hg w9 hbox hb;have BK1:=am_ (hbox);have GW1:=am_ ((zg0_ HB hg:w.heap.size≤gb1));have GE1:=am_ ((zg0_ HB hg:w.heap.size≤gb1));replace HB:=am_ (below_step (zl0_ HB) hb);clear hb hbox hg;obtain ⟨hcz10_0,hcz10_1,hcz10_2⟩:=x3_ BK1;have hfz10_0:=blk_frozen BK1.out 0;have hfz10_1:=blk_frozen BK1.out 1;have hfz10_2:=blk_frozen BK1.out 2)|((with_reducible refine gate_callee (f:=123) rfl ?_);refine gl_ (some 5) Try.func123 #[.int .i64 a0_0] ?_;(with_reducible refine (r10_unit.calls a0_0 true _ A2.out).mono ?_);rintro e w' ⟨rfl,⟨nd,rfl⟩⟩;refine ⟨_,rfl, ?_⟩)|(go_at_call 123;(with_reducible refine (r10_unit.calls a0_1 false _ A4.out).mono ?_);rintro e w' ⟨rfl,⟨nd,rfl⟩⟩))
  go_ret
  exact ⟨by first|rfl|(simp [errW_none,errW_some]<;>rfl)|(simp [*,errW_none,errW_some]<;>rfl),zl1_ HB GE1⟩
 subst c5
 have H1:((r10_unit.f a0_2).bind fun t4=>(some t4))=some r:=by rw [if_pos rfl] at H;exact H
 clear H
 have H:=H1
 clear H1
 replace H:=Option.bind_eq_some_iff.mp H
 obtain ⟨t4,A60,H⟩:=H
 try dsimp only at H
 have A6:=Aside0.mk A60
 clear A60
 obtain rfl:=Option.some.inj H
 go_enter Try.func65,Try.ntmps65
 go_wp2_with (first|((with_reducible refine gate_dst (N:=1) rfl ?_);refine bx_ (N:=1) (cs:=#[.int .i64 a0_0, .int .i64 a0_1, .int .i64 a0_2]) (t:=27) ?_;intro gb1 hg w7 hbox hb;have BK1:=am_ (hbox);have GW1:=am_ ((zg0_ HB hg:w.heap.size≤gb1));have GE1:=am_ ((zg0_ HB hg:w.heap.size≤gb1));replace HB:=am_ (below_step (zl0_ HB) hb);clear hb hbox hg;obtain ⟨hcz8_0,hcz8_1,hcz8_2⟩:=x3_ BK1;have hfz8_0:=blk_frozen BK1.out 0;have hfz8_1:=blk_frozen BK1.out 1;have hfz8_2:=blk_frozen BK1.out 2)|((with_reducible refine gate_callee (f:=123) rfl ?_);refine gl_ (some 5) Try.func123 #[.int .i64 a0_0] ?_;(with_reducible refine (r10_unit.calls a0_0 true _ A2.out).mono ?_);rintro e w' ⟨rfl,⟨nd,rfl⟩⟩;refine ⟨_,rfl, ?_⟩)|(go_at_call 123;(with_reducible refine (r10_unit.calls a0_1 true _ A4.out).mono ?_);rintro e w' ⟨rfl,⟨nd,rfl⟩⟩)|(go_at_call 123;(with_reducible refine (r10_unit.calls a0_2 t4 _ A6.out).mono ?_);rintro e w' ⟨rfl,⟨nd,rfl⟩⟩))
 go_ret
 exact ⟨by first|rfl|(simp [errW_none,errW_some]<;>rfl)|(simp [*,errW_none,errW_some]<;>rfl),zl1_ HB GE1⟩
def r10_MayName.f (a0:ByteArray):Option (Bool):=if a0.toList=([]:List UInt8) then (some false) else (some (decide ((a0.size:Int)≤24)))
set_option maxHeartbeats 8000000 in
set_option maxRecDepth 100000 in
theorem r10_MayName.calls (a0:ByteArray) (r:Bool) (w:World) (h:r10_MayName.f a0=some r):
  Calls Try.prog 105 #[.string a0] w fun e w'=>e= .returned (.bool r)∧Drawn0 w w':=by
 have H:(if a0.toList=([]:List UInt8) then (some false) else (some (decide ((a0.size:Int)≤24))))=some r:=h
 clear h
 by_cases c2:a0.toList=([]:List UInt8)
 ·rw [if_pos c2] at H
  have c2b0:(a0.toList==([]:List UInt8))=true:=beq_iff_eq.mpr c2
  have c2b1:(a0.toList !=([]:List UInt8))=false:=bne_eq_false_iff_eq.mpr c2
  clear c2
  obtain rfl:=Option.some.inj H
  go_enter Try.func105,Try.ntmps105
  go_wp2
  go_ret
  exact ⟨by first|rfl|(simp;done)|(simp [*];done),by repeat (first|exact Drawn0.refl _|apply Drawn0.step)⟩
 rw [if_neg c2] at H
 have c2b0:(a0.toList==([]:List UInt8))=false:=beq_eq_false_iff_ne.mpr c2
 have c2b1:(a0.toList !=([]:List UInt8))=true:=bne_iff_ne.mpr c2
 obtain rfl:=Option.some.inj H
 go_enter Try.func105,Try.ntmps105
 go_wp2
 go_ret
 exact ⟨by first|rfl|(simp;done)|(simp [*];done),by repeat (first|exact Drawn0.refl _|apply Drawn0.step)⟩

def r10_no.f (a0:Int):Option ((List (S31))×Int):=some (([]:List (S31)),a0)
set_option maxHeartbeats 8000000 in
set_option maxRecDepth 100000 in
theorem r10_no.calls (a0:Int) (r1:List (S31)) (r2:Int) (w:World) (h:r10_no.f a0=some (r1,r2)):
  Calls Try.prog 113 #[.int .i64 a0] w fun e w'=> ∃v0_:Value,e= .returned (.agg #[v0_, .int .i64 r2])∧Kd.R k31 31 w' w.heap.size (fun _=>True) v0_ r1∧Below w.heap.size w w':=by
 have hu67:=Try.underlying67
 have HB:=am_ (Below.refl w.heap.size w)
 have H:(some (([]:List (S31)),a0))=some (r1,r2):=h
 clear h
 simp only [Option.some.injEq,Prod.mk.injEq] at H
 obtain ⟨rfl,rfl⟩:=H
 go_enter Try.func113,Try.ntmps113
 go_wp2_with (first|((with_reducible refine gate_dst (N:=2) rfl ?_);refine bx_ (N:=2) (cs:=#[.slice none 0 0, .int .i64 0]) (t:=67) ?_;intro gb1 hg w2 hbox hb;have BK1:=am_ (hbox);have GW1:=am_ ((zg0_ HB hg:w.heap.size≤gb1));have GE1:=am_ ((zg0_ HB hg:w.heap.size≤gb1));replace HB:=am_ (below_step (zl0_ HB) hb);clear hb hbox hg;obtain ⟨hcz3_0,hcz3_1⟩:=x2_ BK1;have hfz3_0:=blk_frozen BK1.out 0;have hfz3_1:=blk_frozen BK1.out 1))
 refine bodyPost_ret (results_cell_row rfl _ _ gb1 67 #[.slice none 0 0, .int .i64 a0] (0,0) _ rfl (zw_ BK1) Try.underlying67 rfl (by kernel_rfl)) rfl ?_
 exact ⟨_,by first|rfl|(simp [errW_none,errW_some]<;>rfl)|(simp [*,errW_none,errW_some]<;>rfl),by first|exact Kd.R_nil _ _ _ _ _|exact Kd.N_nil _ _ _ _ _|exact Kd.V_nil _ _ _ _ _|exact Kd.Q_nil _ _ _ _ _|exact Kd.S_nil _ _ _ _ _,zl1_ HB GE1⟩

def r10_copied.f (l0:List (S31)):Option ((List (S31))):=(some (([]:List (S31)):List (S31))).bind fun y1=>(if y1.length+l0.length<1256584717458 then (some (y1++l0)) else (none))
set_option maxHeartbeats 8000000 in
set_option maxRecDepth 100000 in
theorem r10_copied.calls (A0:Option Addr) (c0:Nat) (l0:List (S31)) (r:List (S31)) (w:World) (hr0:Kd.C k31 w A0 l0.length l0) (hc0:l0.length≤c0) (h:r10_copied.f l0=some r):
  Calls Try.prog 124 #[.slice A0 l0.length c0] w fun e w'=> ∃v0_:Value,e= .returned (v0_)∧Kd.R k31 31 w' w.heap.size (fun _=>True) v0_ r∧Below w.heap.size w w':=by
 have HR0:=Aside0.mk hr0
 have HC0:=Aside0.mk hc0
 clear hr0 hc0
 have HB:=am_ (Below.refl w.heap.size w)
 have H:((some (([]:List (S31)):List (S31))).bind fun y1=>(if y1.length+l0.length<1256584717458 then (some (y1++l0)) else (none)))=some r:=h
 clear h
 obtain ⟨y1,hy1⟩: ∃y_:List (S31),y_=(([]:List (S31))):=⟨_,rfl⟩
 replace H:(if y1.length+l0.length<1256584717458 then (some (y1++l0)) else (none))=some r:=by first|(rw [hy1];with_reducible exact H)|(have H2_:=(Option.bind_some _ _).symm.trans H;rw [hy1];with_reducible exact H2_)|(have H2_:=(Option.bind_some _ _).symm.trans H;with_reducible exact H2_)|with_reducible exact H|(rw [hy1];exact H)|exact H
 have Ny1:=Aside0.mk hy1
 clear hy1
 by_cases c2:y1.length+l0.length<1256584717458
 rotate_left
 ·rw [if_neg c2] at H
  exact absurd H (by simp)

 rw [if_pos c2] at H
 have LMc2:=Aside0.mk c2
 clear c2
 obtain ⟨y4,hy4⟩: ∃y_:List (S31),y_=(y1++l0):=⟨_,rfl⟩
 replace H:(some y4)=some r:=by first|(rw [hy4];with_reducible exact H)|(have H2_:=(Option.bind_some _ _).symm.trans H;rw [hy4];with_reducible exact H2_)|(have H2_:=(Option.bind_some _ _).symm.trans H;with_reducible exact H2_)|with_reducible exact H|(rw [hy4];exact H)|exact H
 have Ny4:=Aside0.mk hy4
 clear hy4
 obtain rfl:=Option.some.inj H
 go_enter Try.func124,Try.ntmps124
 go_wp2_with (first|((with_reducible refine gate_dst (N:=3) rfl ?_);refine Kd.R_lit k31 _ 31 ?hg (N:=3) ?hd (xs:=([]:List (S31))) (inner:=[]) (ok:=fun _=>True) (okp:=fun _=>True) ?hr ?hp (fun _ hk=>hk) trivial (Below.refl _ _) (Nat.le_refl _) (by simp) ?_;(case hd=>rfl);(case hg=>rfl);(case hr=>first|(go_simp;done)|(go_simp;rfl));(case hp=>exact (Reps.none _ _));intro v2 w3 ho4 hb hg_ hnew_;clear hg_ hnew_;(first|rw [←Ny1.out] at ho4|(simp only [Int.reduceToNat] at ho4;rw [←Ny1.out] at ho4));have HO3:=am_ (Kd.R_lower ho4 (below_size (zl0_ HB)));replace HB:=am_ (below_step (zl0_ HB) hb);clear hb ho4)|((with_reducible refine gate_builtin (b:= .append) (xs:=#[.tmp 3, .tmp 4]) rfl ?_);at_builtin;refine Kd.R_append_rows k31 (w0:=w) w.heap.size rfl (.tmp 3) (.tmp 4) 24 31 (.agg #[(.string ⟨#[]⟩),(.string ⟨#[]⟩),(.int .i64 0),(.int .i64 0),(.int .i64 0),(.int .i64 0),(.int .i64 0),(.int .i64 0),(.int .i64 0),(.int .i64 0),(.int .i64 0),(.int .i64 0)]) 112 rfl Try.underlying24 info31 rfl (by decide) (by omega) v2 y1 l0 _ _ _ (fun _=>True) (fun _=>False) rfl rfl ?aO ?aR (fun _ _ h=>h) (fun _ h=>h.elim) ?aF ?aB ?aS ?aL ?_;(case aR=>repeat (first|exact (Kd.C_below HR0.out HB.out)|(with_reducible refine Kd.C_alloc ?_ _)|(with_reducible refine Kd.C_drewN ?_ _)|(with_reducible refine Kd.C_drew ?_)));(case aB=>exact (zl0_ HB));(case aF=>exact (fun _ _=>trivial));(case aO=>exact (zr_ HO3));(case aS=>exact (below_size (zl0_ HB)));(case aL=>have:=LMc2.out;omega);intro v5 w5 ho hb hg hat;rw [←Ny4.out] at ho;have n0_:=am_ (hb);have n1_:=am_ (ho);clear HB;clear HO3;have HB:=n0_;have HO6:=n1_;clear n0_ n1_;clear ho hb hg hat))
 go_ret
 exact ⟨_,by first|rfl|(simp [errW_none,errW_some]<;>rfl)|(simp [*,errW_none,errW_some]<;>rfl),by (with_reducible repeat (first|apply Kd.R_alloc|apply Kd.R_drewN|apply Kd.R_drew));exact HO6.out,zl0_ HB⟩
mutual
def r10_Create.j0:Nat→List (S31)→ByteArray→ByteArray→Bool→Int→Int→Int→Option ((List (S31))×Int)
 |0,_,_,_,_,_,_,_=>none
 |k+1,x0,x1,x2,x11,x2000,x2001,x2002=>if x11=true then ((r10_no.f 1).bind fun bt5=>(some (bt5.1,bt5.2))) else ((r10_Find.f k x0 x1).bind fun t9=>(if t9≥0 then ((r10_no.f 3).bind fun bt10=>(some (bt10.1,bt10.2))) else (if x2.toList=([]:List UInt8) then (r10_Create.j1 k x0 x1 x2 false x2000 x2001 x2002) else ((r10_Find.f k x0 x2).bind fun t14=>(r10_Create.j1 k x0 x1 x2 (decide (t14<0)) x2000 x2001 x2002)))))
def r10_Create.j1:Nat→List (S31)→ByteArray→ByteArray→Bool→Int→Int→Int→Option ((List (S31))×Int)
 |0,_,_,_,_,_,_,_=>none
 |k+1,x0,x1,x2,x27,x2000,x2001,x2002=>if x27=true then ((r10_no.f 2).bind fun bt15=>(some (bt15.1,bt15.2))) else (if (x0.length:Int)≥120 then ((r10_no.f 4).bind fun bt19=>(some (bt19.1,bt19.2))) else (r10_Create.l0 k x0 x1 x2 0 x2000 x2001 x2002))
def r10_Create.l0:Nat→List (S31)→ByteArray→ByteArray→Int→Int→Int→Int→Option ((List (S31))×Int)
 |0,_,_,_,_,_,_,_=>none
 |k+1,x0,x1,x2,x9,x2000,x2001,x2002=>if x9<(x0.length:Int) then (if 0≤x9 then (if (Op.bytesLess (((rd_T31 x0 x9).f0).toList) x1.toList)=true then (r10_Create.l0 k x0 x1 x2 (wrap64 (x9+1)) x2000 x2001 x2002) else (if x9≤(x0.length:Int) then ((r10_copied.f (x0.take (x9:Int).toNat)).bind fun t28=>(if t28.length<1256584717458 then ((some (t28++ [(⟨x1,x2,(⟨x2000,x2001,x2002⟩:S27),(⟨0,0,0⟩:S27),(⟨0,0,0⟩:S27),1⟩:S31)]:List (S31))).bind fun y31=>((some (x0.drop (x9:Int).toNat:List (S31))).bind fun y34=>(if y31.length+y34.length<1256584717458 then (some ((y31++y34),0)) else (none)))) else (none))) else (none))) else (none)) else (if 0≤x9 then (if x9≤(x0.length:Int) then ((r10_copied.f (x0.take (x9:Int).toNat)).bind fun t45=>(if t45.length<1256584717458 then ((some (t45++ [(⟨x1,x2,(⟨x2000,x2001,x2002⟩:S27),(⟨0,0,0⟩:S27),(⟨0,0,0⟩:S27),1⟩:S31)]:List (S31))).bind fun y48=>((some (x0.drop (x9:Int).toNat:List (S31))).bind fun y51=>(if y48.length+y51.length<1256584717458 then (some ((y48++y51),0)) else (none)))) else (none))) else (none)) else (none))
end
def r10_Create.f (k:Nat) (l0:List (S31)) (a1:ByteArray) (a2:ByteArray) (a3_0:Int) (a3_1:Int) (a3_2:Int):Option ((List (S31))×Int):=(r10_MayName.f a1).bind fun t3=>(if t3=true then ((r10_MayVec.f a3_0 a3_1 a3_2).bind fun t4=>(r10_Create.j0 k l0 a1 a2 (!t4) a3_0 a3_1 a3_2)) else (r10_Create.j0 k l0 a1 a2 true a3_0 a3_1 a3_2))
theorem r10_Create.mono_l: ∀k,(∀y0 y1 y2 y3 y4 y5 y6,LeO (r10_Create.j0 k y0 y1 y2 y3 y4 y5 y6) (r10_Create.j0 (k+1) y0 y1 y2 y3 y4 y5 y6))∧(∀y0 y1 y2 y3 y4 y5 y6,LeO (r10_Create.j1 k y0 y1 y2 y3 y4 y5 y6) (r10_Create.j1 (k+1) y0 y1 y2 y3 y4 y5 y6))∧(∀y0 y1 y2 y3 y4 y5 y6,LeO (r10_Create.l0 k y0 y1 y2 y3 y4 y5 y6) (r10_Create.l0 (k+1) y0 y1 y2 y3 y4 y5 y6))
 |0=>⟨fun _ _ _ _ _ _ _ r h=>by simp [r10_Create.j0] at h,fun _ _ _ _ _ _ _ r h=>by simp [r10_Create.j1] at h,fun _ _ _ _ _ _ _ r h=>by simp [r10_Create.l0] at h⟩
 |k+1=>by
  obtain ⟨ih0,ih1,ih2⟩:=r10_Create.mono_l k
  refine ⟨?_, ?_, ?_⟩
  ·intro y0 y1 y2 y3 y4 y5 y6
   unfold r10_Create.j0
   repeat' first
   |(with_reducible exact ih0 _ _ _ _ _ _ _)
   |(with_reducible exact ih1 _ _ _ _ _ _ _)
   |(with_reducible exact ih2 _ _ _ _ _ _ _)
   |(with_reducible exact r10_Find.mono _ _ _)
   |(with_reducible exact LeO.refl _)
   |(with_reducible exact LeO.none _)
   |(with_reducible refine LeO.ite ?_ ?_)
   |(with_reducible refine LeO.bind ?_ (fun _=> ?_))
   |exact ih0 _ _ _ _ _ _ _
   |exact ih1 _ _ _ _ _ _ _
   |exact ih2 _ _ _ _ _ _ _
   |exact r10_Find.mono _ _ _
   |exact LeO.none _
   |refine LeO.ite ?_ ?_
   |refine LeO.bind ?_ (fun _=> ?_)
  ·intro y0 y1 y2 y3 y4 y5 y6
   unfold r10_Create.j1
   repeat' first
   |(with_reducible exact ih0 _ _ _ _ _ _ _)
   |(with_reducible exact ih1 _ _ _ _ _ _ _)
   |(with_reducible exact ih2 _ _ _ _ _ _ _)
   |(with_reducible exact r10_Find.mono _ _ _)
   |(with_reducible exact LeO.refl _)
   |(with_reducible exact LeO.none _)
   |(with_reducible refine LeO.ite ?_ ?_)
   |(with_reducible refine LeO.bind ?_ (fun _=> ?_))
   |exact ih0 _ _ _ _ _ _ _
   |exact ih1 _ _ _ _ _ _ _
   |exact ih2 _ _ _ _ _ _ _
   |exact r10_Find.mono _ _ _
   |exact LeO.none _
   |refine LeO.ite ?_ ?_
   |refine LeO.bind ?_ (fun _=> ?_)
  intro y0 y1 y2 y3 y4 y5 y6
  unfold r10_Create.l0
  repeat' first
  |(with_reducible exact ih0 _ _ _ _ _ _ _)
  |(with_reducible exact ih1 _ _ _ _ _ _ _)
  |(with_reducible exact ih2 _ _ _ _ _ _ _)
  |(with_reducible exact r10_Find.mono _ _ _)
  |(with_reducible exact LeO.refl _)
  |(with_reducible exact LeO.none _)
  |(with_reducible refine LeO.ite ?_ ?_)
  |(with_reducible refine LeO.bind ?_ (fun _=> ?_))
  |exact ih0 _ _ _ _ _ _ _
  |exact ih1 _ _ _ _ _ _ _
  |exact ih2 _ _ _ _ _ _ _
  |exact r10_Find.mono _ _ _
  |exact LeO.none _
  |refine LeO.ite ?_ ?_
  |refine LeO.bind ?_ (fun _=> ?_)
theorem r10_Create.mono: ∀a0 a1 a2 a3 a4 a5 k,LeO (r10_Create.f k a0 a1 a2 a3 a4 a5) (r10_Create.f (k+1) a0 a1 a2 a3 a4 a5):=by
 intro a0 a1 a2 a3 a4 a5 k
 obtain ⟨ih0,ih1,ih2⟩:=r10_Create.mono_l k
 unfold r10_Create.f
 repeat' first
  |(with_reducible exact ih0 _ _ _ _ _ _ _)
  |(with_reducible exact ih1 _ _ _ _ _ _ _)
  |(with_reducible exact ih2 _ _ _ _ _ _ _)
  |(with_reducible exact r10_Find.mono _ _ _)
  |(with_reducible exact LeO.refl _)
  |(with_reducible exact LeO.none _)
  |(with_reducible refine LeO.ite ?_ ?_)
  |(with_reducible refine LeO.bind ?_ (fun _=> ?_))
  |exact ih0 _ _ _ _ _ _ _
  |exact ih1 _ _ _ _ _ _ _
  |exact ih2 _ _ _ _ _ _ _
  |exact r10_Find.mono _ _ _
  |exact LeO.none _
  |refine LeO.ite ?_ ?_
  |refine LeO.bind ?_ (fun _=> ?_)
set_option maxHeartbeats 8000000 in
set_option maxRecDepth 100000 in
theorem r10_Create.calls (k:Nat) (A0:Option Addr) (c0:Nat) (l0:List (S31)) (a1:ByteArray) (a2:ByteArray) (a3_0:Int) (a3_1:Int) (a3_2:Int) (r1:List (S31)) (r2:Int) (w:World) (hr0:Kd.C k31 w A0 l0.length l0) (hc0:l0.length≤c0) (h:r10_Create.f k l0 a1 a2 a3_0 a3_1 a3_2=some (r1,r2)):
  Calls Try.prog 83 #[.slice A0 l0.length c0, .string a1, .string a2, .agg #[.int .i64 a3_0, .int .i64 a3_1, .int .i64 a3_2]] w fun e w'=> ∃v0_:Value,e= .returned (.agg #[v0_, .int .i64 r2])∧Kd.R k31 31 w' w.heap.size (fun _=>True) v0_ r1∧Below w.heap.size w w':=by
 have HR0:=Aside0.mk hr0
 have HC0:=Aside0.mk hc0
 clear hr0 hc0
 have HB:=am_ (Below.refl w.heap.size w)
 have H:((r10_MayName.f a1).bind fun t3=>(if t3=true then ((r10_MayVec.f a3_0 a3_1 a3_2).bind fun t4=>(r10_Create.j0 k l0 a1 a2 (!t4) a3_0 a3_1 a3_2)) else (r10_Create.j0 k l0 a1 a2 true a3_0 a3_1 a3_2)))=some (r1,r2):=h
 clear h
 have HC5:=Aside0.mk H
 clear H
 go_enter Try.func83,Try.ntmps83
 go_upto_region 1 with (first|((with_reducible refine gate_dst (N:=7) rfl ?_);refine bx_ (N:=7) (cs:=#[.int .i64 a3_0, .int .i64 a3_1, .int .i64 a3_2]) (t:=27) ?_;intro gb1 hg w6 hbox hb;have n0_:=am_ (below_step (zl0_ HB) hb);have n1_:=am_ (hbox);have n2_:=am_ ((zg0_ HB hg:w.heap.size≤gb1));have n3_:=am_ ((zg0_ HB hg:w.heap.size≤gb1));clear HB;have HB:=n0_;have BK1:=n1_;have GE1:=n3_;clear n0_ n1_ n2_ n3_;clear hb hbox hg)|((with_reducible refine gate_dst (N:=8) rfl ?_);refine bx_ (N:=8) (cs:=#[.slice none 0 0, .int .i64 0]) (t:=67) ?_;intro gb2 hg w7 hbox hb;have n0_:=am_ (blk_below (zb_ BK1) hb);have n1_:=am_ (below_step (zl1_ HB GE1) hb);have n2_:=am_ (hbox);have n3_:=am_ ((zg1_ HB GE1 hg:w.heap.size≤gb2));have n4_:=am_ ((zg1_ HB GE1 hg:w.heap.size≤gb2));have n5_:=am_ ((zn_ BK1 hg:gb1≠gb2));have n6_:=am_ ((zm_ BK1 hg:gb2≠gb1));clear BK1;clear HB;have BK1:=n0_;have HB:=n1_;have BK2:=n2_;have GE2:=n4_;clear n0_ n1_ n2_ n3_ n4_ n5_ n6_;clear hb hbox hg))
 (try simp only [Act.put,List.setIfInBounds_toArray,List.set_cons_zero,List.set_cons_succ])
 go_cut [11] (fun v11 wc=> ∃(kq:Nat) (x11_4:Bool),v11= .bool x11_4∧Aside0 (r10_Create.j0 kq l0 a1 a2 x11_4 a3_0 a3_1 a3_2=some (r1,r2))∧Aside0 (kq≤k)∧Aside0 (wc.heap[gb1]?=some (.cells #[.int .i64 a3_0, .int .i64 a3_1, .int .i64 a3_2] 27 (0,0)))∧Aside0 (wc.heap[gb2]?=some (.cells #[(.slice none 0 0), .int .i64 0] 67 (0,0)))∧Aside0 (Below w.heap.size w wc))
 case first=>
  have H:=HC5.out
  clear HC5
  replace H:=Option.bind_eq_some_iff.mp H
  obtain ⟨t3,A80,H⟩:=H
  try dsimp only at H
  have A8:=Aside0.mk A80
  clear A80
  by_cases c9:t3=true
  rotate_left
  ·replace c9:=Bool.eq_false_iff.mpr c9
   subst c9
   have H1:(r10_Create.j0 k l0 a1 a2 true a3_0 a3_1 a3_2)=some (r1,r2):=by rw [if_neg (show¬(false=true) by decide)] at H;exact H
   clear H
   have H:=H1
   clear H1
   have H':=Aside0.mk H
   clear H
   go_wp2_with (first|((with_reducible refine gate_callee (f:=105) rfl ?_);refine gl_ (some 13) Try.func105 #[.string a1] ?_;(with_reducible refine (r10_MayName.calls a1 false _ A8.out).mono ?_);rintro e w' ⟨rfl,⟨nd,rfl⟩⟩;refine ⟨_,rfl, ?_⟩))
   go_meet
   case rel=>exact ⟨_,(true),(by first|rfl|(simp;done)|(simp [*];done)),H',⟨by first|omega|exact Nat.le_refl _⟩,⟨by refine zk_ ?_;exact BK1.out⟩,⟨by refine zk_ ?_;exact BK2.out⟩,⟨zl2_ HB GE1 GE2⟩⟩
  subst c9
  have H1:((r10_MayVec.f a3_0 a3_1 a3_2).bind fun t4=>(r10_Create.j0 k l0 a1 a2 (!t4) a3_0 a3_1 a3_2))=some (r1,r2):=by rw [if_pos rfl] at H;exact H
  clear H
  have H:=H1
  clear H1
  replace H:=Option.bind_eq_some_iff.mp H
  obtain ⟨t4,A100,H⟩:=H
  try dsimp only at H
  have A10:=Aside0.mk A100
  clear A100
  have H':=Aside0.mk H
  clear H
  go_wp2_with (first|((with_reducible refine gate_callee (f:=105) rfl ?_);refine gl_ (some 13) Try.func105 #[.string a1] ?_;(with_reducible refine (r10_MayName.calls a1 true _ A8.out).mono ?_);rintro e w' ⟨rfl,⟨nd,rfl⟩⟩;refine ⟨_,rfl, ?_⟩;obtain ⟨hcz12_0,hcz12_1,hcz12_2⟩:=x3_ BK1)|(go_at_call 65;(with_reducible refine (r10_MayVec.calls a3_0 a3_1 a3_2 t4 _ A10.out).mono ?_);rintro e w13 ⟨rfl,hb⟩;replace BK1:=am_ (blk_below (zb_ BK1) hb);replace BK2:=am_ (blk_below (zb_ BK2) hb);replace HB:=am_ (below_step (zl2_ HB GE1 GE2) hb);(try clear hb);(try clear hb2);(try clear hk);(try clear hi)))
  go_meet
  case rel=>exact ⟨_,(!t4),(by first|rfl|(simp;done)|(simp [*];done)),H',⟨by first|omega|exact Nat.le_refl _⟩,⟨by refine zk_ ?_;exact BK1.out⟩,⟨by refine zk_ ?_;exact BK2.out⟩,⟨zl2_ HB GE1 GE2⟩⟩
 case rest=>
  clear HC5
  try clear c1
  try clear p2
  try clear c8
  try clear c9
  try clear c10
  try clear c11
  try clear hcz12_0
  try clear hcz12_1
  try clear hcz12_2
  obtain ⟨kq,x11_4,rfl,HA,HJ4,BK1,BK2,HB⟩:=hcut
  cases kq with
  |zero=>exact absurd HA.out (by simp [r10_Create.j0])
  |succ kj4=>
   have H:=HA.out
   clear HA
   simp only [r10_Create.j0] at H
   by_cases c14:x11_4=true
   ·subst c14
    have H1:((r10_no.f 1).bind fun bt5=>(some (bt5.1,bt5.2)))=some (r1,r2):=by rw [if_pos rfl] at H;exact H
    clear H
    have H:=H1
    clear H1
    replace H:=Option.bind_eq_some_iff.mp H
    obtain ⟨⟨t5,t8⟩,A150,H⟩:=H
    try dsimp only at H
    have A15:=Aside0.mk A150
    clear A150
    simp only [Option.some.injEq,Prod.mk.injEq] at H
    obtain ⟨rfl,rfl⟩:=H
    go_wp2_with (first|((with_reducible refine gate_callee (f:=113) rfl ?_);refine gl_ (some 20) Try.func113 #[.int .i64 1] ?_;(with_reducible refine (r10_no.calls 1 t5 t8 _ A15.out).mono ?_);rintro e w16 ⟨v6,rfl,ho0,hb⟩;refine ⟨_,rfl, ?_⟩;have HO7:=am_ (Kd.R_lower ho0 (below_size (zl2_ HB GE1 GE2)));replace BK1:=am_ (blk_below (zb_ BK1) hb);replace BK2:=am_ (blk_below (zb_ BK2) hb);replace HB:=am_ (below_step (zl2_ HB GE1 GE2) hb);(try clear hb);(try clear hb2);(try clear hk);(try clear hi);(try clear ho0);obtain ⟨Ao17,co17,eo17⟩:=Kd.R_slice HO7.out;subst eo17;obtain ⟨hcz19_0,hcz19_1⟩:=x2_ BK2;have hfz19_0:=blk_frozen BK2.out 0;have hfz19_1:=blk_frozen BK2.out 1))
    refine bodyPost_ret (results_cell_row rfl _ _ gb2 67 #[.slice Ao17 t5.length co17, .int .i64 t8] (0,0) _ rfl (zw_ BK2) Try.underlying67 rfl (by kernel_rfl)) rfl ?_
    exact ⟨_,by first|rfl|(simp [errW_none,errW_some]<;>rfl)|(simp [*,errW_none,errW_some]<;>rfl),zy_ HO7 BK2,zl2_ HB GE1 GE2⟩
   replace c14:=Bool.eq_false_iff.mpr c14
   subst c14
   have H1:((r10_Find.f kj4 l0 a1).bind fun t9=>(if t9≥0 then ((r10_no.f 3).bind fun bt10=>(some (bt10.1,bt10.2))) else (if a2.toList=([]:List UInt8) then (r10_Create.j1 kj4 l0 a1 a2 false a3_0 a3_1 a3_2) else ((r10_Find.f kj4 l0 a2).bind fun t14=>(r10_Create.j1 kj4 l0 a1 a2 (decide (t14<0)) a3_0 a3_1 a3_2)))))=some (r1,r2):=by rw [if_neg (show¬(false=true) by decide)] at H;exact H
   clear H
   have H:=H1
   clear H1
   replace H:=Option.bind_eq_some_iff.mp H
   obtain ⟨t9,A200,H⟩:=H
   try dsimp only at H
   have A20:=Aside0.mk A200
   clear A200
   by_cases c21:t9≥0
   ·rw [if_pos c21] at H
    have c21b0:decide (0≤t9)=true:=decide_eq_true c21
    clear c21
    replace H:=Option.bind_eq_some_iff.mp H
    obtain ⟨⟨t10,t13⟩,A220,H⟩:=H
    try dsimp only at H
    have A22:=Aside0.mk A220
    clear A220
    simp only [Option.some.injEq,Prod.mk.injEq] at H
    obtain ⟨rfl,rfl⟩:=H
    go_wp2_with (first|((with_reducible refine gate_callee (f:=50) rfl ?_);refine gl_ (some 24) Try.func50 #[.slice A0 l0.length c0, .string a1] ?_;(with_reducible refine (r10_Find.calls kj4 _ _ l0 a1 t9 _ ?side1 ?side2 A20.out).mono ?_);(case side1=>exact zc_ (Kd.C_below HR0.out HB.out));(case side2=>exact HC0.out);rintro e w' ⟨rfl,⟨nd,rfl⟩⟩;refine ⟨_,rfl, ?_⟩;(try (rw [drewN_self wc];generalize hq_:World.drewN wc _=wc;have n0_:Aside0 (wc.heap[gb1]?=some (.cells #[.int .i64 a3_0, .int .i64 a3_1, .int .i64 a3_2] 27 (0,0))):=⟨by rw [←hq_];exact (zb_ BK1)⟩;have n1_:Aside0 (wc.heap[gb2]?=some (.cells #[.slice none 0 0, .int .i64 0] 67 (0,0))):=⟨by rw [←hq_];exact (zb_ BK2)⟩;have n2_:Aside0 (Below w.heap.size w wc):=⟨by rw [←hq_];exact (zl2_ HB GE1 GE2)⟩;clear BK1 BK2 HB hq_;have BK1:=n0_;have BK2:=n1_;have HB:=n2_;clear n0_ n1_ n2_)))|((with_reducible refine gate_callee (f:=113) rfl ?_);refine gl_ (some 26) Try.func113 #[.int .i64 3] ?_;(with_reducible refine (r10_no.calls 3 t10 t13 _ A22.out).mono ?_);rintro e w23 ⟨v11,rfl,ho0,hb⟩;refine ⟨_,rfl, ?_⟩;have HO12:=am_ (Kd.R_lower ho0 (below_size (zl2_ HB GE1 GE2)));replace BK1:=am_ (blk_below (zb_ BK1) hb);replace BK2:=am_ (blk_below (zb_ BK2) hb);replace HB:=am_ (below_step (zl2_ HB GE1 GE2) hb);(try clear hb);(try clear hb2);(try clear hk);(try clear hi);(try clear ho0);obtain ⟨Ao24,co24,eo24⟩:=Kd.R_slice HO12.out;subst eo24;obtain ⟨hcz26_0,hcz26_1⟩:=x2_ BK2;have hfz26_0:=blk_frozen BK2.out 0;have hfz26_1:=blk_frozen BK2.out 1))
    refine bodyPost_ret (results_cell_row rfl _ _ gb2 67 #[.slice Ao24 t10.length co24, .int .i64 t13] (0,0) _ rfl (zw_ BK2) Try.underlying67 rfl (by kernel_rfl)) rfl ?_
    exact ⟨_,by first|rfl|(simp [errW_none,errW_some]<;>rfl)|(simp [*,errW_none,errW_some]<;>rfl),zy_ HO12 BK2,zl2_ HB GE1 GE2⟩
   rw [if_neg c21] at H
   have c21b0:decide (0≤t9)=false:=decide_eq_false c21
   clear c21
   have HC27:=Aside0.mk H
   clear H
   go_upto_region 5 with (first|((with_reducible refine gate_callee (f:=50) rfl ?_);refine gl_ (some 24) Try.func50 #[.slice A0 l0.length c0, .string a1] ?_;(with_reducible refine (r10_Find.calls kj4 _ _ l0 a1 t9 _ ?side1 ?side2 A20.out).mono ?_);(case side1=>exact zc_ (Kd.C_below HR0.out HB.out));(case side2=>exact HC0.out);rintro e w' ⟨rfl,⟨nd,rfl⟩⟩;refine ⟨_,rfl, ?_⟩))
   (try simp only [Act.put,List.setIfInBounds_toArray,List.set_cons_zero,List.set_cons_succ])
   go_cut [27] (fun v27 wc=> ∃(kq:Nat) (x27_26:Bool),v27= .bool x27_26∧Aside0 (r10_Create.j1 kq l0 a1 a2 x27_26 a3_0 a3_1 a3_2=some (r1,r2))∧Aside0 (kq≤kj4)∧Aside0 (wc.heap[gb1]?=some (.cells #[.int .i64 a3_0, .int .i64 a3_1, .int .i64 a3_2] 27 (0,0)))∧Aside0 (wc.heap[gb2]?=some (.cells #[(.slice none 0 0), .int .i64 0] 67 (0,0)))∧Aside0 (Below w.heap.size w wc))
   case first=>
    have H:=HC27.out
    clear HC27
    by_cases c28:a2.toList=([]:List UInt8)
    ·rw [if_pos c28] at H
     have c28b0:(a2.toList==([]:List UInt8))=true:=beq_iff_eq.mpr c28
     clear c28
     (first|rw [c28b0]|(simp only [i64_w,i32_w];rw [c28b0])|skip)
     have H':=Aside0.mk H
     clear H
     go_wp2
     go_meet
     case rel=>exact ⟨_,(false),(by first|rfl|(simp;done)|(simp [*];done)),H',⟨by have:=HJ4.out;first|omega|exact Nat.le_refl _⟩,⟨by refine zk_ ?_;exact BK1.out⟩,⟨by refine zk_ ?_;exact BK2.out⟩,⟨zl2_ HB GE1 GE2⟩⟩
    rw [if_neg c28] at H
    have c28b0:(a2.toList==([]:List UInt8))=false:=beq_eq_false_iff_ne.mpr c28
    (first|rw [c28b0]|(simp only [i64_w,i32_w];rw [c28b0])|skip)
    replace H:=Option.bind_eq_some_iff.mp H
    obtain ⟨t14,A290,H⟩:=H
    try dsimp only at H
    have A29:=Aside0.mk A290
    clear A290
    have H':=Aside0.mk H
    clear H
    go_wp2_with (first|(go_at_call 50;(with_reducible refine (r10_Find.calls kj4 _ _ l0 a2 t14 _ ?side1 ?side2 A29.out).mono ?_);(case side1=>exact zc_ (Kd.C_below HR0.out HB.out));(case side2=>exact HC0.out);rintro e w' ⟨rfl,⟨nd,rfl⟩⟩))
    go_meet
    case rel=>exact ⟨_,(decide (t14<0)),(by first|rfl|(simp;done)|(simp [*];done)),H',⟨by have:=HJ4.out;first|omega|exact Nat.le_refl _⟩,⟨by refine zk_ ?_;exact BK1.out⟩,⟨by refine zk_ ?_;exact BK2.out⟩,⟨zl2_ HB GE1 GE2⟩⟩
   case rest=>
    clear HC27
    try clear c1
    try clear c2
    try clear p2
    try clear c5
    try clear c8
    try clear c9
    try clear c10
    try clear c11
    try clear c14
    try clear c18
    try clear c21
    try clear c21b0
    try clear c25
    try clear c28
    try clear c28b0
    try clear hcz12_0
    try clear hcz12_1
    try clear hcz12_2
    try clear hcz19_0
    try clear hcz19_1
    try clear hcz26_0
    try clear hcz26_1
    try clear hfz19_0
    try clear hfz19_1
    try clear hfz26_0
    try clear hfz26_1
    try clear p2
    obtain ⟨kq,x27_26,rfl,HA,HJ26,BK1,BK2,HB⟩:=hcut
    cases kq with
    |zero=>exact absurd HA.out (by simp [r10_Create.j1])
    |succ kj26=>
     have H:=HA.out
     clear HA
     simp only [r10_Create.j1] at H
     by_cases c30:x27_26=true
     ·subst c30
      have H1:((r10_no.f 2).bind fun bt15=>(some (bt15.1,bt15.2)))=some (r1,r2):=by rw [if_pos rfl] at H;exact H
      clear H
      have H:=H1
      clear H1
      replace H:=Option.bind_eq_some_iff.mp H
      obtain ⟨⟨t15,t18⟩,A310,H⟩:=H
      try dsimp only at H
      have A31:=Aside0.mk A310
      clear A310
      simp only [Option.some.injEq,Prod.mk.injEq] at H
      obtain ⟨rfl,rfl⟩:=H
      go_wp2_with (first|((with_reducible refine gate_callee (f:=113) rfl ?_);refine gl_ (some 36) Try.func113 #[.int .i64 2] ?_;(with_reducible refine (r10_no.calls 2 t15 t18 _ A31.out).mono ?_);rintro e w32 ⟨v16,rfl,ho0,hb⟩;refine ⟨_,rfl, ?_⟩;have HO17:=am_ (Kd.R_lower ho0 (below_size (zl2_ HB GE1 GE2)));replace BK1:=am_ (blk_below (zb_ BK1) hb);replace BK2:=am_ (blk_below (zb_ BK2) hb);replace HB:=am_ (below_step (zl2_ HB GE1 GE2) hb);(try clear hb);(try clear hb2);(try clear hk);(try clear hi);(try clear ho0);obtain ⟨Ao33,co33,eo33⟩:=Kd.R_slice HO17.out;subst eo33;obtain ⟨hcz35_0,hcz35_1⟩:=x2_ BK2;have hfz35_0:=blk_frozen BK2.out 0;have hfz35_1:=blk_frozen BK2.out 1))
      refine bodyPost_ret (results_cell_row rfl _ _ gb2 67 #[.slice Ao33 t15.length co33, .int .i64 t18] (0,0) _ rfl (zw_ BK2) Try.underlying67 rfl (by kernel_rfl)) rfl ?_
      exact ⟨_,by first|rfl|(simp [errW_none,errW_some]<;>rfl)|(simp [*,errW_none,errW_some]<;>rfl),zy_ HO17 BK2,zl2_ HB GE1 GE2⟩
     replace c30:=Bool.eq_false_iff.mpr c30
     subst c30
     have H1:(if (l0.length:Int)≥120 then ((r10_no.f 4).bind fun bt19=>(some (bt19.1,bt19.2))) else (r10_Create.l0 kj26 l0 a1 a2 0 a3_0 a3_1 a3_2))=some (r1,r2):=by rw [if_neg (show¬(false=true) by decide)] at H;exact H
     clear H
     have H:=H1
     clear H1
     by_cases c36:(l0.length:Int)≥120
     ·rw [if_pos c36] at H
      have c36b0:decide (120≤(l0.length:Int))=true:=decide_eq_true c36
      clear c36
      replace H:=Option.bind_eq_some_iff.mp H
      obtain ⟨⟨t19,t22⟩,A370,H⟩:=H
      try dsimp only at H
      have A37:=Aside0.mk A370
      clear A370
      simp only [Option.some.injEq,Prod.mk.injEq] at H
      obtain ⟨rfl,rfl⟩:=H
      go_wp2_with (first|((with_reducible refine gate_callee (f:=113) rfl ?_);refine gl_ (some 41) Try.func113 #[.int .i64 4] ?_;(with_reducible refine (r10_no.calls 4 t19 t22 _ A37.out).mono ?_);rintro e w38 ⟨v20,rfl,ho0,hb⟩;refine ⟨_,rfl, ?_⟩;have HO21:=am_ (Kd.R_lower ho0 (below_size (zl2_ HB GE1 GE2)));replace BK1:=am_ (blk_below (zb_ BK1) hb);replace BK2:=am_ (blk_below (zb_ BK2) hb);replace HB:=am_ (below_step (zl2_ HB GE1 GE2) hb);(try clear hb);(try clear hb2);(try clear hk);(try clear hi);(try clear ho0);obtain ⟨Ao39,co39,eo39⟩:=Kd.R_slice HO21.out;subst eo39;obtain ⟨hcz41_0,hcz41_1⟩:=x2_ BK2;have hfz41_0:=blk_frozen BK2.out 0;have hfz41_1:=blk_frozen BK2.out 1))
      refine bodyPost_ret (results_cell_row rfl _ _ gb2 67 #[.slice Ao39 t19.length co39, .int .i64 t22] (0,0) _ rfl (zw_ BK2) Try.underlying67 rfl (by kernel_rfl)) rfl ?_
      exact ⟨_,by first|rfl|(simp [errW_none,errW_some]<;>rfl)|(simp [*,errW_none,errW_some]<;>rfl),zy_ HO21 BK2,zl2_ HB GE1 GE2⟩
     rw [if_neg c36] at H
     have c36b0:decide (120≤(l0.length:Int))=false:=decide_eq_false c36
     clear c36
     have H':=Aside0.mk H
     clear H
     go_wp2
     go_loopg [9] kj26 (fun kq v9 w'=> ∃(x9_3:Int),v9= .int .i64 x9_3∧Aside0 (r10_Create.l0 kq l0 a1 a2 x9_3 a3_0 a3_1 a3_2=some (r1,r2))∧Aside0 (kq≤kj26)∧Aside0 (w'.heap[gb1]?=some (.cells #[.int .i64 a3_0, .int .i64 a3_1, .int .i64 a3_2] 27 (0,0)))∧Aside0 (w'.heap[gb2]?=some (.cells #[(.slice none 0 0), .int .i64 0] 67 (0,0)))∧Aside0 (Below w.heap.size w w'))
     case atStart=>exact ⟨(0),(by first|rfl|(simp;done)|(simp [*];done)),H',⟨Nat.le_refl _⟩,⟨by refine zk_ ?_;exact BK1.out⟩,⟨by refine zk_ ?_;exact BK2.out⟩,⟨zl2_ HB GE1 GE2⟩⟩
     case round=>
      clear H'
      try clear c1
      try clear c2
      try clear p2
      try clear c3
      try clear c4
      try clear c5
      try clear c8
      try clear c9
      try clear c10
      try clear c11
      try clear c14
      try clear c18
      try clear c21
      try clear c21b0
      try clear c25
      try clear c28
      try clear c28b0
      try clear c30
      try clear c34
      try clear c36
      try clear c36b0
      try clear c40
      try clear hcz12_0
      try clear hcz12_1
      try clear hcz12_2
      try clear hcz19_0
      try clear hcz19_1
      try clear hcz26_0
      try clear hcz26_1
      try clear hcz35_0
      try clear hcz35_1
      try clear hcz41_0
      try clear hcz41_1
      try clear hfz19_0
      try clear hfz19_1
      try clear hfz26_0
      try clear hfz26_1
      try clear hfz35_0
      try clear hfz35_1
      try clear hfz41_0
      try clear hfz41_1
      try clear p2
      obtain ⟨x9_3,rfl,HA,HK3,BK1,BK2,HB⟩:=hrel
      cases gk with
      |zero=>exact absurd HA.out (by simp [r10_Create.l0])
      |succ k3=>
       have H:=HA.out
       clear HA
       simp only [r10_Create.l0] at H
       by_cases c42:x9_3<(l0.length:Int)
       rotate_left
       ·rw [if_neg c42] at H
        have c42b0:decide (x9_3<(l0.length:Int))=false:=decide_eq_false c42
        clear c42
        by_cases c61:0≤x9_3
        rotate_left
        ·rw [if_neg c61] at H
         exact absurd H (by simp)

        rw [if_pos c61] at H
        have c61b1:decide (0≤x9_3)=true:=decide_eq_true c61
        clear c61
        by_cases c62:x9_3≤(l0.length:Int)
        rotate_left
        ·rw [if_neg c62] at H
         exact absurd H (by simp)
        rw [if_pos c62] at H
        have c62b1:decide (x9_3≤(l0.length:Int))=true:=decide_eq_true c62
        clear c62
        obtain ⟨y41,hy41⟩: ∃y_:List (S31),y_=(l0.take (x9_3:Int).toNat):=⟨_,rfl⟩
        replace H:((r10_copied.f y41).bind fun t45=>(if t45.length<1256584717458 then ((some (t45++ [(⟨a1,a2,(⟨a3_0,a3_1,a3_2⟩:S27),(⟨0,0,0⟩:S27),(⟨0,0,0⟩:S27),1⟩:S31)]:List (S31))).bind fun y48=>((some (l0.drop (x9_3:Int).toNat:List (S31))).bind fun y51=>(if y48.length+y51.length<1256584717458 then (some ((y48++y51),0)) else (none)))) else (none)))=some (r1,r2):=by first|(rw [hy41];with_reducible exact H)|(have H2_:=(Option.bind_some _ _).symm.trans H;rw [hy41];with_reducible exact H2_)|(have H2_:=(Option.bind_some _ _).symm.trans H;with_reducible exact H2_)|with_reducible exact H|(rw [hy41];exact H)|exact H
        have Ny41:=Aside0.mk hy41
        clear hy41
        replace H:=Option.bind_eq_some_iff.mp H
        obtain ⟨t45,A630,H⟩:=H
        try dsimp only at H
        have A63:=Aside0.mk A630
        clear A630
        by_cases c64:t45.length<1256584717458
        rotate_left
        ·rw [if_neg c64] at H
         exact absurd H (by simp)
        rw [if_pos c64] at H
        have LMc64:=Aside0.mk c64
        clear c64
        obtain ⟨y48,hy48⟩: ∃y_:List (S31),y_=(t45++ [(⟨a1,a2,(⟨a3_0,a3_1,a3_2⟩:S27),(⟨0,0,0⟩:S27),(⟨0,0,0⟩:S27),1⟩:S31)]):=⟨_,rfl⟩
        replace H:((some (l0.drop (x9_3:Int).toNat:List (S31))).bind fun y51=>(if y48.length+y51.length<1256584717458 then (some ((y48++y51),0)) else (none)))=some (r1,r2):=by first|(rw [hy48];with_reducible exact H)|(have H2_:=(Option.bind_some _ _).symm.trans H;rw [hy48];with_reducible exact H2_)|(have H2_:=(Option.bind_some _ _).symm.trans H;with_reducible exact H2_)|with_reducible exact H|(rw [hy48];exact H)|exact H
        have Ny48:=Aside0.mk hy48
        clear hy48
        obtain ⟨y51,hy51⟩: ∃y_:List (S31),y_=(l0.drop (x9_3:Int).toNat):=⟨_,rfl⟩
        replace H:(if y48.length+y51.length<1256584717458 then (some ((y48++y51),0)) else (none))=some (r1,r2):=by first|(rw [hy51];with_reducible exact H)|(have H2_:=(Option.bind_some _ _).symm.trans H;rw [hy51];with_reducible exact H2_)|(have H2_:=(Option.bind_some _ _).symm.trans H;with_reducible exact H2_)|with_reducible exact H|(rw [hy51];exact H)|exact H
        have Ny51:=Aside0.mk hy51
        clear hy51
        by_cases c67:y48.length+y51.length<1256584717458
        rotate_left
        ·rw [if_neg c67] at H
         exact absurd H (by simp)
        rw [if_pos c67] at H
        have LMc67:=Aside0.mk c67
        clear c67
        obtain ⟨y55,hy55⟩: ∃y_:List (S31),y_=(y48++y51):=⟨_,rfl⟩
        replace H:(some (y55,0))=some (r1,r2):=by first|(rw [hy55];with_reducible exact H)|(have H2_:=(Option.bind_some _ _).symm.trans H;rw [hy55];with_reducible exact H2_)|(have H2_:=(Option.bind_some _ _).symm.trans H;with_reducible exact H2_)|with_reducible exact H|(rw [hy55];exact H)|exact H
        have Ny55:=Aside0.mk hy55
        clear hy55
        simp only [Option.some.injEq,Prod.mk.injEq] at H
        obtain ⟨rfl,rfl⟩:=H
        have q68:(x9_3:Int)≤((l0.length:Int):Int):=of_decide_eq_true zq_
        obtain ⟨i068,hi068,_,hsz68,_⟩:=info_parts info31
        have hroom68:l0.length≤c0:=HC0.out
        have hC68:Kd.C k31 _ A0 l0.length l0:=HR0.out
        have hcut68:=cut_to (P:=Try.prog) 24 31 .i64 Try.underlying24 hi068 A0 l0.length c0 x9_3 (of_decide_eq_true zq_) q68 hroom68
        have hr68:=Kd.C_take (m:=(x9_3:Int).toNat) hC68 (by omega)
        have hy68:y41.length=(x9_3:Int).toNat:=(by rw [Ny41.out,List.length_take];omega)
        rw [←Ny41.out] at hr68
        rw [←hy68] at hcut68
        have HR44:=Aside0.mk hr68
        have HC44:=am_ (show y41.length≤c0 from by omega)
        clear hr68 hC68 hroom68 hi068 hsz68
        clear hy68
        replace q68:=eq_true q68
        go_wp2_with (first|((with_reducible refine gate_callee (f:=124) rfl ?_);refine gl_ (some 60) Try.func124 #[.slice A0 y41.length c0] ?_;(with_reducible refine (r10_copied.calls _ _ y41 t45 _ ?side1 ?side2 A63.out).mono ?_);(case side1=>exact zc_ (Kd.C_below HR44.out HB.out));(case side2=>exact HC44.out);rintro e w69 ⟨v46,rfl,ho0,hb⟩;refine ⟨_,rfl, ?_⟩;have HO47:=am_ (Kd.R_lower ho0 (below_size (zl2_ HB GE1 GE2)));replace BK1:=am_ (blk_below (zb_ BK1) hb);replace BK2:=am_ (blk_below (zb_ BK2) hb);replace HB:=am_ (below_step (zl2_ HB GE1 GE2) hb);(try clear hb);(try clear hb2);(try clear hk);(try clear hi);(try clear ho0);obtain ⟨hcz71_0,hcz71_1,hcz71_2⟩:=x3_ BK1)|((with_reducible refine gate_builtin (b:= .append) (xs:=#[.tmp 61, .tmp 66]) rfl ?_);at_builtin;refine Kd.R_append k31 (w0:=w) w.heap.size rfl (.tmp 61) (.tmp 66) 24 31 (.agg #[(.string ⟨#[]⟩),(.string ⟨#[]⟩),(.int .i64 0),(.int .i64 0),(.int .i64 0),(.int .i64 0),(.int .i64 0),(.int .i64 0),(.int .i64 0),(.int .i64 0),(.int .i64 0),(.int .i64 0)]) 112 rfl Try.underlying24 info31 rfl (by decide) (by omega) v46 t45 (⟨a1,a2,(⟨a3_0,a3_1,a3_2⟩:S27),(⟨0,0,0⟩:S27),(⟨0,0,0⟩:S27),1⟩:S31) [.string a1, .string a2, .int .i64 a3_0, .int .i64 a3_1, .int .i64 a3_2, .int .i64 0, .int .i64 0, .int .i64 0, .int .i64 0, .int .i64 0, .int .i64 0, .int .i64 1] (fun _=>True) (fun _=>False) rfl rfl ?aP (fun _ hk=>hk.elim) ?aF ?aO ?aB ?aS ?aL ?_;(case aP=>exact k31_mkM _ _ _ (⟨a1,a2,(⟨a3_0,a3_1,a3_2⟩:S27),(⟨0,0,0⟩:S27),(⟨0,0,0⟩:S27),1⟩:S31));(case aB=>exact (zl2_ HB GE1 GE2));(case aF=>exact (fun _ _=>trivial));(case aO=>exact (zr_ HO47));(case aS=>exact (below_size (zl2_ HB GE1 GE2)));(case aL=>have:=LMc64.out;omega);intro v49 w72 ho hb hg hat;rw [←Ny48.out] at ho;have n0_:=am_ (blk_grown (zb_ BK1) hg (Kd.R_ne HO47.out BK1.out (by decide)));have n1_:=am_ (blk_grown (zb_ BK2) hg (Kd.R_ne HO47.out BK2.out (by decide)));have n2_:=am_ (hb);have n3_:=am_ (ho);clear BK1;clear BK2;clear HB;clear HO47;have BK1:=n0_;have BK2:=n1_;have HB:=n2_;have HO50:=n3_;clear n0_ n1_ n2_ n3_;clear ho hb hg hat;have q73:(x9_3:Int)≤((l0.length:Int):Int):=of_decide_eq_true zq_;obtain ⟨i073,hi073,_,hsz73,_⟩:=info_parts info31;have hroom73:l0.length≤c0:=HC0.out;have hC73:Kd.C k31 _ A0 l0.length l0:=HR0.out;have q073:(0:Int)≤(x9_3:Int):=of_decide_eq_true zq_;have hcut73:=cut_from (P:=Try.prog) 24 31 .i64 Try.underlying24 hi073 12 hsz73 A0 l0.length c0 x9_3 q073 q73;have hr73:=Kd.C_drop (m:=(x9_3:Int).toNat) (c:=c0) hC73 (by omega) hroom73;obtain ⟨A73,hA73⟩: ∃A1,A1=(if c0=(x9_3:Int).toNat then A0 else (A0:Option Addr).map (·.add ((x9_3:Int).toNat*12))):=⟨_,rfl⟩;obtain ⟨c73,hc73⟩: ∃c1,c1=c0 - (x9_3:Int).toNat:=⟨_,rfl⟩;have hy73:y51.length=l0.length - (x9_3:Int).toNat:=(by rw [Ny51.out,List.length_drop]<;>omega);rw [show (l0).drop (x9_3:Int).toNat=y51 from Ny51.out.symm] at hr73;replace hr73:Kd.C k31 _ A73 y51.length y51:=(by rw [hA73];exact hr73);rw [←hy73,←hA73,←hc73] at hcut73;have HR54:=Aside0.mk hr73;clear hr73 hC73 hroom73 hi073 hsz73 hc73;clear hy73 hA73;replace q73:=eq_true q73)|((with_reducible refine gate_builtin (b:= .append) (xs:=#[.tmp 68, .tmp 71]) rfl ?_);at_builtin;refine Kd.R_append_rows k31 (w0:=w) w.heap.size rfl (.tmp 68) (.tmp 71) 24 31 (.agg #[(.string ⟨#[]⟩),(.string ⟨#[]⟩),(.int .i64 0),(.int .i64 0),(.int .i64 0),(.int .i64 0),(.int .i64 0),(.int .i64 0),(.int .i64 0),(.int .i64 0),(.int .i64 0),(.int .i64 0)]) 112 rfl Try.underlying24 info31 rfl (by decide) (by omega) v49 y48 y51 _ _ _ (fun _=>True) (fun _=>False) rfl rfl ?aO ?aR (fun _ _ h=>h) (fun _ h=>h.elim) ?aF ?aB ?aS ?aL ?_;(case aR=>repeat (first|exact (Kd.C_below HR54.out HB.out)|(with_reducible refine Kd.C_alloc ?_ _)|(with_reducible refine Kd.C_drewN ?_ _)|(with_reducible refine Kd.C_drew ?_)));(case aB=>exact (zl2_ HB GE1 GE2));(case aF=>exact (fun _ _=>trivial));(case aO=>exact (zr_ HO50));(case aS=>exact (below_size (zl2_ HB GE1 GE2)));(case aL=>have:=LMc67.out;omega);intro v56 w74 ho hb hg hat;rw [←Ny55.out] at ho;have n0_:=am_ (blk_grown (zb_ BK1) hg (Kd.R_ne HO50.out BK1.out (by decide)));have n1_:=am_ (blk_grown (zb_ BK2) hg (Kd.R_ne HO50.out BK2.out (by decide)));have n2_:=am_ (hb);have n3_:=am_ (ho);clear BK1;clear BK2;clear HB;clear HO50;have BK1:=n0_;have BK2:=n1_;have HB:=n2_;have HO57:=n3_;clear n0_ n1_ n2_ n3_;clear ho hb hg hat;obtain ⟨Ao75,co75,eo75⟩:=Kd.R_slice HO57.out;subst eo75;obtain ⟨hcz76_0,hcz76_1⟩:=x2_ BK2;have hfz76_0:=blk_frozen BK2.out 0;have hfz76_1:=blk_frozen BK2.out 1))
        refine bodyPost_ret (results_cell_row rfl _ _ gb2 67 #[.slice Ao75 y55.length co75, .int .i64 0] (0,0) _ rfl (zw_ BK2) Try.underlying67 rfl (by kernel_rfl)) rfl ?_
        exact ⟨_,by first|rfl|(simp [errW_none,errW_some]<;>rfl)|(simp [*,errW_none,errW_some]<;>rfl),zy_ HO57 BK2,zl2_ HB GE1 GE2⟩
       rw [if_pos c42] at H
       have c42b0:decide (x9_3<(l0.length:Int))=true:=decide_eq_true c42
       clear c42
       by_cases c43:0≤x9_3
       rotate_left
       ·rw [if_neg c43] at H
        exact absurd H (by simp)
       rw [if_pos c43] at H
       have c43b0:decide (0≤x9_3)=true:=decide_eq_true c43
       clear c43
       by_cases c44:(Op.bytesLess (((rd_T31 l0 x9_3).f0).toList) a1.toList)=true
       ·rw [if_pos c44] at H
        have c44b0:(Op.bytesLess (((rd_T31 l0 x9_3).f0).toList) a1.toList)=true:=c44
        clear c44
        have H':=Aside0.mk H
        clear H
        have p23:0≤(x9_3:Int):=of_decide_eq_true zq_
        have q23:x9_3<(l0.length:Int):=of_decide_eq_true zq_
        obtain ⟨ad23,e23,hx23_0,hx23_1,hx23_2,hx23_3,hx23_4,hx23_5,hx23_6,hx23_7,hx23_8,hx23_9,hx23_10,hx23_11⟩:=at_T31 HR0.out x9_3 p23 q23
        cases e23
        replace hx23_0:=zx_ HB hx23_0
        replace hx23_1:=zx_ HB hx23_1
        replace hx23_2:=zx_ HB hx23_2
        replace hx23_3:=zx_ HB hx23_3
        replace hx23_4:=zx_ HB hx23_4
        replace hx23_5:=zx_ HB hx23_5
        replace hx23_6:=zx_ HB hx23_6
        replace hx23_7:=zx_ HB hx23_7
        replace hx23_8:=zx_ HB hx23_8
        replace hx23_9:=zx_ HB hx23_9
        replace hx23_10:=zx_ HB hx23_10
        replace hx23_11:=zx_ HB hx23_11
        replace p23:=eq_true p23
        replace q23:=eq_true q23
        go_wp2
        go_roundg k3
        case measure=>have:=HJ4.out;have:=HJ26.out;have:=HK3.out;omega
        case rel=>exact ⟨(wrap64 (x9_3+1)),(by first|rfl|(simp;done)|(simp [*];done)),H',⟨by have:=HJ4.out;have:=HJ26.out;have:=HK3.out;omega⟩,⟨by refine zk_ ?_;exact BK1.out⟩,⟨by refine zk_ ?_;exact BK2.out⟩,⟨zl2_ HB GE1 GE2⟩⟩
       rw [if_neg c44] at H
       have c44b0:(Op.bytesLess (((rd_T31 l0 x9_3).f0).toList) a1.toList)=false:=by simpa using c44
       clear c44
       have c45b0:=eq_true (of_decide_eq_true zq_:0≤x9_3)
       by_cases c46:x9_3≤(l0.length:Int)
       rotate_left
       ·rw [if_neg c46] at H
        exact absurd H (by simp)
       rw [if_pos c46] at H
       have c46b1:decide (x9_3≤(l0.length:Int))=true:=decide_eq_true c46
       clear c46
       obtain ⟨y24,hy24⟩: ∃y_:List (S31),y_=(l0.take (x9_3:Int).toNat):=⟨_,rfl⟩
       replace H:((r10_copied.f y24).bind fun t28=>(if t28.length<1256584717458 then ((some (t28++ [(⟨a1,a2,(⟨a3_0,a3_1,a3_2⟩:S27),(⟨0,0,0⟩:S27),(⟨0,0,0⟩:S27),1⟩:S31)]:List (S31))).bind fun y31=>((some (l0.drop (x9_3:Int).toNat:List (S31))).bind fun y34=>(if y31.length+y34.length<1256584717458 then (some ((y31++y34),0)) else (none)))) else (none)))=some (r1,r2):=by first|(rw [hy24];with_reducible exact H)|(have H2_:=(Option.bind_some _ _).symm.trans H;rw [hy24];with_reducible exact H2_)|(have H2_:=(Option.bind_some _ _).symm.trans H;with_reducible exact H2_)|with_reducible exact H|(rw [hy24];exact H)|exact H
       have Ny24:=Aside0.mk hy24
       clear hy24
       replace H:=Option.bind_eq_some_iff.mp H
       obtain ⟨t28,A470,H⟩:=H
       try dsimp only at H
       have A47:=Aside0.mk A470
       clear A470
       by_cases c48:t28.length<1256584717458
       rotate_left
       ·rw [if_neg c48] at H
        exact absurd H (by simp)
       rw [if_pos c48] at H
       have LMc48:=Aside0.mk c48
       clear c48
       obtain ⟨y31,hy31⟩: ∃y_:List (S31),y_=(t28++ [(⟨a1,a2,(⟨a3_0,a3_1,a3_2⟩:S27),(⟨0,0,0⟩:S27),(⟨0,0,0⟩:S27),1⟩:S31)]):=⟨_,rfl⟩
       replace H:((some (l0.drop (x9_3:Int).toNat:List (S31))).bind fun y34=>(if y31.length+y34.length<1256584717458 then (some ((y31++y34),0)) else (none)))=some (r1,r2):=by first|(rw [hy31];with_reducible exact H)|(have H2_:=(Option.bind_some _ _).symm.trans H;rw [hy31];with_reducible exact H2_)|(have H2_:=(Option.bind_some _ _).symm.trans H;with_reducible exact H2_)|with_reducible exact H|(rw [hy31];exact H)|exact H
       have Ny31:=Aside0.mk hy31
       clear hy31
       obtain ⟨y34,hy34⟩: ∃y_:List (S31),y_=(l0.drop (x9_3:Int).toNat):=⟨_,rfl⟩
       replace H:(if y31.length+y34.length<1256584717458 then (some ((y31++y34),0)) else (none))=some (r1,r2):=by first|(rw [hy34];with_reducible exact H)|(have H2_:=(Option.bind_some _ _).symm.trans H;rw [hy34];with_reducible exact H2_)|(have H2_:=(Option.bind_some _ _).symm.trans H;with_reducible exact H2_)|with_reducible exact H|(rw [hy34];exact H)|exact H
       have Ny34:=Aside0.mk hy34
       clear hy34
       by_cases c51:y31.length+y34.length<1256584717458
       rotate_left
       ·rw [if_neg c51] at H
        exact absurd H (by simp)
       rw [if_pos c51] at H
       have LMc51:=Aside0.mk c51
       clear c51
       obtain ⟨y38,hy38⟩: ∃y_:List (S31),y_=(y31++y34):=⟨_,rfl⟩
       replace H:(some (y38,0))=some (r1,r2):=by first|(rw [hy38];with_reducible exact H)|(have H2_:=(Option.bind_some _ _).symm.trans H;rw [hy38];with_reducible exact H2_)|(have H2_:=(Option.bind_some _ _).symm.trans H;with_reducible exact H2_)|with_reducible exact H|(rw [hy38];exact H)|exact H
       have Ny38:=Aside0.mk hy38
       clear hy38
       simp only [Option.some.injEq,Prod.mk.injEq] at H
       obtain ⟨rfl,rfl⟩:=H
       have p23:0≤(x9_3:Int):=of_decide_eq_true zq_
       have q23:x9_3<(l0.length:Int):=of_decide_eq_true zq_
       obtain ⟨ad23,e23,hx23_0,hx23_1,hx23_2,hx23_3,hx23_4,hx23_5,hx23_6,hx23_7,hx23_8,hx23_9,hx23_10,hx23_11⟩:=at_T31 HR0.out x9_3 p23 q23
       cases e23
       replace hx23_0:=zx_ HB hx23_0
       replace hx23_1:=zx_ HB hx23_1
       replace hx23_2:=zx_ HB hx23_2
       replace hx23_3:=zx_ HB hx23_3
       replace hx23_4:=zx_ HB hx23_4
       replace hx23_5:=zx_ HB hx23_5
       replace hx23_6:=zx_ HB hx23_6
       replace hx23_7:=zx_ HB hx23_7
       replace hx23_8:=zx_ HB hx23_8
       replace hx23_9:=zx_ HB hx23_9
       replace hx23_10:=zx_ HB hx23_10
       replace hx23_11:=zx_ HB hx23_11
       replace p23:=eq_true p23
       replace q23:=eq_true q23
       have q52:(x9_3:Int)≤((l0.length:Int):Int):=of_decide_eq_true zq_
       obtain ⟨i052,hi052,_,hsz52,_⟩:=info_parts info31
       have hroom52:l0.length≤c0:=HC0.out
       have hC52:Kd.C k31 _ (some ad23) l0.length l0:=HR0.out
       have hcut52:=cut_to (P:=Try.prog) 24 31 .i64 Try.underlying24 hi052 (some ad23) l0.length c0 x9_3 (of_decide_eq_true zq_) q52 hroom52
       have hr52:=Kd.C_take (m:=(x9_3:Int).toNat) hC52 (by omega)
       have hy52:y24.length=(x9_3:Int).toNat:=(by rw [Ny24.out,List.length_take];omega)
       rw [←Ny24.out] at hr52
       rw [←hy52] at hcut52
       have HR27:=Aside0.mk hr52
       have HC27:=am_ (show y24.length≤c0 from by omega)
       clear hr52 hC52 hroom52 hi052 hsz52
       clear hy52
       replace q52:=eq_true q52
       go_wp2_with (first|((with_reducible refine gate_callee (f:=124) rfl ?_);refine gl_ (some 60) Try.func124 #[.slice (some ad23) y24.length c0] ?_;(with_reducible refine (r10_copied.calls _ _ y24 t28 _ ?side1 ?side2 A47.out).mono ?_);(case side1=>exact zc_ (Kd.C_below HR27.out HB.out));(case side2=>exact HC27.out);rintro e w53 ⟨v29,rfl,ho0,hb⟩;refine ⟨_,rfl, ?_⟩;have HO30:=am_ (Kd.R_lower ho0 (below_size (zl2_ HB GE1 GE2)));replace BK1:=am_ (blk_below (zb_ BK1) hb);replace BK2:=am_ (blk_below (zb_ BK2) hb);replace HB:=am_ (below_step (zl2_ HB GE1 GE2) hb);(try clear hb);(try clear hb2);(try clear hk);(try clear hi);(try clear ho0);obtain ⟨hcz55_0,hcz55_1,hcz55_2⟩:=x3_ BK1)|((with_reducible refine gate_builtin (b:= .append) (xs:=#[.tmp 61, .tmp 66]) rfl ?_);at_builtin;refine Kd.R_append k31 (w0:=w) w.heap.size rfl (.tmp 61) (.tmp 66) 24 31 (.agg #[(.string ⟨#[]⟩),(.string ⟨#[]⟩),(.int .i64 0),(.int .i64 0),(.int .i64 0),(.int .i64 0),(.int .i64 0),(.int .i64 0),(.int .i64 0),(.int .i64 0),(.int .i64 0),(.int .i64 0)]) 112 rfl Try.underlying24 info31 rfl (by decide) (by omega) v29 t28 (⟨a1,a2,(⟨a3_0,a3_1,a3_2⟩:S27),(⟨0,0,0⟩:S27),(⟨0,0,0⟩:S27),1⟩:S31) [.string a1, .string a2, .int .i64 a3_0, .int .i64 a3_1, .int .i64 a3_2, .int .i64 0, .int .i64 0, .int .i64 0, .int .i64 0, .int .i64 0, .int .i64 0, .int .i64 1] (fun _=>True) (fun _=>False) rfl rfl ?aP (fun _ hk=>hk.elim) ?aF ?aO ?aB ?aS ?aL ?_;(case aP=>exact k31_mkM _ _ _ (⟨a1,a2,(⟨a3_0,a3_1,a3_2⟩:S27),(⟨0,0,0⟩:S27),(⟨0,0,0⟩:S27),1⟩:S31));(case aB=>exact (zl2_ HB GE1 GE2));(case aF=>exact (fun _ _=>trivial));(case aO=>exact (zr_ HO30));(case aS=>exact (below_size (zl2_ HB GE1 GE2)));(case aL=>have:=LMc48.out;omega);intro v32 w56 ho hb hg hat;rw [←Ny31.out] at ho;have n0_:=am_ (blk_grown (zb_ BK1) hg (Kd.R_ne HO30.out BK1.out (by decide)));have n1_:=am_ (blk_grown (zb_ BK2) hg (Kd.R_ne HO30.out BK2.out (by decide)));have n2_:=am_ (hb);have n3_:=am_ (ho);clear BK1;clear BK2;clear HB;clear HO30;have BK1:=n0_;have BK2:=n1_;have HB:=n2_;have HO33:=n3_;clear n0_ n1_ n2_ n3_;clear ho hb hg hat;have q57:(x9_3:Int)≤((l0.length:Int):Int):=of_decide_eq_true zq_;obtain ⟨i057,hi057,_,hsz57,_⟩:=info_parts info31;have hroom57:l0.length≤c0:=HC0.out;have hC57:Kd.C k31 _ (some ad23) l0.length l0:=HR0.out;have q057:(0:Int)≤(x9_3:Int):=of_decide_eq_true zq_;have hcut57:=cut_from (P:=Try.prog) 24 31 .i64 Try.underlying24 hi057 12 hsz57 (some ad23) l0.length c0 x9_3 q057 q57;have hr57:=Kd.C_drop (m:=(x9_3:Int).toNat) (c:=c0) hC57 (by omega) hroom57;obtain ⟨A57,hA57⟩: ∃A1,A1=(if c0=(x9_3:Int).toNat then (some ad23) else ((some ad23):Option Addr).map (·.add ((x9_3:Int).toNat*12))):=⟨_,rfl⟩;obtain ⟨c57,hc57⟩: ∃c1,c1=c0 - (x9_3:Int).toNat:=⟨_,rfl⟩;have hy57:y34.length=l0.length - (x9_3:Int).toNat:=(by rw [Ny34.out,List.length_drop]<;>omega);rw [show (l0).drop (x9_3:Int).toNat=y34 from Ny34.out.symm] at hr57;replace hr57:Kd.C k31 _ A57 y34.length y34:=(by rw [hA57];exact hr57);rw [←hy57,←hA57,←hc57] at hcut57;have HR37:=Aside0.mk hr57;clear hr57 hC57 hroom57 hi057 hsz57 hc57;clear hy57 hA57;replace q57:=eq_true q57)|((with_reducible refine gate_builtin (b:= .append) (xs:=#[.tmp 68, .tmp 71]) rfl ?_);at_builtin;refine Kd.R_append_rows k31 (w0:=w) w.heap.size rfl (.tmp 68) (.tmp 71) 24 31 (.agg #[(.string ⟨#[]⟩),(.string ⟨#[]⟩),(.int .i64 0),(.int .i64 0),(.int .i64 0),(.int .i64 0),(.int .i64 0),(.int .i64 0),(.int .i64 0),(.int .i64 0),(.int .i64 0),(.int .i64 0)]) 112 rfl Try.underlying24 info31 rfl (by decide) (by omega) v32 y31 y34 _ _ _ (fun _=>True) (fun _=>False) rfl rfl ?aO ?aR (fun _ _ h=>h) (fun _ h=>h.elim) ?aF ?aB ?aS ?aL ?_;(case aR=>repeat (first|exact (Kd.C_below HR37.out HB.out)|(with_reducible refine Kd.C_alloc ?_ _)|(with_reducible refine Kd.C_drewN ?_ _)|(with_reducible refine Kd.C_drew ?_)));(case aB=>exact (zl2_ HB GE1 GE2));(case aF=>exact (fun _ _=>trivial));(case aO=>exact (zr_ HO33));(case aS=>exact (below_size (zl2_ HB GE1 GE2)));(case aL=>have:=LMc51.out;omega);intro v39 w58 ho hb hg hat;rw [←Ny38.out] at ho;have n0_:=am_ (blk_grown (zb_ BK1) hg (Kd.R_ne HO33.out BK1.out (by decide)));have n1_:=am_ (blk_grown (zb_ BK2) hg (Kd.R_ne HO33.out BK2.out (by decide)));have n2_:=am_ (hb);have n3_:=am_ (ho);clear BK1;clear BK2;clear HB;clear HO33;have BK1:=n0_;have BK2:=n1_;have HB:=n2_;have HO40:=n3_;clear n0_ n1_ n2_ n3_;clear ho hb hg hat;obtain ⟨Ao59,co59,eo59⟩:=Kd.R_slice HO40.out;subst eo59;obtain ⟨hcz60_0,hcz60_1⟩:=x2_ BK2;have hfz60_0:=blk_frozen BK2.out 0;have hfz60_1:=blk_frozen BK2.out 1))
       refine bodyPost_ret (results_cell_row rfl _ _ gb2 67 #[.slice Ao59 y38.length co59, .int .i64 0] (0,0) _ rfl (zw_ BK2) Try.underlying67 rfl (by kernel_rfl)) rfl ?_
       exact ⟨_,by first|rfl|(simp [errW_none,errW_some]<;>rfl)|(simp [*,errW_none,errW_some]<;>rfl),zy_ HO40 BK2,zl2_ HB GE1 GE2⟩
def r10_Le.f (a0_0:Int) (a0_1:Int) (a0_2:Int) (a1_0:Int) (a1_1:Int) (a1_2:Int):Option (Bool):=if a0_0≤a1_0 then (if a0_1≤a1_1 then (some (decide (a0_2≤a1_2))) else (some false)) else (some false)
set_option maxHeartbeats 8000000 in
set_option maxRecDepth 100000 in
theorem r10_Le.calls (a0_0:Int) (a0_1:Int) (a0_2:Int) (a1_0:Int) (a1_1:Int) (a1_2:Int) (r:Bool) (w:World) (h:r10_Le.f a0_0 a0_1 a0_2 a1_0 a1_1 a1_2=some r):
  Calls Try.prog 34 #[.agg #[.int .i64 a0_0, .int .i64 a0_1, .int .i64 a0_2], .agg #[.int .i64 a1_0, .int .i64 a1_1, .int .i64 a1_2]] w fun e w'=>e= .returned (.bool r)∧Below w.heap.size w w':=by
 have hu27:=Try.underlying27
 have HB:=am_ (Below.refl w.heap.size w)
 have H:(if a0_0≤a1_0 then (if a0_1≤a1_1 then (some (decide (a0_2≤a1_2))) else (some false)) else (some false))=some r:=h
 clear h
 by_cases c3:a0_0≤a1_0
 rotate_left
 ·rw [if_neg c3] at H
  have c3b0:decide (a0_0≤a1_0)=false:=decide_eq_false c3
  clear c3
  obtain rfl:=Option.some.inj H
  go_enter Try.func34,Try.ntmps34
  go_wp2_with (first|((with_reducible refine gate_dst (N:=2) rfl ?_);refine bx_ (N:=2) (cs:=#[.int .i64 a0_0, .int .i64 a0_1, .int .i64 a0_2]) (t:=27) ?_;intro gb1 hg w15 hbox hb;have BK1:=am_ (hbox);have GW1:=am_ ((zg0_ HB hg:w.heap.size≤gb1));have GE1:=am_ ((zg0_ HB hg:w.heap.size≤gb1));replace HB:=am_ (below_step (zl0_ HB) hb);clear hb hbox hg)|((with_reducible refine gate_dst (N:=3) rfl ?_);refine bx_ (N:=3) (cs:=#[.int .i64 a1_0, .int .i64 a1_1, .int .i64 a1_2]) (t:=27) ?_;intro gb2 hg w16 hbox hb;have BK2:=am_ (hbox);have GW2:=am_ ((zg1_ HB GE1 hg:w.heap.size≤gb2));have GE2:=am_ ((zg1_ HB GE1 hg:w.heap.size≤gb2));replace HB:=am_ (below_step (zl1_ HB GE1) hb);have NB1_2:=am_ ((zn_ BK1 hg:gb1≠gb2));have NB2_1:=am_ ((zm_ BK1 hg:gb2≠gb1));replace BK1:=am_ (blk_below (zb_ BK1) hb);clear hb hbox hg;have hnb17:=NB1_2.out;have hnc17:=NB2_1.out;obtain ⟨hcz18_0,hcz18_1,hcz18_2,hfz18_0,hfz18_1,hfz18_2⟩:=y3_ BK1;obtain ⟨hcz19_0,hcz19_1,hcz19_2⟩:=x3_ BK2;have hfz19_0:=blk_frozen BK2.out 0;have hfz19_1:=blk_frozen BK2.out 1;have hfz19_2:=blk_frozen BK2.out 2))
  go_ret
  exact ⟨by first|rfl|(simp [errW_none,errW_some]<;>rfl)|(simp [*,errW_none,errW_some]<;>rfl),zl2_ HB GE1 GE2⟩

 rw [if_pos c3] at H
 have c3b0:decide (a0_0≤a1_0)=true:=decide_eq_true c3
 clear c3
 by_cases c4:a0_1≤a1_1
 ·rw [if_pos c4] at H
  have c4b0:decide (a0_1≤a1_1)=true:=decide_eq_true c4
  clear c4
  obtain rfl:=Option.some.inj H
  go_enter Try.func34,Try.ntmps34
  go_wp2_with (first|((with_reducible refine gate_dst (N:=2) rfl ?_);refine bx_ (N:=2) (cs:=#[.int .i64 a0_0, .int .i64 a0_1, .int .i64 a0_2]) (t:=27) ?_;intro gb1 hg w5 hbox hb;have BK1:=am_ (hbox);have GW1:=am_ ((zg0_ HB hg:w.heap.size≤gb1));have GE1:=am_ ((zg0_ HB hg:w.heap.size≤gb1));replace HB:=am_ (below_step (zl0_ HB) hb);clear hb hbox hg)|((with_reducible refine gate_dst (N:=3) rfl ?_);refine bx_ (N:=3) (cs:=#[.int .i64 a1_0, .int .i64 a1_1, .int .i64 a1_2]) (t:=27) ?_;intro gb2 hg w6 hbox hb;have BK2:=am_ (hbox);have GW2:=am_ ((zg1_ HB GE1 hg:w.heap.size≤gb2));have GE2:=am_ ((zg1_ HB GE1 hg:w.heap.size≤gb2));replace HB:=am_ (below_step (zl1_ HB GE1) hb);have NB1_2:=am_ ((zn_ BK1 hg:gb1≠gb2));have NB2_1:=am_ ((zm_ BK1 hg:gb2≠gb1));replace BK1:=am_ (blk_below (zb_ BK1) hb);clear hb hbox hg;have hnb7:=NB1_2.out;have hnc7:=NB2_1.out;obtain ⟨hcz8_0,hcz8_1,hcz8_2,hfz8_0,hfz8_1,hfz8_2⟩:=y3_ BK1;obtain ⟨hcz9_0,hcz9_1,hcz9_2⟩:=x3_ BK2;have hfz9_0:=blk_frozen BK2.out 0;have hfz9_1:=blk_frozen BK2.out 1;have hfz9_2:=blk_frozen BK2.out 2))
  go_ret
  exact ⟨by first|rfl|(simp [errW_none,errW_some]<;>rfl)|(simp [*,errW_none,errW_some]<;>rfl),zl2_ HB GE1 GE2⟩
 rw [if_neg c4] at H
 have c4b0:decide (a0_1≤a1_1)=false:=decide_eq_false c4
 clear c4
 obtain rfl:=Option.some.inj H
 go_enter Try.func34,Try.ntmps34
 go_wp2_with (first|((with_reducible refine gate_dst (N:=2) rfl ?_);refine bx_ (N:=2) (cs:=#[.int .i64 a0_0, .int .i64 a0_1, .int .i64 a0_2]) (t:=27) ?_;intro gb1 hg w10 hbox hb;have BK1:=am_ (hbox);have GW1:=am_ ((zg0_ HB hg:w.heap.size≤gb1));have GE1:=am_ ((zg0_ HB hg:w.heap.size≤gb1));replace HB:=am_ (below_step (zl0_ HB) hb);clear hb hbox hg)|((with_reducible refine gate_dst (N:=3) rfl ?_);refine bx_ (N:=3) (cs:=#[.int .i64 a1_0, .int .i64 a1_1, .int .i64 a1_2]) (t:=27) ?_;intro gb2 hg w11 hbox hb;have BK2:=am_ (hbox);have GW2:=am_ ((zg1_ HB GE1 hg:w.heap.size≤gb2));have GE2:=am_ ((zg1_ HB GE1 hg:w.heap.size≤gb2));replace HB:=am_ (below_step (zl1_ HB GE1) hb);have NB1_2:=am_ ((zn_ BK1 hg:gb1≠gb2));have NB2_1:=am_ ((zm_ BK1 hg:gb2≠gb1));replace BK1:=am_ (blk_below (zb_ BK1) hb);clear hb hbox hg;have hnb12:=NB1_2.out;have hnc12:=NB2_1.out;obtain ⟨hcz13_0,hcz13_1,hcz13_2,hfz13_0,hfz13_1,hfz13_2⟩:=y3_ BK1;obtain ⟨hcz14_0,hcz14_1,hcz14_2⟩:=x3_ BK2;have hfz14_0:=blk_frozen BK2.out 0;have hfz14_1:=blk_frozen BK2.out 1;have hfz14_2:=blk_frozen BK2.out 2))
 go_ret
 exact ⟨by first|rfl|(simp [errW_none,errW_some]<;>rfl)|(simp [*,errW_none,errW_some]<;>rfl),zl2_ HB GE1 GE2⟩
def r10_Add.f (a0_0:Int) (a0_1:Int) (a0_2:Int) (a1_0:Int) (a1_1:Int) (a1_2:Int):Option (Int×Int×Int):=some (wrap64 (a0_0+a1_0),wrap64 (a0_1+a1_1),wrap64 (a0_2+a1_2))
set_option maxHeartbeats 8000000 in
set_option maxRecDepth 100000 in
theorem r10_Add.calls (a0_0:Int) (a0_1:Int) (a0_2:Int) (a1_0:Int) (a1_1:Int) (a1_2:Int) (r1:Int) (r2:Int) (r3:Int) (w:World) (h:r10_Add.f a0_0 a0_1 a0_2 a1_0 a1_1 a1_2=some (r1,r2,r3)):
  Calls Try.prog 63 #[.agg #[.int .i64 a0_0, .int .i64 a0_1, .int .i64 a0_2], .agg #[.int .i64 a1_0, .int .i64 a1_1, .int .i64 a1_2]] w fun e w'=>e= .returned (.agg #[.int .i64 r1, .int .i64 r2, .int .i64 r3])∧Below w.heap.size w w':=by
 have hu27:=Try.underlying27
 have HB:=am_ (Below.refl w.heap.size w)
 have H:(some (wrap64 (a0_0+a1_0),wrap64 (a0_1+a1_1),wrap64 (a0_2+a1_2)))=some (r1,r2,r3):=h
 clear h
 simp only [Option.some.injEq,Prod.mk.injEq] at H
 obtain ⟨rfl,rfl,rfl⟩:=H
 go_enter Try.func63,Try.ntmps63
 go_wp2_with (first|((with_reducible refine gate_dst (N:=2) rfl ?_);refine bx_ (N:=2) (cs:=#[.int .i64 a0_0, .int .i64 a0_1, .int .i64 a0_2]) (t:=27) ?_;intro gb1 hg w3 hbox hb;have BK1:=am_ (hbox);have GW1:=am_ ((zg0_ HB hg:w.heap.size≤gb1));have GE1:=am_ ((zg0_ HB hg:w.heap.size≤gb1));replace HB:=am_ (below_step (zl0_ HB) hb);clear hb hbox hg)|((with_reducible refine gate_dst (N:=3) rfl ?_);refine bx_ (N:=3) (cs:=#[.int .i64 a1_0, .int .i64 a1_1, .int .i64 a1_2]) (t:=27) ?_;intro gb2 hg w4 hbox hb;have BK2:=am_ (hbox);have GW2:=am_ ((zg1_ HB GE1 hg:w.heap.size≤gb2));have GE2:=am_ ((zg1_ HB GE1 hg:w.heap.size≤gb2));replace HB:=am_ (below_step (zl1_ HB GE1) hb);have NB1_2:=am_ ((zn_ BK1 hg:gb1≠gb2));have NB2_1:=am_ ((zm_ BK1 hg:gb2≠gb1));replace BK1:=am_ (blk_below (zb_ BK1) hb);clear hb hbox hg)|((with_reducible refine gate_dst (N:=4) rfl ?_);refine bx_ (N:=4) (cs:=#[.int .i64 0, .int .i64 0, .int .i64 0]) (t:=27) ?_;intro gb3 hg w5 hbox hb;have BK3:=am_ (hbox);have GW3:=am_ ((zg2_ HB GE1 GE2 hg:w.heap.size≤gb3));have GE3:=am_ ((zg2_ HB GE1 GE2 hg:w.heap.size≤gb3));replace HB:=am_ (below_step (zl2_ HB GE1 GE2) hb);have NB1_3:=am_ ((zn_ BK1 hg:gb1≠gb3));have NB3_1:=am_ ((zm_ BK1 hg:gb3≠gb1));replace BK1:=am_ (blk_below (zb_ BK1) hb);have NB2_3:=am_ ((zn_ BK2 hg:gb2≠gb3));have NB3_2:=am_ ((zm_ BK2 hg:gb3≠gb2));replace BK2:=am_ (blk_below (zb_ BK2) hb);clear hb hbox hg;have hnb6:=NB1_2.out;have hnc6:=NB2_1.out;have hnb7:=NB1_3.out;have hnc7:=NB3_1.out;obtain ⟨hcz8_0,hcz8_1,hcz8_2,hfz8_0,hfz8_1,hfz8_2⟩:=y3_ BK1;have hnb9:=NB2_3.out;have hnc9:=NB3_2.out;obtain ⟨hcz10_0,hcz10_1,hcz10_2,hfz10_0,hfz10_1,hfz10_2⟩:=y3_ BK2;obtain ⟨hcz11_0,hcz11_1,hcz11_2⟩:=x3_ BK3;have hfz11_0:=blk_frozen BK3.out 0;have hfz11_1:=blk_frozen BK3.out 1;have hfz11_2:=blk_frozen BK3.out 2))
 refine bodyPost_ret (results_cell_row rfl _ _ gb3 27 #[.int .i64 (wrap64 (a0_0+a1_0)), .int .i64 (wrap64 (a0_1+a1_1)), .int .i64 (wrap64 (a0_2+a1_2))] (0,0) _ rfl (zw_ BK3) Try.underlying27 rfl (by kernel_rfl)) rfl ?_
 exact ⟨by first|rfl|(simp [errW_none,errW_some]<;>rfl)|(simp [*,errW_none,errW_some]<;>rfl),zl3_ HB GE1 GE2 GE3⟩

def r10_Up.l0:Nat→List (S31)→List ByteArray→Int→Option (List ByteArray)
 |0,_,_,_=>none
 |k+1,x0,x5,x6=>if x6≥0 then (if (x5.length:Int)≤(x0.length:Int) then (if 0≤x6 then (if x6<(x0.length:Int) then (if x5.length<8796093022208 then ((r10_Find.f k x0 ((rd_T31 x0 x6).f1)).bind fun t7=>(r10_Up.l0 k x0 (x5++ [(rd_T31 x0 x6).f0]) t7)) else (none)) else (none)) else (none)) else (some x5)) else (some x5)
def r10_Up.f (k:Nat) (l0:List (S31)) (a1:ByteArray):Option (List ByteArray):=(r10_Find.f k l0 a1).bind fun t1=>(r10_Up.l0 k l0 ([]:List ByteArray) t1)
theorem r10_Up.mono_l: ∀k,(∀y0 y1 y2,LeO (r10_Up.l0 k y0 y1 y2) (r10_Up.l0 (k+1) y0 y1 y2))
 |0=>fun _ _ _ r h=>by simp [r10_Up.l0] at h
 |k+1=>by
  have ih0:=r10_Up.mono_l k
  intro y0 y1 y2
  unfold r10_Up.l0
  repeat' first
  |(with_reducible exact ih0 _ _ _)
  |(with_reducible exact r10_Find.mono _ _ _)
  |(with_reducible exact LeO.refl _)
  |(with_reducible exact LeO.none _)
  |(with_reducible refine LeO.ite ?_ ?_)
  |(with_reducible refine LeO.bind ?_ (fun _=> ?_))
  |exact ih0 _ _ _
  |exact r10_Find.mono _ _ _
  |exact LeO.none _
  |refine LeO.ite ?_ ?_
  |refine LeO.bind ?_ (fun _=> ?_)
theorem r10_Up.mono: ∀a0 a1 k,LeO (r10_Up.f k a0 a1) (r10_Up.f (k+1) a0 a1):=by
 intro a0 a1 k
 have ih0:=r10_Up.mono_l k
 unfold r10_Up.f
 repeat' first
  |(with_reducible exact ih0 _ _ _)
  |(with_reducible exact r10_Find.mono _ _ _)
  |(with_reducible exact LeO.refl _)
  |(with_reducible exact LeO.none _)
  |(with_reducible refine LeO.ite ?_ ?_)
  |(with_reducible refine LeO.bind ?_ (fun _=> ?_))
  |exact ih0 _ _ _
  |exact r10_Find.mono _ _ _
  |exact LeO.none _
  |refine LeO.ite ?_ ?_
  |refine LeO.bind ?_ (fun _=> ?_)
set_option maxHeartbeats 8000000 in
set_option maxRecDepth 100000 in
theorem r10_Up.calls (k:Nat) (A0:Option Addr) (c0:Nat) (l0:List (S31)) (a1:ByteArray) (r:List ByteArray) (w:World) (hr0:Kd.C k31 w A0 l0.length l0) (hc0:l0.length≤c0) (h:r10_Up.f k l0 a1=some r):
  Calls Try.prog 106 #[.slice A0 l0.length c0, .string a1] w fun e w'=> ∃v0_:Value,e= .returned (v0_)∧Kd.R Kd.string 9 w' w.heap.size (fun _=>True) v0_ r∧Below w.heap.size w w':=by
 have HR0:=Aside0.mk hr0
 have HC0:=Aside0.mk hc0
 clear hr0 hc0
 have HB:=am_ (Below.refl w.heap.size w)
 have H:((r10_Find.f k l0 a1).bind fun t1=>(r10_Up.l0 k l0 ([]:List ByteArray) t1))=some r:=h
 clear h
 replace H:=Option.bind_eq_some_iff.mp H
 obtain ⟨t1,A30,H⟩:=H
 try dsimp only at H
 have A3:=Aside0.mk A30
 clear A30
 have H':=Aside0.mk H
 clear H
 go_enter Try.func106,Try.ntmps106
 go_wp2_with (first|((with_reducible refine gate_callee (f:=50) rfl ?_);refine gl_ (some 9) Try.func50 #[.slice A0 l0.length c0, .string a1] ?_;(with_reducible refine (r10_Find.calls k _ _ l0 a1 t1 _ ?side1 ?side2 A3.out).mono ?_);(case side1=>repeat (first|exact HR0.out|(with_reducible refine Kd.C_alloc ?_ _)|(with_reducible refine Kd.C_drewN ?_ _)|(with_reducible refine Kd.C_drew ?_)));(case side2=>exact HC0.out);rintro e w' ⟨rfl,⟨nd,rfl⟩⟩;refine ⟨_,rfl, ?_⟩))
 go_loopg [5,6] k (fun kq v5 v6 w'=> ∃(x5_1:List ByteArray) (x6_1:Int),v6= .int .i64 x6_1∧Aside0 (r10_Up.l0 kq l0 x5_1 x6_1=some r)∧Aside0 (kq≤k)∧Aside0 (Kd.R Kd.string 9 w' w.heap.size (fun _=>True) v5 x5_1)∧Aside0 (Below w.heap.size w w'))
 case atStart=>exact ⟨(([]:List ByteArray)),(t1),(by first|rfl|(simp;done)|(simp [*];done)),H',⟨Nat.le_refl _⟩,⟨by first|exact Kd.R_nil _ _ _ _ _|exact Kd.N_nil _ _ _ _ _|exact Kd.V_nil _ _ _ _ _|exact Kd.Q_nil _ _ _ _ _|exact Kd.S_nil _ _ _ _ _⟩,⟨zl0_ HB⟩⟩
 case round=>
  clear H'
  try clear c1
  try clear p2
  obtain ⟨x5_1,x6_1,rfl,HA,HK1,HO_5,HB⟩:=hrel
  cases gk with
  |zero=>exact absurd HA.out (by simp [r10_Up.l0])
  |succ k1=>
   have H:=HA.out
   clear HA
   simp only [r10_Up.l0] at H
   by_cases c4:x6_1≥0
   rotate_left
   ·rw [if_neg c4] at H
    have c4b0:decide (0≤x6_1)=false:=decide_eq_false c4
    clear c4
    obtain rfl:=Option.some.inj H
    go_wp2
    go_ret
    exact ⟨_,by first|rfl|(simp [errW_none,errW_some]<;>rfl)|(simp [*,errW_none,errW_some]<;>rfl),by (with_reducible repeat (first|apply Kd.R_alloc|apply Kd.R_drewN|apply Kd.R_drew));exact HO_5.out,zl0_ HB⟩

   rw [if_pos c4] at H
   have c4b0:decide (0≤x6_1)=true:=decide_eq_true c4
   clear c4
   by_cases c5:(x5_1.length:Int)≤(l0.length:Int)
   rotate_left
   ·rw [if_neg c5] at H
    have c5b0:decide ((x5_1.length:Int)≤(l0.length:Int))=false:=decide_eq_false c5
    have c5b1:decide (x5_1.length≤l0.length)=false:=decide_eq_false (fun h=>c5 (Int.ofNat_le.mpr h))
    clear c5
    obtain rfl:=Option.some.inj H
    obtain ⟨Ao12,co12,eo12⟩:=Kd.R_slice HO_5.out
    subst eo12
    go_wp2
    go_ret
    exact ⟨_,by first|rfl|(simp [errW_none,errW_some]<;>rfl)|(simp [*,errW_none,errW_some]<;>rfl),by (with_reducible repeat (first|apply Kd.R_alloc|apply Kd.R_drewN|apply Kd.R_drew));exact HO_5.out,zl0_ HB⟩
   rw [if_pos c5] at H
   have c5b0:decide ((x5_1.length:Int)≤(l0.length:Int))=true:=decide_eq_true c5
   have c5b1:decide (x5_1.length≤l0.length)=true:=decide_eq_true (Int.ofNat_le.mp c5)
   clear c5
   by_cases c6:0≤x6_1
   rotate_left
   ·rw [if_neg c6] at H
    exact absurd H (by simp)
   rw [if_pos c6] at H
   have c6b0:decide (0≤x6_1)=true:=decide_eq_true c6
   clear c6
   by_cases c7:x6_1<(l0.length:Int)
   rotate_left
   ·rw [if_neg c7] at H
    exact absurd H (by simp)
   rw [if_pos c7] at H
   have c7b0:decide (x6_1<(l0.length:Int))=true:=decide_eq_true c7
   clear c7
   by_cases c8:x5_1.length<8796093022208
   rotate_left
   ·rw [if_neg c8] at H
    exact absurd H (by simp)
   rw [if_pos c8] at H
   have LMc8:=Aside0.mk c8
   clear c8
   obtain ⟨y3,hy3⟩: ∃y_:List ByteArray,y_=(x5_1++ [(rd_T31 l0 x6_1).f0]):=⟨_,rfl⟩
   replace H:((r10_Find.f k1 l0 ((rd_T31 l0 x6_1).f1)).bind fun t7=>(r10_Up.l0 k1 l0 y3 t7))=some r:=by first|(rw [hy3];with_reducible exact H)|(have H2_:=(Option.bind_some _ _).symm.trans H;rw [hy3];with_reducible exact H2_)|(have H2_:=(Option.bind_some _ _).symm.trans H;with_reducible exact H2_)|with_reducible exact H|(rw [hy3];exact H)|exact H
   have Ny3:=Aside0.mk hy3
   clear hy3
   replace H:=Option.bind_eq_some_iff.mp H
   obtain ⟨t7,A90,H⟩:=H
   try dsimp only at H
   have A9:=Aside0.mk A90
   clear A90
   have H':=Aside0.mk H
   clear H
   obtain ⟨Ao10,co10,eo10⟩:=Kd.R_slice HO_5.out
   subst eo10
   have p2:0≤(x6_1:Int):=of_decide_eq_true zq_
   have q2:x6_1<(l0.length:Int):=of_decide_eq_true zq_
   obtain ⟨ad2,e2,hx2_0,hx2_1,hx2_2,hx2_3,hx2_4,hx2_5,hx2_6,hx2_7,hx2_8,hx2_9,hx2_10,hx2_11⟩:=at_T31 HR0.out x6_1 p2 q2
   cases e2
   replace hx2_0:=zx_ HB hx2_0
   replace hx2_1:=zx_ HB hx2_1
   replace hx2_2:=zx_ HB hx2_2
   replace hx2_3:=zx_ HB hx2_3
   replace hx2_4:=zx_ HB hx2_4
   replace hx2_5:=zx_ HB hx2_5
   replace hx2_6:=zx_ HB hx2_6
   replace hx2_7:=zx_ HB hx2_7
   replace hx2_8:=zx_ HB hx2_8
   replace hx2_9:=zx_ HB hx2_9
   replace hx2_10:=zx_ HB hx2_10
   replace hx2_11:=zx_ HB hx2_11
   replace p2:=eq_true p2
   replace q2:=eq_true q2
   go_wp2_with (first|((with_reducible refine gate_builtin (b:= .append) (xs:=#[.tmp 26, .tmp 32]) rfl ?_);(try (refine gate_guard (by rfl) ?_;dsimp only));at_builtin;refine Kd.R_append Kd.string (w0:=w) w.heap.size rfl (.tmp 26) (.tmp 32) 74 9 (.string ⟨#[]⟩) 16 rfl Try.underlying74 info9 rfl (by decide) (by omega) (.slice Ao10 x5_1.length co10) x5_1 ((rd_T31 l0 x6_1).f0) [.string ((rd_T31 l0 x6_1).f0)] (fun _=>True) (fun _=>False) rfl rfl ?aP (fun _ hk=>hk.elim) ?aF ?aO ?aB ?aS ?aL ?_;(case aP=>exact rfl);(case aB=>exact (zl0_ HB));(case aF=>exact (fun _ _=>trivial));(case aO=>exact (zr_ HO_5));(case aS=>exact (below_size (zl0_ HB)));(case aL=>have:=LMc8.out;omega);intro v4 w11 ho hb hg hat;rw [←Ny3.out] at ho;have n0_:=am_ (hb);have n1_:=am_ (ho);clear HB;clear HO_5;have HB:=n0_;have HO5:=n1_;clear n0_ n1_;clear ho hb hg hat;have p6:0≤(x6_1:Int):=of_decide_eq_true zq_;have q6:x6_1<(l0.length:Int):=of_decide_eq_true zq_;obtain ⟨ad6,e6,hx6_0,hx6_1,hx6_2,hx6_3,hx6_4,hx6_5,hx6_6,hx6_7,hx6_8,hx6_9,hx6_10,hx6_11⟩:=at_T31 HR0.out x6_1 p6 q6;obtain rfl:ad2=ad6:=(by injection e6);replace hx6_0:=zx_ HB hx6_0;replace hx6_1:=zx_ HB hx6_1;replace hx6_2:=zx_ HB hx6_2;replace hx6_3:=zx_ HB hx6_3;replace hx6_4:=zx_ HB hx6_4;replace hx6_5:=zx_ HB hx6_5;replace hx6_6:=zx_ HB hx6_6;replace hx6_7:=zx_ HB hx6_7;replace hx6_8:=zx_ HB hx6_8;replace hx6_9:=zx_ HB hx6_9;replace hx6_10:=zx_ HB hx6_10;replace hx6_11:=zx_ HB hx6_11;replace p6:=eq_true p6;replace q6:=eq_true q6)|((with_reducible refine gate_callee (f:=50) rfl ?_);refine gl_ (some 25) Try.func50 #[.slice (some ad2) l0.length c0, .string ((rd_T31 l0 x6_1).f1)] ?_;(with_reducible refine (r10_Find.calls k1 _ _ l0 ((rd_T31 l0 x6_1).f1) t7 _ ?side1 ?side2 A9.out).mono ?_);(case side1=>exact zc_ (Kd.C_below HR0.out HB.out));(case side2=>exact HC0.out);rintro e w' ⟨rfl,⟨nd,rfl⟩⟩;refine ⟨_,rfl, ?_⟩))
   go_roundg k1
   case measure=>have:=HK1.out;omega
   case rel=>exact ⟨(y3),(t7),(by first|rfl|(simp;done)|(simp [*];done)),H',⟨by have:=HK1.out;omega⟩,⟨by (with_reducible repeat (first|apply Kd.R_alloc|apply Kd.R_drewN|apply Kd.R_drew));exact HO5.out⟩,⟨zl0_ HB⟩⟩
def r10_Admit.l0:Nat→ByteArray→List ByteArray→List (S31)→Int→Int→Int→Int→Option ((List (S31))×Int)
 |0,_,_,_,_,_,_,_=>none
 |k+1,x1,x7,x8,x9,x2000,x2001,x2002=>if x9<(x7.length:Int) then (if 0≤x9 then ((r10_Find.f k x8 (rdOf ByteArray.empty x7 x9)).bind fun t25=>(if 0≤t25 then (if t25<(x8.length:Int) then ((r10_Add.f ((rd_T31 x8 t25).f4.f0) ((rd_T31 x8 t25).f4.f1) ((rd_T31 x8 t25).f4.f2) x2000 x2001 x2002).bind fun bt27=>((some (x8.set (t25:Int).toNat (⟨(rd_T31 x8 t25).f0,(rd_T31 x8 t25).f1,(⟨(rd_T31 x8 t25).f2.f0,(rd_T31 x8 t25).f2.f1,(rd_T31 x8 t25).f2.f2⟩:S27),(⟨(rd_T31 x8 t25).f3.f0,(rd_T31 x8 t25).f3.f1,(rd_T31 x8 t25).f3.f2⟩:S27),(⟨bt27.1,bt27.2.1,bt27.2.2⟩:S27),(rd_T31 x8 t25).f5⟩:S31):List (S31))).bind fun y30=>((r10_Le.f ((rd_T31 y30 t25).f4.f0) ((rd_T31 y30 t25).f4.f1) ((rd_T31 y30 t25).f4.f2) ((rd_T31 y30 t25).f2.f0) ((rd_T31 y30 t25).f2.f1) ((rd_T31 y30 t25).f2.f2)).bind fun t33=>(if t33=true then (r10_Admit.l0 k x1 x7 y30 (wrap64 (x9+1)) x2000 x2001 x2002) else ((r10_no.f 12).bind fun bt34=>(some (bt34.1,bt34.2))))))) else (none)) else (none))) else (none)) else ((r10_Find.f k x8 x1).bind fun t18=>(if 0≤t18 then (if t18<(x8.length:Int) then ((r10_Add.f ((rd_T31 x8 t18).f3.f0) ((rd_T31 x8 t18).f3.f1) ((rd_T31 x8 t18).f3.f2) x2000 x2001 x2002).bind fun bt20=>(some ((x8.set (t18:Int).toNat (⟨(rd_T31 x8 t18).f0,(rd_T31 x8 t18).f1,(⟨(rd_T31 x8 t18).f2.f0,(rd_T31 x8 t18).f2.f1,(rd_T31 x8 t18).f2.f2⟩:S27),(⟨bt20.1,bt20.2.1,bt20.2.2⟩:S27),(⟨(rd_T31 x8 t18).f4.f0,(rd_T31 x8 t18).f4.f1,(rd_T31 x8 t18).f4.f2⟩:S27),(rd_T31 x8 t18).f5⟩:S31)),0))) else (none)) else (none)))
def r10_Admit.f (k:Nat) (l0:List (S31)) (a1:ByteArray) (a2_0:Int) (a2_1:Int) (a2_2:Int):Option ((List (S31))×Int):=(r10_Up.f k l0 a1).bind fun t3=>((r10_MayVec.f a2_0 a2_1 a2_2).bind fun t6=>(if t6=true then (if (t3.length:Int)=0 then ((r10_no.f 2).bind fun bt11=>(some (bt11.1,bt11.2))) else ((r10_copied.f l0).bind fun t15=>(r10_Admit.l0 k a1 t3 t15 0 a2_0 a2_1 a2_2))) else ((r10_no.f 1).bind fun bt7=>(some (bt7.1,bt7.2)))))
theorem r10_Admit.mono_l: ∀k,(∀y0 y1 y2 y3 y4 y5 y6,LeO (r10_Admit.l0 k y0 y1 y2 y3 y4 y5 y6) (r10_Admit.l0 (k+1) y0 y1 y2 y3 y4 y5 y6))
 |0=>fun _ _ _ _ _ _ _ r h=>by simp [r10_Admit.l0] at h
 |k+1=>by
  have ih0:=r10_Admit.mono_l k
  intro y0 y1 y2 y3 y4 y5 y6
  unfold r10_Admit.l0
  repeat' first
  |(with_reducible exact ih0 _ _ _ _ _ _ _)
  |(with_reducible exact r10_Find.mono _ _ _)
  |(with_reducible exact r10_Up.mono _ _ _)
  |(with_reducible exact LeO.refl _)
  |(with_reducible exact LeO.none _)
  |(with_reducible refine LeO.ite ?_ ?_)
  |(with_reducible refine LeO.bind ?_ (fun _=> ?_))
  |exact ih0 _ _ _ _ _ _ _
  |exact r10_Find.mono _ _ _
  |exact r10_Up.mono _ _ _
  |exact LeO.none _
  |refine LeO.ite ?_ ?_
  |refine LeO.bind ?_ (fun _=> ?_)
theorem r10_Admit.mono: ∀a0 a1 a2 a3 a4 k,LeO (r10_Admit.f k a0 a1 a2 a3 a4) (r10_Admit.f (k+1) a0 a1 a2 a3 a4):=by
 intro a0 a1 a2 a3 a4 k
 have ih0:=r10_Admit.mono_l k
 unfold r10_Admit.f
 repeat' first
  |(with_reducible exact ih0 _ _ _ _ _ _ _)
  |(with_reducible exact r10_Find.mono _ _ _)
  |(with_reducible exact r10_Up.mono _ _ _)
  |(with_reducible exact LeO.refl _)
  |(with_reducible exact LeO.none _)
  |(with_reducible refine LeO.ite ?_ ?_)
  |(with_reducible refine LeO.bind ?_ (fun _=> ?_))
  |exact ih0 _ _ _ _ _ _ _
  |exact r10_Find.mono _ _ _
  |exact r10_Up.mono _ _ _
  |exact LeO.none _
  |refine LeO.ite ?_ ?_
  |refine LeO.bind ?_ (fun _=> ?_)
def r10_Admit.T11:Bool×List (List Nat×List Nat):=(true,[([],[]),([],[]),([],[]),([],[]),([2,3],[2,3]),([4],[4]),([5],[5]),([],[]),([6,7],[6,7]),([0,1,0,1,2,3,4,5,6,7,8],[0,1]),([9,0,1,2,3,4,5,6,7,8],[9]),([10,8,8,0,1,2,3,4,5,6,7,8],[8,10])])
def r10_Admit.B11:List Nat:=[0,0,0,0,12,28,60,0,252,511,1023,2047]
theorem r10_Admit.tab11:rtab .any (opsOf Try.f66 11)=r10_Admit.T11:=by kernel_rfl
theorem r10_Admit.bits11:waitsOk r10_Admit.T11.2 r10_Admit.B11=true:=by kernel_rfl
def r10_Admit.T12:Bool×List (List Nat×List Nat):=(true,[([],[]),([],[]),([0,1],[0,1]),([2],[2]),([3],[3]),([],[]),([],[]),([5,6],[5,6]),([7],[7]),([8],[8]),([4,9],[4,9]),([10],[10])])
def r10_Admit.B12:List Nat:=[0,0,3,7,15,0,0,96,224,480,1023,2047]
theorem r10_Admit.tab12:rtab .any (opsOf Try.f66 12)=r10_Admit.T12:=by kernel_rfl
theorem r10_Admit.bits12:waitsOk r10_Admit.T12.2 r10_Admit.B12=true:=by kernel_rfl
def r10_Admit.T15:Bool×List (List Nat×List Nat):=(true,[([],[]),([],[]),([],[]),([],[]),([2,3],[2,3]),([4],[4]),([5],[5]),([],[]),([6,7],[6,7]),([0,1,0,1,2,3,4,5,6,7,8],[0,1]),([9,0,1,2,3,4,5,6,7,8],[9]),([10,8,8,0,1,2,3,4,5,6,7,8],[8,10])])
def r10_Admit.B15:List Nat:=[0,0,0,0,12,28,60,0,252,511,1023,2047]
theorem r10_Admit.tab15:rtab .any (opsOf Try.f66 15)=r10_Admit.T15:=by kernel_rfl
theorem r10_Admit.bits15:waitsOk r10_Admit.T15.2 r10_Admit.B15=true:=by kernel_rfl
set_option maxHeartbeats 8000000 in
set_option maxRecDepth 100000 in
theorem r10_Admit.calls (k:Nat) (A0:Option Addr) (c0:Nat) (l0:List (S31)) (a1:ByteArray) (a2_0:Int) (a2_1:Int) (a2_2:Int) (r1:List (S31)) (r2:Int) (w:World) (hr0:Kd.C k31 w A0 l0.length l0) (hc0:l0.length≤c0) (h:r10_Admit.f k l0 a1 a2_0 a2_1 a2_2=some (r1,r2)):
  Calls Try.prog 66 #[.slice A0 l0.length c0, .string a1, .agg #[.int .i64 a2_0, .int .i64 a2_1, .int .i64 a2_2]] w fun e w'=> ∃v0_:Value,e= .returned (.agg #[v0_, .int .i64 r2])∧Kd.R k31 31 w' w.heap.size (fun _=>True) v0_ r1∧Below w.heap.size w w':=by
 have HR0:=Aside0.mk hr0
 have HC0:=Aside0.mk hc0
 clear hr0 hc0
 have HB:=am_ (Below.refl w.heap.size w)
 have H:((r10_Up.f k l0 a1).bind fun t3=>((r10_MayVec.f a2_0 a2_1 a2_2).bind fun t6=>(if t6=true then (if (t3.length:Int)=0 then ((r10_no.f 2).bind fun bt11=>(some (bt11.1,bt11.2))) else ((r10_copied.f l0).bind fun t15=>(r10_Admit.l0 k a1 t3 t15 0 a2_0 a2_1 a2_2))) else ((r10_no.f 1).bind fun bt7=>(some (bt7.1,bt7.2))))))=some (r1,r2):=h
 clear h
 replace H:=Option.bind_eq_some_iff.mp H
 obtain ⟨t3,A40,H⟩:=H
 try dsimp only at H
 have A4:=Aside0.mk A40
 clear A40
 replace H:=Option.bind_eq_some_iff.mp H
 obtain ⟨t6,A50,H⟩:=H
 try dsimp only at H
 have A5:=Aside0.mk A50
 clear A50
 by_cases c6:t6=true
 rotate_left
 ·replace c6:=Bool.eq_false_iff.mpr c6
  subst c6
  have H1:((r10_no.f 1).bind fun bt7=>(some (bt7.1,bt7.2)))=some (r1,r2):=by rw [if_neg (show¬(false=true) by decide)] at H;exact H
  clear H
  have H:=H1
  clear H1
  replace H:=Option.bind_eq_some_iff.mp H
  obtain ⟨⟨t7,t10⟩,A680,H⟩:=H
  try dsimp only at H
  have A68:=Aside0.mk A680
  clear A680
  simp only [Option.some.injEq,Prod.mk.injEq] at H
  obtain ⟨rfl,rfl⟩:=H
  go_enter Try.func66,Try.ntmps66
  go_wp2_with (first|((with_reducible refine gate_dst (N:=5) rfl ?_);refine bx_ (N:=5) (cs:=#[.int .i64 a2_0, .int .i64 a2_1, .int .i64 a2_2]) (t:=27) ?_;intro gb1 hg w69 hbox hb;have n0_:=am_ (below_step (zl0_ HB) hb);have n1_:=am_ (hbox);have n2_:=am_ ((zg0_ HB hg:w.heap.size≤gb1));have n3_:=am_ ((zg0_ HB hg:w.heap.size≤gb1));clear HB;have HB:=n0_;have BK1:=n1_;have GE1:=n3_;clear n0_ n1_ n2_ n3_;clear hb hbox hg)|((with_reducible refine gate_dst (N:=6) rfl ?_);refine bx_ (N:=6) (cs:=#[.slice none 0 0, .int .i64 0]) (t:=67) ?_;intro gb2 hg w70 hbox hb;have n0_:=am_ (blk_below (zb_ BK1) hb);have n1_:=am_ (below_step (zl1_ HB GE1) hb);have n2_:=am_ (hbox);have n3_:=am_ ((zg1_ HB GE1 hg:w.heap.size≤gb2));have n4_:=am_ ((zg1_ HB GE1 hg:w.heap.size≤gb2));have n5_:=am_ ((zn_ BK1 hg:gb1≠gb2));have n6_:=am_ ((zm_ BK1 hg:gb2≠gb1));clear BK1;clear HB;have BK1:=n0_;have HB:=n1_;have BK2:=n2_;have GE2:=n4_;clear n0_ n1_ n2_ n3_ n4_ n5_ n6_;clear hb hbox hg)|((with_reducible refine gate_callee (f:=106) rfl ?_);refine gl_ (some 14) Try.func106 #[.slice A0 l0.length c0, .string a1] ?_;(with_reducible refine (r10_Up.calls k _ _ l0 a1 t3 _ ?side1 ?side2 A4.out).mono ?_);(case side1=>exact zc_ (Kd.C_below HR0.out HB.out));(case side2=>exact HC0.out);rintro e w71 ⟨v4,rfl,ho0,hb⟩;refine ⟨_,rfl, ?_⟩;have HO5:=am_ (Kd.R_lower ho0 (below_size (zl2_ HB GE1 GE2)));replace BK1:=am_ (blk_below (zb_ BK1) hb);replace BK2:=am_ (blk_below (zb_ BK2) hb);replace HB:=am_ (below_step (zl2_ HB GE1 GE2) hb);(try clear hb);(try clear hb2);(try clear hk);(try clear hi);(try clear ho0);obtain ⟨hcz73_0,hcz73_1,hcz73_2⟩:=x3_ BK1)|((with_reducible refine gate_callee (f:=65) rfl ?_);refine gl_ (some 16) Try.func65 #[.agg #[.int .i64 a2_0, .int .i64 a2_1, .int .i64 a2_2]] ?_;(with_reducible refine (r10_MayVec.calls a2_0 a2_1 a2_2 false _ A5.out).mono ?_);rintro e w74 ⟨rfl,hb⟩;refine ⟨_,rfl, ?_⟩;replace HO5:=am_ (Kd.R_below (zr_ HO5) hb);replace BK1:=am_ (blk_below (zb_ BK1) hb);replace BK2:=am_ (blk_below (zb_ BK2) hb);replace HB:=am_ (below_step (zl2_ HB GE1 GE2) hb);(try clear hb);(try clear hb2);(try clear hk);(try clear hi))|((with_reducible refine gate_callee (f:=113) rfl ?_);refine gl_ (some 18) Try.func113 #[.int .i64 1] ?_;(with_reducible refine (r10_no.calls 1 t7 t10 _ A68.out).mono ?_);rintro e w75 ⟨v8,rfl,ho0,hb⟩;refine ⟨_,rfl, ?_⟩;replace HO5:=am_ (Kd.R_below (zr_ HO5) hb);have HO9:=am_ (Kd.R_lower ho0 (below_size (zl2_ HB GE1 GE2)));replace BK1:=am_ (blk_below (zb_ BK1) hb);replace BK2:=am_ (blk_below (zb_ BK2) hb);replace HB:=am_ (below_step (zl2_ HB GE1 GE2) hb);(try clear hb);(try clear hb2);(try clear hk);(try clear hi);(try clear ho0);obtain ⟨Ao76,co76,eo76⟩:=Kd.R_slice HO9.out;subst eo76;obtain ⟨hcz77_0,hcz77_1⟩:=x2_ BK2;have hfz77_0:=blk_frozen BK2.out 0;have hfz77_1:=blk_frozen BK2.out 1))
  refine bodyPost_ret (results_cell_row rfl _ _ gb2 67 #[.slice Ao76 t7.length co76, .int .i64 t10] (0,0) _ rfl (zw_ BK2) Try.underlying67 rfl (by kernel_rfl)) rfl ?_
  exact ⟨_,by first|rfl|(simp [errW_none,errW_some]<;>rfl)|(simp [*,errW_none,errW_some]<;>rfl),zy_ HO9 BK2,zl2_ HB GE1 GE2⟩

 subst c6
 have H1:(if (t3.length:Int)=0 then ((r10_no.f 2).bind fun bt11=>(some (bt11.1,bt11.2))) else ((r10_copied.f l0).bind fun t15=>(r10_Admit.l0 k a1 t3 t15 0 a2_0 a2_1 a2_2)))=some (r1,r2):=by rw [if_pos rfl] at H;exact H
 clear H
 have H:=H1
 clear H1
 by_cases c7:(t3.length:Int)=0
 ·rw [if_pos c7] at H
  have c7b0:((t3.length:Int)==0)=true:=beq_iff_eq.mpr c7
  clear c7
  replace H:=Option.bind_eq_some_iff.mp H
  obtain ⟨⟨t11,t14⟩,A80,H⟩:=H
  try dsimp only at H
  have A8:=Aside0.mk A80
  clear A80
  simp only [Option.some.injEq,Prod.mk.injEq] at H
  obtain ⟨rfl,rfl⟩:=H
  go_enter Try.func66,Try.ntmps66
  go_wp2_with (first|((with_reducible refine gate_dst (N:=5) rfl ?_);refine bx_ (N:=5) (cs:=#[.int .i64 a2_0, .int .i64 a2_1, .int .i64 a2_2]) (t:=27) ?_;intro gb1 hg w9 hbox hb;have n0_:=am_ (below_step (zl0_ HB) hb);have n1_:=am_ (hbox);have n2_:=am_ ((zg0_ HB hg:w.heap.size≤gb1));have n3_:=am_ ((zg0_ HB hg:w.heap.size≤gb1));clear HB;have HB:=n0_;have BK1:=n1_;have GE1:=n3_;clear n0_ n1_ n2_ n3_;clear hb hbox hg)|((with_reducible refine gate_dst (N:=6) rfl ?_);refine bx_ (N:=6) (cs:=#[.slice none 0 0, .int .i64 0]) (t:=67) ?_;intro gb2 hg w10 hbox hb;have n0_:=am_ (blk_below (zb_ BK1) hb);have n1_:=am_ (below_step (zl1_ HB GE1) hb);have n2_:=am_ (hbox);have n3_:=am_ ((zg1_ HB GE1 hg:w.heap.size≤gb2));have n4_:=am_ ((zg1_ HB GE1 hg:w.heap.size≤gb2));have n5_:=am_ ((zn_ BK1 hg:gb1≠gb2));have n6_:=am_ ((zm_ BK1 hg:gb2≠gb1));clear BK1;clear HB;have BK1:=n0_;have HB:=n1_;have BK2:=n2_;have GE2:=n4_;clear n0_ n1_ n2_ n3_ n4_ n5_ n6_;clear hb hbox hg)|((with_reducible refine gate_callee (f:=106) rfl ?_);refine gl_ (some 14) Try.func106 #[.slice A0 l0.length c0, .string a1] ?_;(with_reducible refine (r10_Up.calls k _ _ l0 a1 t3 _ ?side1 ?side2 A4.out).mono ?_);(case side1=>exact zc_ (Kd.C_below HR0.out HB.out));(case side2=>exact HC0.out);rintro e w11 ⟨v4,rfl,ho0,hb⟩;refine ⟨_,rfl, ?_⟩;have HO5:=am_ (Kd.R_lower ho0 (below_size (zl2_ HB GE1 GE2)));replace BK1:=am_ (blk_below (zb_ BK1) hb);replace BK2:=am_ (blk_below (zb_ BK2) hb);replace HB:=am_ (below_step (zl2_ HB GE1 GE2) hb);(try clear hb);(try clear hb2);(try clear hk);(try clear hi);(try clear ho0);obtain ⟨hcz13_0,hcz13_1,hcz13_2⟩:=x3_ BK1)|((with_reducible refine gate_callee (f:=65) rfl ?_);refine gl_ (some 16) Try.func65 #[.agg #[.int .i64 a2_0, .int .i64 a2_1, .int .i64 a2_2]] ?_;(with_reducible refine (r10_MayVec.calls a2_0 a2_1 a2_2 true _ A5.out).mono ?_);rintro e w14 ⟨rfl,hb⟩;refine ⟨_,rfl, ?_⟩;replace HO5:=am_ (Kd.R_below (zr_ HO5) hb);replace BK1:=am_ (blk_below (zb_ BK1) hb);replace BK2:=am_ (blk_below (zb_ BK2) hb);replace HB:=am_ (below_step (zl2_ HB GE1 GE2) hb);(try clear hb);(try clear hb2);(try clear hk);(try clear hi);obtain ⟨Ao15,co15,eo15⟩:=Kd.R_slice HO5.out;subst eo15)|((with_reducible refine gate_callee (f:=113) rfl ?_);refine gl_ (some 22) Try.func113 #[.int .i64 2] ?_;(with_reducible refine (r10_no.calls 2 t11 t14 _ A8.out).mono ?_);rintro e w16 ⟨v12,rfl,ho0,hb⟩;refine ⟨_,rfl, ?_⟩;replace HO5:=am_ (Kd.R_below (zr_ HO5) hb);have HO13:=am_ (Kd.R_lower ho0 (below_size (zl2_ HB GE1 GE2)));replace BK1:=am_ (blk_below (zb_ BK1) hb);replace BK2:=am_ (blk_below (zb_ BK2) hb);replace HB:=am_ (below_step (zl2_ HB GE1 GE2) hb);(try clear hb);(try clear hb2);(try clear hk);(try clear hi);(try clear ho0);obtain ⟨Ao17,co17,eo17⟩:=Kd.R_slice HO13.out;subst eo17;obtain ⟨hcz18_0,hcz18_1⟩:=x2_ BK2;have hfz18_0:=blk_frozen BK2.out 0;have hfz18_1:=blk_frozen BK2.out 1))
  refine bodyPost_ret (results_cell_row rfl _ _ gb2 67 #[.slice Ao17 t11.length co17, .int .i64 t14] (0,0) _ rfl (zw_ BK2) Try.underlying67 rfl (by kernel_rfl)) rfl ?_
  exact ⟨_,by first|rfl|(simp [errW_none,errW_some]<;>rfl)|(simp [*,errW_none,errW_some]<;>rfl),zy_ HO13 BK2,zl2_ HB GE1 GE2⟩
 rw [if_neg c7] at H
 have c7b0:((t3.length:Int)==0)=false:=beq_eq_false_iff_ne.mpr c7
 replace H:=Option.bind_eq_some_iff.mp H
 obtain ⟨t15,A190,H⟩:=H
 try dsimp only at H
 have A19:=Aside0.mk A190
 clear A190
 have H':=Aside0.mk H
 clear H
 go_enter Try.func66,Try.ntmps66
 go_wp2_with (first|((with_reducible refine gate_dst (N:=5) rfl ?_);refine bx_ (N:=5) (cs:=#[.int .i64 a2_0, .int .i64 a2_1, .int .i64 a2_2]) (t:=27) ?_;intro gb1 hg w20 hbox hb;have n0_:=am_ (below_step (zl0_ HB) hb);have n1_:=am_ (hbox);have n2_:=am_ ((zg0_ HB hg:w.heap.size≤gb1));have n3_:=am_ ((zg0_ HB hg:w.heap.size≤gb1));clear HB;have HB:=n0_;have BK1:=n1_;have GE1:=n3_;clear n0_ n1_ n2_ n3_;clear hb hbox hg)|((with_reducible refine gate_dst (N:=6) rfl ?_);refine bx_ (N:=6) (cs:=#[.slice none 0 0, .int .i64 0]) (t:=67) ?_;intro gb2 hg w21 hbox hb;have n0_:=am_ (blk_below (zb_ BK1) hb);have n1_:=am_ (below_step (zl1_ HB GE1) hb);have n2_:=am_ (hbox);have n3_:=am_ ((zg1_ HB GE1 hg:w.heap.size≤gb2));have n4_:=am_ ((zg1_ HB GE1 hg:w.heap.size≤gb2));have n5_:=am_ ((zn_ BK1 hg:gb1≠gb2));have n6_:=am_ ((zm_ BK1 hg:gb2≠gb1));clear BK1;clear HB;have BK1:=n0_;have HB:=n1_;have BK2:=n2_;have GE2:=n4_;clear n0_ n1_ n2_ n3_ n4_ n5_ n6_;clear hb hbox hg)|((with_reducible refine gate_callee (f:=106) rfl ?_);refine gl_ (some 14) Try.func106 #[.slice A0 l0.length c0, .string a1] ?_;(with_reducible refine (r10_Up.calls k _ _ l0 a1 t3 _ ?side1 ?side2 A4.out).mono ?_);(case side1=>exact zc_ (Kd.C_below HR0.out HB.out));(case side2=>exact HC0.out);rintro e w22 ⟨v4,rfl,ho0,hb⟩;refine ⟨_,rfl, ?_⟩;have HO5:=am_ (Kd.R_lower ho0 (below_size (zl2_ HB GE1 GE2)));replace BK1:=am_ (blk_below (zb_ BK1) hb);replace BK2:=am_ (blk_below (zb_ BK2) hb);replace HB:=am_ (below_step (zl2_ HB GE1 GE2) hb);(try clear hb);(try clear hb2);(try clear hk);(try clear hi);(try clear ho0);obtain ⟨hcz24_0,hcz24_1,hcz24_2⟩:=x3_ BK1)|((with_reducible refine gate_callee (f:=65) rfl ?_);refine gl_ (some 16) Try.func65 #[.agg #[.int .i64 a2_0, .int .i64 a2_1, .int .i64 a2_2]] ?_;(with_reducible refine (r10_MayVec.calls a2_0 a2_1 a2_2 true _ A5.out).mono ?_);rintro e w25 ⟨rfl,hb⟩;refine ⟨_,rfl, ?_⟩;replace HO5:=am_ (Kd.R_below (zr_ HO5) hb);replace BK1:=am_ (blk_below (zb_ BK1) hb);replace BK2:=am_ (blk_below (zb_ BK2) hb);replace HB:=am_ (below_step (zl2_ HB GE1 GE2) hb);(try clear hb);(try clear hb2);(try clear hk);(try clear hi);obtain ⟨Ao26,co26,eo26⟩:=Kd.R_slice HO5.out;subst eo26)|((with_reducible refine gate_callee (f:=124) rfl ?_);refine gl_ (some 24) Try.func124 #[.slice A0 l0.length c0] ?_;(with_reducible refine (r10_copied.calls _ _ l0 t15 _ ?side1 ?side2 A19.out).mono ?_);(case side1=>exact zc_ (Kd.C_below HR0.out HB.out));(case side2=>exact HC0.out);rintro e w27 ⟨v16,rfl,ho0,hb⟩;refine ⟨_,rfl, ?_⟩;replace HO5:=am_ (Kd.R_below (zr_ HO5) hb);have HO17:=am_ (Kd.R_lower ho0 (below_size (zl2_ HB GE1 GE2)));replace BK1:=am_ (blk_below (zb_ BK1) hb);replace BK2:=am_ (blk_below (zb_ BK2) hb);replace HB:=am_ (below_step (zl2_ HB GE1 GE2) hb);(try clear hb);(try clear hb2);(try clear hk);(try clear hi);(try clear ho0)))
 go_loopg [9] k (fun kq v9 w'=> ∃(x8_1:List (S31)) (x9_1:Int) (x3001_1:Int),v9= .int .i64 x9_1∧Aside0 (r10_Admit.l0 kq a1 t3 x8_1 x9_1 a2_0 a2_1 a2_2=some (r1,r2))∧Aside0 (kq≤k)∧Aside0 (Kd.R Kd.string 9 w' w.heap.size (fun _=>True) (.slice Ao26 t3.length co26) t3)∧Aside0 (Kd.R k31 31 w' w.heap.size (fun _=>True) v16 x8_1)∧Aside0 (w'.heap[gb1]?=some (.cells #[.int .i64 a2_0, .int .i64 a2_1, .int .i64 a2_2] 27 (0,0)))∧Aside0 (w'.heap[gb2]?=some (.cells #[(.slice none 0 0), .int .i64 x3001_1] 67 (0,0)))∧Aside0 (Below w.heap.size w w'))
 case atStart=>exact ⟨(t15),(0),(0),(by first|rfl|(simp;done)|(simp [*];done)),H',⟨Nat.le_refl _⟩,⟨by (with_reducible repeat (first|apply Kd.R_alloc|apply Kd.R_drewN|apply Kd.R_drew));exact HO5.out⟩,⟨by (with_reducible repeat (first|apply Kd.R_alloc|apply Kd.R_drewN|apply Kd.R_drew));exact HO17.out⟩,⟨by refine zk_ ?_;exact BK1.out⟩,⟨by refine zk_ ?_;exact BK2.out⟩,⟨zl2_ HB GE1 GE2⟩⟩
 case round=>
  clear H'
  try clear c1
  try clear c2
  try clear p2
  try clear c6
  try clear c7
  try clear c7b0
  try clear c10
  try clear c11
  try clear c12
  try clear c23
  try clear hcz13_0
  try clear hcz13_1
  try clear hcz13_2
  try clear hcz18_0
  try clear hcz18_1
  try clear hcz24_0
  try clear hcz24_1
  try clear hcz24_2
  try clear hfz18_0
  try clear hfz18_1
  obtain ⟨x8_1,x9_1,x3001_1,rfl,HA,HK1,HO_7,HO_8,BK1,BK2,HB⟩:=hrel
  cases gk with
  |zero=>exact absurd HA.out (by simp [r10_Admit.l0])
  |succ k1=>
   have H:=HA.out
   clear HA
   simp only [r10_Admit.l0] at H
   by_cases c28:x9_1<(t3.length:Int)
   rotate_left
   ·rw [if_neg c28] at H
    have c28b0:decide (x9_1<(t3.length:Int))=false:=decide_eq_false c28
    clear c28
    replace H:=Option.bind_eq_some_iff.mp H
    obtain ⟨t18,A560,H⟩:=H
    try dsimp only at H
    have A56:=Aside0.mk A560
    clear A560
    by_cases c57:0≤t18
    rotate_left
    ·rw [if_neg c57] at H
     exact absurd H (by simp)
    rw [if_pos c57] at H
    have c57b0:decide (0≤t18)=true:=decide_eq_true c57
    clear c57
    by_cases c58:t18<(x8_1.length:Int)
    rotate_left
    ·rw [if_neg c58] at H
     exact absurd H (by simp)
    rw [if_pos c58] at H
    have c58b0:decide (t18<(x8_1.length:Int))=true:=decide_eq_true c58
    clear c58
    replace H:=Option.bind_eq_some_iff.mp H
    obtain ⟨⟨t20,t21,t22⟩,A590,H⟩:=H
    try dsimp only at H
    have A59:=Aside0.mk A590
    clear A590
    obtain ⟨y23,hy23⟩: ∃y_:List (S31),y_=(x8_1.set (t18:Int).toNat (⟨(rd_T31 x8_1 t18).f0,(rd_T31 x8_1 t18).f1,(⟨(rd_T31 x8_1 t18).f2.f0,(rd_T31 x8_1 t18).f2.f1,(rd_T31 x8_1 t18).f2.f2⟩:S27),(⟨t20,t21,t22⟩:S27),(⟨(rd_T31 x8_1 t18).f4.f0,(rd_T31 x8_1 t18).f4.f1,(rd_T31 x8_1 t18).f4.f2⟩:S27),(rd_T31 x8_1 t18).f5⟩:S31)):=⟨_,rfl⟩
    replace H:(some (y23,0))=some (r1,r2):=by first|(rw [hy23];with_reducible exact H)|(have H2_:=(Option.bind_some _ _).symm.trans H;rw [hy23];with_reducible exact H2_)|(have H2_:=(Option.bind_some _ _).symm.trans H;with_reducible exact H2_)|with_reducible exact H|(rw [hy23];exact H)|exact H
    have Ny23:=Aside0.mk hy23
    clear hy23
    simp only [Option.some.injEq,Prod.mk.injEq] at H
    obtain ⟨rfl,rfl⟩:=H
    obtain ⟨Ao61,co61,eo61⟩:=Kd.R_slice HO_8.out
    subst eo61
    try go_wp2_with (first|((with_reducible refine gate_callee (f:=50) rfl ?_);refine gl_ (some 63) Try.func50 #[.slice Ao61 x8_1.length co61, .string a1] ?_;(with_reducible refine (r10_Find.calls k1 _ _ x8_1 a1 t18 _ ?side1 ?side2 A56.out).mono ?_);(case side1=>exact zc_ (Kd.R_reads' HO_8.out).2.2);(case side2=>exact (Kd.R_reads' HO_8.out).2.1);rintro e w' ⟨rfl,⟨nd,rfl⟩⟩;refine ⟨_,rfl, ?_⟩;(try (rw [drewN_self wr];generalize hq_:World.drewN wr _=wr;have n0_:Aside0 (Kd.R Kd.string 9 wr w.heap.size (fun _=>True) (.slice Ao26 t3.length co26) t3):=⟨by rw [←hq_];exact (zr_ HO_7)⟩;have n1_:Aside0 (Kd.R k31 31 wr w.heap.size (fun _=>True) (.slice Ao61 x8_1.length co61) x8_1):=⟨by rw [←hq_];exact (zr_ HO_8)⟩;have n2_:Aside0 (wr.heap[gb1]?=some (.cells #[.int .i64 a2_0, .int .i64 a2_1, .int .i64 a2_2] 27 (0,0))):=⟨by rw [←hq_];exact (zb_ BK1)⟩;have n3_:Aside0 (wr.heap[gb2]?=some (.cells #[.slice none 0 0, .int .i64 x3001_1] 67 (0,0))):=⟨by rw [←hq_];exact (zb_ BK2)⟩;have n4_:Aside0 (Below w.heap.size w wr):=⟨by rw [←hq_];exact (zl2_ HB GE1 GE2)⟩;clear HO_7 HO_8 BK1 BK2 HB hq_;have HO_7:=n0_;have HO_8:=n1_;have BK1:=n2_;have BK2:=n3_;have HB:=n4_;clear n0_ n1_ n2_ n3_ n4_))))
    replace HO_7:=am_ (Kd.R_drew HO_7.out)
    replace HO_8:=am_ (Kd.R_drew HO_8.out)
    replace BK1:=am_ (blk_drew BK1.out)
    replace BK2:=am_ (blk_drew BK2.out)
    replace HB:=am_ (below_drew1 HB.out)
    have p19:0≤(t18:Int):=of_decide_eq_true zq_
    have q19:t18<(x8_1.length:Int):=of_decide_eq_true zq_
    obtain ⟨ad19,e19,hx19_0,hx19_1,hx19_2,hx19_3,hx19_4,hx19_5,hx19_6,hx19_7,hx19_8,hx19_9,hx19_10,hx19_11⟩:=at_T31 (Kd.R_reads' HO_8.out).2.2 t18 p19 q19
    cases e19
    replace p19:=eq_true p19
    replace q19:=eq_true q19
    refine start_ (n:=12) (S:=fun w'=>w'.cell? ⟨gb1,0,none⟩=some (.int .i64 a2_0)∧w'.cell? ⟨gb1,1,none⟩=some (.int .i64 a2_1)∧w'.cell? ⟨gb1,2,none⟩=some (.int .i64 a2_2)∧w'.cell? (ad19.add ((t18).toNat*12))=some (.string ((rd_T31 x8_1 t18).f0))∧w'.cell? ⟨(ad19.add ((t18).toNat*12)).block,(ad19.add ((t18).toNat*12)).off+1,none⟩=some (.string ((rd_T31 x8_1 t18).f1))∧w'.cell? ⟨(ad19.add ((t18).toNat*12)).block,(ad19.add ((t18).toNat*12)).off+2,none⟩=some (.int .i64 ((rd_T31 x8_1 t18).f2.f0))∧w'.cell? ⟨(ad19.add ((t18).toNat*12)).block,(ad19.add ((t18).toNat*12)).off+3,none⟩=some (.int .i64 ((rd_T31 x8_1 t18).f2.f1))∧w'.cell? ⟨(ad19.add ((t18).toNat*12)).block,(ad19.add ((t18).toNat*12)).off+4,none⟩=some (.int .i64 ((rd_T31 x8_1 t18).f2.f2))∧w'.cell? ⟨(ad19.add ((t18).toNat*12)).block,(ad19.add ((t18).toNat*12)).off+5,none⟩=some (.int .i64 ((rd_T31 x8_1 t18).f3.f0))∧w'.cell? ⟨(ad19.add ((t18).toNat*12)).block,(ad19.add ((t18).toNat*12)).off+6,none⟩=some (.int .i64 ((rd_T31 x8_1 t18).f3.f1))∧w'.cell? ⟨(ad19.add ((t18).toNat*12)).block,(ad19.add ((t18).toNat*12)).off+7,none⟩=some (.int .i64 ((rd_T31 x8_1 t18).f3.f2))∧w'.cell? ⟨(ad19.add ((t18).toNat*12)).block,(ad19.add ((t18).toNat*12)).off+8,none⟩=some (.int .i64 ((rd_T31 x8_1 t18).f4.f0))∧w'.cell? ⟨(ad19.add ((t18).toNat*12)).block,(ad19.add ((t18).toNat*12)).off+9,none⟩=some (.int .i64 ((rd_T31 x8_1 t18).f4.f1))∧w'.cell? ⟨(ad19.add ((t18).toNat*12)).block,(ad19.add ((t18).toNat*12)).off+10,none⟩=some (.int .i64 ((rd_T31 x8_1 t18).f4.f2))∧w'.cell? ⟨(ad19.add ((t18).toNat*12)).block,(ad19.add ((t18).toNat*12)).off+11,none⟩=some (.int .i64 ((rd_T31 x8_1 t18).f5))) (ds:=[11]) (bt_ 12 0) (by kernel_rfl) rfl rfl ⟨(blk_cell BK1.out 0).trans rfl,(blk_cell BK1.out 1).trans rfl,(blk_cell BK1.out 2).trans rfl,hx19_0,hx19_1,hx19_2,hx19_3,hx19_4,hx19_5,hx19_6,hx19_7,hx19_8,hx19_9,hx19_10,hx19_11⟩ (fun hHeld=> ?_);refine with_tabW r10_Admit.tab15 r10_Admit.bits15 (fun HT_ HW_=> ?_)
    generalize wr.drew=w62 at HO_7 HO_8 BK1 BK2 HB hx19_0 hx19_1 hx19_10 hx19_11 hx19_2 hx19_3 hx19_4 hx19_5 hx19_6 hx19_7 hx19_8 hx19_9 hHeld ⊢
    refine pu_ (i:=0) (N:=some 64) (bt_ 12 1) HT_ ?_
    refine pu_ (i:=1) (N:=some 65) (bt_ 12 3) HT_ ?_
    refine pu_ (i:=2) (N:=some 66) (bt_ 12 7) HT_ ?_
    refine pu_ (i:=3) (N:=some 67) (bt_ 12 15) HT_ ?_
    refine pu_ (i:=4) (N:=some 68) (bt_ 12 31) HT_ ?_
    refine pu_ (i:=5) (N:=some 69) (bt_ 12 63) HT_ ?_
    refine tk_ (i:=6) (N:=some 70) (bt_ 12 127) HT_ HW_ hHeld ?_
    refine tk_ (i:=7) (N:=some 71) (bt_ 12 255) HT_ HW_ hHeld ?_
    refine on_ (i:=8) (N:=some 72) (bt_ 12 511) HT_ (fun K hK=> ?_)
    refine gs_ Try.func63 #[.agg #[.int .i64 ((rd_T31 x8_1 t18).f3.f0), .int .i64 ((rd_T31 x8_1 t18).f3.f1), .int .i64 ((rd_T31 x8_1 t18).f3.f2)], .agg #[.int .i64 a2_0, .int .i64 a2_1, .int .i64 a2_2]] ?_
    with_reducible refine (r10_Add.calls ((rd_T31 x8_1 t18).f3.f0) ((rd_T31 x8_1 t18).f3.f1) ((rd_T31 x8_1 t18).f3.f2) a2_0 a2_1 a2_2 t20 t21 t22 _ A59.out).mono ?_
    rintro e w63 ⟨rfl,hb⟩
    have HS3_:=zh_ hb (hHeld.2.2.2.1)
    have HS4_:=zh_ hb (hHeld.2.2.2.2.1)
    have HS5_:=zh_ hb (hHeld.2.2.2.2.2.1)
    have HS6_:=zh_ hb (hHeld.2.2.2.2.2.2.1)
    have HS7_:=zh_ hb (hHeld.2.2.2.2.2.2.2.1)
    have HS8_:=zh_ hb (hHeld.2.2.2.2.2.2.2.2.1)
    have HS9_:=zh_ hb (hHeld.2.2.2.2.2.2.2.2.2.1)
    have HS10_:=zh_ hb (hHeld.2.2.2.2.2.2.2.2.2.2.1)
    have HS11_:=zh_ hb (hHeld.2.2.2.2.2.2.2.2.2.2.2.1)
    have HS12_:=zh_ hb (hHeld.2.2.2.2.2.2.2.2.2.2.2.2.1)
    have HS13_:=zh_ hb (hHeld.2.2.2.2.2.2.2.2.2.2.2.2.2.1)
    have HS14_:=zh_ hb (hHeld.2.2.2.2.2.2.2.2.2.2.2.2.2.2)
    refine ⟨_,rfl, ?_⟩
    replace HO_7:=am_ (Kd.R_below (zr_ HO_7) hb)
    replace HO_8:=am_ (Kd.R_below (zr_ HO_8) hb)
    replace BK1:=am_ (blk_below (zb_ BK1) hb)
    replace BK2:=am_ (blk_below (zb_ BK2) hb)
    replace HB:=am_ (below_step (zl2_ HB GE1 GE2) hb)
    (try clear hb)
    (try clear hb2)
    (try clear hk)
    (try clear hi)
    have p60:0≤(t18:Int):=of_decide_eq_true zq_
    have q60:(t18:Int)<((x8_1.length:Int):Int):=of_decide_eq_true zq_
    obtain ⟨go60,co60,eo60,gb60,gl60,cl60,HG60⟩:=Kd.R_form HO_8.out (by omega)
    (first|cases eo60|(injection eo60 with ea_ en_ ec_;(first|subst ea_|(injection ea_ with ea_;subst ea_));subst ec_;clear en_))
    have GB60:=Aside0.mk gb60
    have GG60:=Aside0.mk HG60
    clear gb60 gl60 HG60
    replace hx19_0:=zv_ hx19_0
    replace hx19_1:=zv_ hx19_1
    replace hx19_2:=zv_ hx19_2
    replace hx19_3:=zv_ hx19_3
    replace hx19_4:=zv_ hx19_4
    replace hx19_5:=zv_ hx19_5
    replace hx19_6:=zv_ hx19_6
    replace hx19_7:=zv_ hx19_7
    replace hx19_8:=zv_ hx19_8
    replace hx19_9:=zv_ hx19_9
    replace hx19_10:=zv_ hx19_10
    replace hx19_11:=zv_ hx19_11
    obtain ⟨ce60,hcl60,hM60,hcc60,hfr60⟩:=Kd.R_elem HO_8.out z31 (t18:Int) p60 q60
    obtain rfl:=k31_openM hM60
    have hx60_5:World.cell? _ ⟨go60,(t18:Int).toNat*12+5,none⟩=some (.int .i64 ((rd_T31 x8_1 t18).f3.f0)):=hcc60 5 _ rfl
    have hx60_6:World.cell? _ ⟨go60,(t18:Int).toNat*12+6,none⟩=some (.int .i64 ((rd_T31 x8_1 t18).f3.f1)):=hcc60 6 _ rfl
    have hx60_7:World.cell? _ ⟨go60,(t18:Int).toNat*12+7,none⟩=some (.int .i64 ((rd_T31 x8_1 t18).f3.f2)):=hcc60 7 _ rfl
    have hf60_5:World.frozen? _ ⟨go60,(t18:Int).toNat*12+5,none⟩=false:=hfr60 5
    have hf60_6:World.frozen? _ ⟨go60,(t18:Int).toNat*12+6,none⟩=false:=hfr60 6
    have hf60_7:World.frozen? _ ⟨go60,(t18:Int).toNat*12+7,none⟩=false:=hfr60 7
    clear hcl60 hcc60 hfr60 hM60
    replace p60:=eq_true p60
    replace q60:=eq_true q60
    obtain ⟨ce64,hcl64,hM64,hcc64,hfr64⟩:=Kd.R_elem HO_8.out z31 (t18:Int) (of_decide_eq_true zq_) (by have h_:(t18:Int)<((x8_1.length:Int):Int):=of_decide_eq_true zq_;first|exact h_|(have e_:=(Kd.R_reads' HO_8.out).1;omega)|simpa using h_)
    obtain rfl:=k31_openM hM64
    have HP64:=(Kd.R_seg HO_8.out (t18:Int) (of_decide_eq_true zq_) (by have h_:(t18:Int)<((x8_1.length:Int):Int):=of_decide_eq_true zq_;first|exact h_|(have e_:=(Kd.R_reads' HO_8.out).1;omega)|simpa using h_) (seg:=[.int .i64 t20, .int .i64 t21, .int .i64 t22]) (j:=5) hcl64 hcc64 (show 8≤12 from by decide) (x':=(⟨(rd_T31 x8_1 t18).f0,(rd_T31 x8_1 t18).f1,(⟨(rd_T31 x8_1 t18).f2.f0,(rd_T31 x8_1 t18).f2.f1,(rd_T31 x8_1 t18).f2.f2⟩:S27),(⟨t20,t21,t22⟩:S27),(⟨(rd_T31 x8_1 t18).f4.f0,(rd_T31 x8_1 t18).f4.f1,(rd_T31 x8_1 t18).f4.f2⟩:S27),(rd_T31 x8_1 t18).f5⟩:S31)) (k31_mkM _ _ _ (⟨(rd_T31 x8_1 t18).f0,(rd_T31 x8_1 t18).f1,(⟨(rd_T31 x8_1 t18).f2.f0,(rd_T31 x8_1 t18).f2.f1,(rd_T31 x8_1 t18).f2.f2⟩:S27),(⟨t20,t21,t22⟩:S27),(⟨(rd_T31 x8_1 t18).f4.f0,(rd_T31 x8_1 t18).f4.f1,(rd_T31 x8_1 t18).f4.f2⟩:S27),(rd_T31 x8_1 t18).f5⟩:S31)) (fun _ hk=>hk)).1
    rw [←Ny23.out] at HP64
    have HQ64:=Aside0.mk HP64
    clear hcl64 hcc64 hfr64 hM64 HP64
    refine hK.out _ _ ⟨(blk_cell BK1.out 0).trans rfl,(blk_cell BK1.out 1).trans rfl,(blk_cell BK1.out 2).trans rfl,HS3_,HS4_,HS5_,HS6_,HS7_,HS8_,HS9_,HS10_,HS11_,HS12_,HS13_,HS14_⟩ (fun hHeld=> ?_)
    clear hK K
    refine no_ (N:=some 72) ?_
    refine pu_ (i:=9) (N:=some 73) (bt_ 12 1023) HT_ ?_
    refine pu_ (i:=10) (N:=some 74) (bt_ 12 2047) HT_ ?_
    refine last_ (i:=11) (N:=none) (bt_ 12 4095) rfl rfl (one_of HT_.out (by kernel_rfl)) (by decide) (fun K hK=> ?_)
    refine skip_ (w1:= ?_) (by rfl) rfl ?_ ?_
    rotate_left
    ·go_simp
     rfl
    refine hK.out _ _ ?_
    clear hK K
    refine done_ (done_of HT_.out (by kernel_rfl)) ?_
    have n0_:Aside0 (Kd.R Kd.string 9 (((w63.setCell ⟨go60,(t18:Int).toNat*12+5,none⟩ (.int .i64 t20)).setCell ⟨go60,(t18:Int).toNat*12+6,none⟩ (.int .i64 t21)).setCell ⟨go60,(t18:Int).toNat*12+7,none⟩ (.int .i64 t22)) w.heap.size (fun _=>True) (.slice Ao26 t3.length co26) t3):=⟨by (with_reducible repeat (first|apply Kd.R_alloc|apply Kd.R_drewN|apply Kd.R_drew));exact Kd.R_mono (Kd.R_far (p:=⟨go60,(t18:Int).toNat*12+7,none⟩) (Kd.R_far (p:=⟨go60,(t18:Int).toNat*12+6,none⟩) (Kd.R_far (p:=⟨go60,(t18:Int).toNat*12+5,none⟩) (Kd.R_types HO_7.out GG60.out (by decide)) (fun _ hk=>hk.2) (.int .i64 t20)) (fun _ hk=>hk.2) (.int .i64 t21)) (fun _ hk=>hk.2) (.int .i64 t22)) (fun _ hk=>trivial)⟩
    have n1_:Aside0 (Kd.R k31 31 (((w63.setCell ⟨go60,(t18:Int).toNat*12+5,none⟩ (.int .i64 t20)).setCell ⟨go60,(t18:Int).toNat*12+6,none⟩ (.int .i64 t21)).setCell ⟨go60,(t18:Int).toNat*12+7,none⟩ (.int .i64 t22)) w.heap.size (fun _=>True) (.slice (some ⟨go60,0,none⟩) x8_1.length co61) y23):=⟨by (with_reducible repeat (first|apply Kd.R_alloc|apply Kd.R_drewN|apply Kd.R_drew));exact HQ64.out⟩
    have n2_:Aside0 ((((w63.setCell ⟨go60,(t18:Int).toNat*12+5,none⟩ (.int .i64 t20)).setCell ⟨go60,(t18:Int).toNat*12+6,none⟩ (.int .i64 t21)).setCell ⟨go60,(t18:Int).toNat*12+7,none⟩ (.int .i64 t22)).heap[gb1]?=some (.cells #[.int .i64 a2_0, .int .i64 a2_1, .int .i64 a2_2] 27 (0,0))):=⟨by refine zk_ ?_;refine blk_far ?_ (by have h_:=Kd.R_ne HO_8.out BK1.out (by decide);intro e_;exact h_ (by rw [e_];rfl)) _;refine zk_ ?_;refine blk_far ?_ (by have h_:=Kd.R_ne HO_8.out BK1.out (by decide);intro e_;exact h_ (by rw [e_];rfl)) _;refine zk_ ?_;refine blk_far ?_ (by have h_:=Kd.R_ne HO_8.out BK1.out (by decide);intro e_;exact h_ (by rw [e_];rfl)) _;refine zk_ ?_;exact BK1.out⟩
    have n3_:Aside0 ((((w63.setCell ⟨go60,(t18:Int).toNat*12+5,none⟩ (.int .i64 t20)).setCell ⟨go60,(t18:Int).toNat*12+6,none⟩ (.int .i64 t21)).setCell ⟨go60,(t18:Int).toNat*12+7,none⟩ (.int .i64 t22)).heap[gb2]?=some (.cells #[.slice none 0 0, .int .i64 x3001_1] 67 (0,0))):=⟨by refine zk_ ?_;refine blk_far ?_ (by have h_:=Kd.R_ne HO_8.out BK2.out (by decide);intro e_;exact h_ (by rw [e_];rfl)) _;refine zk_ ?_;refine blk_far ?_ (by have h_:=Kd.R_ne HO_8.out BK2.out (by decide);intro e_;exact h_ (by rw [e_];rfl)) _;refine zk_ ?_;refine blk_far ?_ (by have h_:=Kd.R_ne HO_8.out BK2.out (by decide);intro e_;exact h_ (by rw [e_];rfl)) _;refine zk_ ?_;exact BK2.out⟩
    have n4_:Aside0 (Below w.heap.size w (((w63.setCell ⟨go60,(t18:Int).toNat*12+5,none⟩ (.int .i64 t20)).setCell ⟨go60,(t18:Int).toNat*12+6,none⟩ (.int .i64 t21)).setCell ⟨go60,(t18:Int).toNat*12+7,none⟩ (.int .i64 t22))):=⟨by repeat (first|(with_reducible first|exact HB.out|apply below_alloc|apply pw_below_drewN|apply below_drew1|refine below_set ?_ GB60.out|refine below_set ?_ GB60.out|refine below_set ?_ GB60.out|refine below_set ?_ GE1.out|refine below_set ?_ GE2.out)|exact HB.out)⟩
    (try clear HO_7)
    (try clear HO_8)
    (try clear BK1)
    (try clear BK2)
    (try clear HB)
    generalize (((w63.setCell ⟨go60,(t18:Int).toNat*12+5,none⟩ (.int .i64 t20)).setCell ⟨go60,(t18:Int).toNat*12+6,none⟩ (.int .i64 t21)).setCell ⟨go60,(t18:Int).toNat*12+7,none⟩ (.int .i64 t22))=w65 at n0_ n1_ n2_ n3_ n4_ ⊢
    have HO_7:=n0_
    have HO_8:=n1_
    have BK1:=n2_
    have BK2:=n3_
    have HB:=n4_
    clear n0_ n1_ n2_ n3_ n4_
    obtain ⟨hcz67_0,hcz67_1,hfz67_0,hfz67_1⟩:=y2_ BK2
    try go_wp2
    refine bodyPost_ret (results_cell_row rfl _ _ gb2 67 #[.slice (some ⟨go60,0,none⟩) x8_1.length co61, .int .i64 0] (0,0) _ rfl (zw_ BK2) Try.underlying67 rfl (by kernel_rfl)) rfl ?_
    exact ⟨_,by first|rfl|(simp [errW_none,errW_some]<;>rfl)|(simp [*,errW_none,errW_some]<;>rfl),zy_ HO_8 BK2,zl2_ HB GE1 GE2⟩
   rw [if_pos c28] at H
   have c28b0:decide (x9_1<(t3.length:Int))=true:=decide_eq_true c28
   clear c28
   by_cases c29:0≤x9_1
   rotate_left
   ·rw [if_neg c29] at H
    exact absurd H (by simp)
   rw [if_pos c29] at H
   have c29b0:decide (0≤x9_1)=true:=decide_eq_true c29
   clear c29
   replace H:=Option.bind_eq_some_iff.mp H
   obtain ⟨t25,A300,H⟩:=H
   try dsimp only at H
   have A30:=Aside0.mk A300
   clear A300
   by_cases c31:0≤t25
   rotate_left
   ·rw [if_neg c31] at H
    exact absurd H (by simp)
   rw [if_pos c31] at H
   have c31b0:decide (0≤t25)=true:=decide_eq_true c31
   clear c31
   by_cases c32:t25<(x8_1.length:Int)
   rotate_left
   ·rw [if_neg c32] at H
    exact absurd H (by simp)
   rw [if_pos c32] at H
   have c32b0:decide (t25<(x8_1.length:Int))=true:=decide_eq_true c32
   clear c32
   replace H:=Option.bind_eq_some_iff.mp H
   obtain ⟨⟨t27,t28,t29⟩,A330,H⟩:=H
   try dsimp only at H
   have A33:=Aside0.mk A330
   clear A330
   obtain ⟨y30,hy30⟩: ∃y_:List (S31),y_=(x8_1.set (t25:Int).toNat (⟨(rd_T31 x8_1 t25).f0,(rd_T31 x8_1 t25).f1,(⟨(rd_T31 x8_1 t25).f2.f0,(rd_T31 x8_1 t25).f2.f1,(rd_T31 x8_1 t25).f2.f2⟩:S27),(⟨(rd_T31 x8_1 t25).f3.f0,(rd_T31 x8_1 t25).f3.f1,(rd_T31 x8_1 t25).f3.f2⟩:S27),(⟨t27,t28,t29⟩:S27),(rd_T31 x8_1 t25).f5⟩:S31)):=⟨_,rfl⟩
   replace H:((r10_Le.f ((rd_T31 y30 t25).f4.f0) ((rd_T31 y30 t25).f4.f1) ((rd_T31 y30 t25).f4.f2) ((rd_T31 y30 t25).f2.f0) ((rd_T31 y30 t25).f2.f1) ((rd_T31 y30 t25).f2.f2)).bind fun t33=>(if t33=true then (r10_Admit.l0 k1 a1 t3 y30 (wrap64 (x9_1+1)) a2_0 a2_1 a2_2) else ((r10_no.f 12).bind fun bt34=>(some (bt34.1,bt34.2)))))=some (r1,r2):=by first|(rw [hy30];with_reducible exact H)|(have H2_:=(Option.bind_some _ _).symm.trans H;rw [hy30];with_reducible exact H2_)|(have H2_:=(Option.bind_some _ _).symm.trans H;with_reducible exact H2_)|with_reducible exact H|(rw [hy30];exact H)|exact H
   have Ny30:=Aside0.mk hy30
   clear hy30
   replace H:=Option.bind_eq_some_iff.mp H
   obtain ⟨t33,A350,H⟩:=H
   try dsimp only at H
   have A35:=Aside0.mk A350
   clear A350
   by_cases c36:t33=true
   ·subst c36
    have H1:(r10_Admit.l0 k1 a1 t3 y30 (wrap64 (x9_1+1)) a2_0 a2_1 a2_2)=some (r1,r2):=by rw [if_pos rfl] at H;exact H
    clear H
    have H:=H1
    clear H1
    have H':=Aside0.mk H
    clear H
    have p24:0≤(x9_1:Int):=of_decide_eq_true zq_
    have q24:x9_1<(t3.length:Int):=of_decide_eq_true zq_
    obtain ⟨ad24,e24,hx24_0⟩:=Kd.at_string (Kd.R_reads' HO_7.out).2.2 x9_1 p24 q24
    cases e24
    replace p24:=eq_true p24
    replace q24:=eq_true q24
    obtain ⟨Ao37,co37,eo37⟩:=Kd.R_slice HO_8.out
    subst eo37
    try go_wp2_with (first|((with_reducible refine gate_callee (f:=50) rfl ?_);refine gl_ (some 36) Try.func50 #[.slice Ao37 x8_1.length co37, .string (rdOf ByteArray.empty t3 x9_1)] ?_;(with_reducible refine (r10_Find.calls k1 _ _ x8_1 (rdOf ByteArray.empty t3 x9_1) t25 _ ?side1 ?side2 A30.out).mono ?_);(case side1=>exact zc_ (Kd.R_reads' HO_8.out).2.2);(case side2=>exact (Kd.R_reads' HO_8.out).2.1);rintro e w' ⟨rfl,⟨nd,rfl⟩⟩;refine ⟨_,rfl, ?_⟩;(try (rw [drewN_self wr];generalize hq_:World.drewN wr _=wr;have n0_:Aside0 (Kd.R Kd.string 9 wr w.heap.size (fun _=>True) (.slice (some ad24) t3.length co26) t3):=⟨by rw [←hq_];exact (zr_ HO_7)⟩;have n1_:Aside0 (Kd.R k31 31 wr w.heap.size (fun _=>True) (.slice Ao37 x8_1.length co37) x8_1):=⟨by rw [←hq_];exact (zr_ HO_8)⟩;have n2_:Aside0 (wr.heap[gb1]?=some (.cells #[.int .i64 a2_0, .int .i64 a2_1, .int .i64 a2_2] 27 (0,0))):=⟨by rw [←hq_];exact (zb_ BK1)⟩;have n3_:Aside0 (wr.heap[gb2]?=some (.cells #[.slice none 0 0, .int .i64 x3001_1] 67 (0,0))):=⟨by rw [←hq_];exact (zb_ BK2)⟩;have n4_:Aside0 (Below w.heap.size w wr):=⟨by rw [←hq_];exact (zl2_ HB GE1 GE2)⟩;clear HO_7 HO_8 BK1 BK2 HB hq_;have HO_7:=n0_;have HO_8:=n1_;have BK1:=n2_;have BK2:=n3_;have HB:=n4_;clear n0_ n1_ n2_ n3_ n4_))))
    replace HO_7:=am_ (Kd.R_drew HO_7.out)
    replace HO_8:=am_ (Kd.R_drew HO_8.out)
    replace BK1:=am_ (blk_drew BK1.out)
    replace BK2:=am_ (blk_drew BK2.out)
    replace HB:=am_ (below_drew1 HB.out)
    have p26:0≤(t25:Int):=of_decide_eq_true zq_
    have q26:t25<(x8_1.length:Int):=of_decide_eq_true zq_
    obtain ⟨ad26,e26,hx26_0,hx26_1,hx26_2,hx26_3,hx26_4,hx26_5,hx26_6,hx26_7,hx26_8,hx26_9,hx26_10,hx26_11⟩:=at_T31 (Kd.R_reads' HO_8.out).2.2 t25 p26 q26
    cases e26
    replace p26:=eq_true p26
    replace q26:=eq_true q26
    refine start_ (n:=12) (S:=fun w'=>w'.cell? ⟨gb1,0,none⟩=some (.int .i64 a2_0)∧w'.cell? ⟨gb1,1,none⟩=some (.int .i64 a2_1)∧w'.cell? ⟨gb1,2,none⟩=some (.int .i64 a2_2)∧w'.cell? (ad26.add ((t25).toNat*12))=some (.string ((rd_T31 x8_1 t25).f0))∧w'.cell? ⟨(ad26.add ((t25).toNat*12)).block,(ad26.add ((t25).toNat*12)).off+1,none⟩=some (.string ((rd_T31 x8_1 t25).f1))∧w'.cell? ⟨(ad26.add ((t25).toNat*12)).block,(ad26.add ((t25).toNat*12)).off+2,none⟩=some (.int .i64 ((rd_T31 x8_1 t25).f2.f0))∧w'.cell? ⟨(ad26.add ((t25).toNat*12)).block,(ad26.add ((t25).toNat*12)).off+3,none⟩=some (.int .i64 ((rd_T31 x8_1 t25).f2.f1))∧w'.cell? ⟨(ad26.add ((t25).toNat*12)).block,(ad26.add ((t25).toNat*12)).off+4,none⟩=some (.int .i64 ((rd_T31 x8_1 t25).f2.f2))∧w'.cell? ⟨(ad26.add ((t25).toNat*12)).block,(ad26.add ((t25).toNat*12)).off+5,none⟩=some (.int .i64 ((rd_T31 x8_1 t25).f3.f0))∧w'.cell? ⟨(ad26.add ((t25).toNat*12)).block,(ad26.add ((t25).toNat*12)).off+6,none⟩=some (.int .i64 ((rd_T31 x8_1 t25).f3.f1))∧w'.cell? ⟨(ad26.add ((t25).toNat*12)).block,(ad26.add ((t25).toNat*12)).off+7,none⟩=some (.int .i64 ((rd_T31 x8_1 t25).f3.f2))∧w'.cell? ⟨(ad26.add ((t25).toNat*12)).block,(ad26.add ((t25).toNat*12)).off+8,none⟩=some (.int .i64 ((rd_T31 x8_1 t25).f4.f0))∧w'.cell? ⟨(ad26.add ((t25).toNat*12)).block,(ad26.add ((t25).toNat*12)).off+9,none⟩=some (.int .i64 ((rd_T31 x8_1 t25).f4.f1))∧w'.cell? ⟨(ad26.add ((t25).toNat*12)).block,(ad26.add ((t25).toNat*12)).off+10,none⟩=some (.int .i64 ((rd_T31 x8_1 t25).f4.f2))∧w'.cell? ⟨(ad26.add ((t25).toNat*12)).block,(ad26.add ((t25).toNat*12)).off+11,none⟩=some (.int .i64 ((rd_T31 x8_1 t25).f5))) (ds:=[11]) (bt_ 12 0) (by kernel_rfl) rfl rfl ⟨(blk_cell BK1.out 0).trans rfl,(blk_cell BK1.out 1).trans rfl,(blk_cell BK1.out 2).trans rfl,hx26_0,hx26_1,hx26_2,hx26_3,hx26_4,hx26_5,hx26_6,hx26_7,hx26_8,hx26_9,hx26_10,hx26_11⟩ (fun hHeld=> ?_);refine with_tabW r10_Admit.tab11 r10_Admit.bits11 (fun HT_ HW_=> ?_)
    generalize wr.drew=w38 at HO_7 HO_8 BK1 BK2 HB hx26_0 hx26_1 hx26_10 hx26_11 hx26_2 hx26_3 hx26_4 hx26_5 hx26_6 hx26_7 hx26_8 hx26_9 hHeld ⊢
    refine pu_ (i:=0) (N:=some 37) (bt_ 12 1) HT_ ?_
    refine pu_ (i:=1) (N:=some 38) (bt_ 12 3) HT_ ?_
    refine pu_ (i:=2) (N:=some 39) (bt_ 12 7) HT_ ?_
    refine pu_ (i:=3) (N:=some 40) (bt_ 12 15) HT_ ?_
    refine pu_ (i:=4) (N:=some 41) (bt_ 12 31) HT_ ?_
    refine pu_ (i:=5) (N:=some 42) (bt_ 12 63) HT_ ?_
    refine tk_ (i:=6) (N:=some 43) (bt_ 12 127) HT_ HW_ hHeld ?_
    refine tk_ (i:=7) (N:=some 44) (bt_ 12 255) HT_ HW_ hHeld ?_
    refine on_ (i:=8) (N:=some 45) (bt_ 12 511) HT_ (fun K hK=> ?_)
    refine gs_ Try.func63 #[.agg #[.int .i64 ((rd_T31 x8_1 t25).f4.f0), .int .i64 ((rd_T31 x8_1 t25).f4.f1), .int .i64 ((rd_T31 x8_1 t25).f4.f2)], .agg #[.int .i64 a2_0, .int .i64 a2_1, .int .i64 a2_2]] ?_
    with_reducible refine (r10_Add.calls ((rd_T31 x8_1 t25).f4.f0) ((rd_T31 x8_1 t25).f4.f1) ((rd_T31 x8_1 t25).f4.f2) a2_0 a2_1 a2_2 t27 t28 t29 _ A33.out).mono ?_
    rintro e w39 ⟨rfl,hb⟩
    have HS3_:=zh_ hb (hHeld.2.2.2.1)
    have HS4_:=zh_ hb (hHeld.2.2.2.2.1)
    have HS5_:=zh_ hb (hHeld.2.2.2.2.2.1)
    have HS6_:=zh_ hb (hHeld.2.2.2.2.2.2.1)
    have HS7_:=zh_ hb (hHeld.2.2.2.2.2.2.2.1)
    have HS8_:=zh_ hb (hHeld.2.2.2.2.2.2.2.2.1)
    have HS9_:=zh_ hb (hHeld.2.2.2.2.2.2.2.2.2.1)
    have HS10_:=zh_ hb (hHeld.2.2.2.2.2.2.2.2.2.2.1)
    have HS11_:=zh_ hb (hHeld.2.2.2.2.2.2.2.2.2.2.2.1)
    have HS12_:=zh_ hb (hHeld.2.2.2.2.2.2.2.2.2.2.2.2.1)
    have HS13_:=zh_ hb (hHeld.2.2.2.2.2.2.2.2.2.2.2.2.2.1)
    have HS14_:=zh_ hb (hHeld.2.2.2.2.2.2.2.2.2.2.2.2.2.2)
    refine ⟨_,rfl, ?_⟩
    replace HO_7:=am_ (Kd.R_below (zr_ HO_7) hb)
    replace HO_8:=am_ (Kd.R_below (zr_ HO_8) hb)
    replace BK1:=am_ (blk_below (zb_ BK1) hb)
    replace BK2:=am_ (blk_below (zb_ BK2) hb)
    replace HB:=am_ (below_step (zl2_ HB GE1 GE2) hb)
    (try clear hb)
    (try clear hb2)
    (try clear hk)
    (try clear hi)
    have p34:0≤(t25:Int):=of_decide_eq_true zq_
    have q34:(t25:Int)<((x8_1.length:Int):Int):=of_decide_eq_true zq_
    obtain ⟨go34,co34,eo34,gb34,gl34,cl34,HG34⟩:=Kd.R_form HO_8.out (by omega)
    (first|cases eo34|(injection eo34 with ea_ en_ ec_;(first|subst ea_|(injection ea_ with ea_;subst ea_));subst ec_;clear en_))
    have GB34:=Aside0.mk gb34
    have GG34:=Aside0.mk HG34
    clear gb34 gl34 HG34
    replace hx26_0:=zv_ hx26_0
    replace hx26_1:=zv_ hx26_1
    replace hx26_2:=zv_ hx26_2
    replace hx26_3:=zv_ hx26_3
    replace hx26_4:=zv_ hx26_4
    replace hx26_5:=zv_ hx26_5
    replace hx26_6:=zv_ hx26_6
    replace hx26_7:=zv_ hx26_7
    replace hx26_8:=zv_ hx26_8
    replace hx26_9:=zv_ hx26_9
    replace hx26_10:=zv_ hx26_10
    replace hx26_11:=zv_ hx26_11
    obtain ⟨ce34,hcl34,hM34,hcc34,hfr34⟩:=Kd.R_elem HO_8.out z31 (t25:Int) p34 q34
    obtain rfl:=k31_openM hM34
    have hx34_8:World.cell? _ ⟨go34,(t25:Int).toNat*12+8,none⟩=some (.int .i64 ((rd_T31 x8_1 t25).f4.f0)):=hcc34 8 _ rfl
    have hx34_9:World.cell? _ ⟨go34,(t25:Int).toNat*12+9,none⟩=some (.int .i64 ((rd_T31 x8_1 t25).f4.f1)):=hcc34 9 _ rfl
    have hx34_10:World.cell? _ ⟨go34,(t25:Int).toNat*12+10,none⟩=some (.int .i64 ((rd_T31 x8_1 t25).f4.f2)):=hcc34 10 _ rfl
    have hf34_8:World.frozen? _ ⟨go34,(t25:Int).toNat*12+8,none⟩=false:=hfr34 8
    have hf34_9:World.frozen? _ ⟨go34,(t25:Int).toNat*12+9,none⟩=false:=hfr34 9
    have hf34_10:World.frozen? _ ⟨go34,(t25:Int).toNat*12+10,none⟩=false:=hfr34 10
    clear hcl34 hcc34 hfr34 hM34
    replace p34:=eq_true p34
    replace q34:=eq_true q34
    obtain ⟨ce40,hcl40,hM40,hcc40,hfr40⟩:=Kd.R_elem HO_8.out z31 (t25:Int) (of_decide_eq_true zq_) (by have h_:(t25:Int)<((x8_1.length:Int):Int):=of_decide_eq_true zq_;first|exact h_|(have e_:=(Kd.R_reads' HO_8.out).1;omega)|simpa using h_)
    obtain rfl:=k31_openM hM40
    have HP40:=(Kd.R_seg HO_8.out (t25:Int) (of_decide_eq_true zq_) (by have h_:(t25:Int)<((x8_1.length:Int):Int):=of_decide_eq_true zq_;first|exact h_|(have e_:=(Kd.R_reads' HO_8.out).1;omega)|simpa using h_) (seg:=[.int .i64 t27, .int .i64 t28, .int .i64 t29]) (j:=8) hcl40 hcc40 (show 11≤12 from by decide) (x':=(⟨(rd_T31 x8_1 t25).f0,(rd_T31 x8_1 t25).f1,(⟨(rd_T31 x8_1 t25).f2.f0,(rd_T31 x8_1 t25).f2.f1,(rd_T31 x8_1 t25).f2.f2⟩:S27),(⟨(rd_T31 x8_1 t25).f3.f0,(rd_T31 x8_1 t25).f3.f1,(rd_T31 x8_1 t25).f3.f2⟩:S27),(⟨t27,t28,t29⟩:S27),(rd_T31 x8_1 t25).f5⟩:S31)) (k31_mkM _ _ _ (⟨(rd_T31 x8_1 t25).f0,(rd_T31 x8_1 t25).f1,(⟨(rd_T31 x8_1 t25).f2.f0,(rd_T31 x8_1 t25).f2.f1,(rd_T31 x8_1 t25).f2.f2⟩:S27),(⟨(rd_T31 x8_1 t25).f3.f0,(rd_T31 x8_1 t25).f3.f1,(rd_T31 x8_1 t25).f3.f2⟩:S27),(⟨t27,t28,t29⟩:S27),(rd_T31 x8_1 t25).f5⟩:S31)) (fun _ hk=>hk)).1
    rw [←Ny30.out] at HP40
    have HQ40:=Aside0.mk HP40
    clear hcl40 hcc40 hfr40 hM40 HP40
    refine hK.out _ _ ⟨(blk_cell BK1.out 0).trans rfl,(blk_cell BK1.out 1).trans rfl,(blk_cell BK1.out 2).trans rfl,HS3_,HS4_,HS5_,HS6_,HS7_,HS8_,HS9_,HS10_,HS11_,HS12_,HS13_,HS14_⟩ (fun hHeld=> ?_)
    clear hK K
    refine no_ (N:=some 45) ?_
    refine pu_ (i:=9) (N:=some 46) (bt_ 12 1023) HT_ ?_
    refine pu_ (i:=10) (N:=some 47) (bt_ 12 2047) HT_ ?_
    refine last_ (i:=11) (N:=none) (bt_ 12 4095) rfl rfl (one_of HT_.out (by kernel_rfl)) (by decide) (fun K hK=> ?_)
    refine skip_ (w1:= ?_) (by rfl) rfl ?_ ?_
    rotate_left
    ·go_simp
     rfl
    refine hK.out _ _ ?_
    clear hK K
    refine done_ (done_of HT_.out (by kernel_rfl)) ?_
    try go_wp2
    have n0_:Aside0 (Kd.R Kd.string 9 (((w39.setCell ⟨go34,(t25:Int).toNat*12+8,none⟩ (.int .i64 t27)).setCell ⟨go34,(t25:Int).toNat*12+9,none⟩ (.int .i64 t28)).setCell ⟨go34,(t25:Int).toNat*12+10,none⟩ (.int .i64 t29)) w.heap.size (fun _=>True) (.slice (some ad24) t3.length co26) t3):=⟨by (with_reducible repeat (first|apply Kd.R_alloc|apply Kd.R_drewN|apply Kd.R_drew));exact Kd.R_mono (Kd.R_far (p:=⟨go34,(t25:Int).toNat*12+10,none⟩) (Kd.R_far (p:=⟨go34,(t25:Int).toNat*12+9,none⟩) (Kd.R_far (p:=⟨go34,(t25:Int).toNat*12+8,none⟩) (Kd.R_types HO_7.out GG34.out (by decide)) (fun _ hk=>hk.2) (.int .i64 t27)) (fun _ hk=>hk.2) (.int .i64 t28)) (fun _ hk=>hk.2) (.int .i64 t29)) (fun _ hk=>trivial)⟩
    have n1_:Aside0 (Kd.R k31 31 (((w39.setCell ⟨go34,(t25:Int).toNat*12+8,none⟩ (.int .i64 t27)).setCell ⟨go34,(t25:Int).toNat*12+9,none⟩ (.int .i64 t28)).setCell ⟨go34,(t25:Int).toNat*12+10,none⟩ (.int .i64 t29)) w.heap.size (fun _=>True) (.slice (some ⟨go34,0,none⟩) x8_1.length co37) y30):=⟨by (with_reducible repeat (first|apply Kd.R_alloc|apply Kd.R_drewN|apply Kd.R_drew));exact HQ40.out⟩
    have n2_:Aside0 ((((w39.setCell ⟨go34,(t25:Int).toNat*12+8,none⟩ (.int .i64 t27)).setCell ⟨go34,(t25:Int).toNat*12+9,none⟩ (.int .i64 t28)).setCell ⟨go34,(t25:Int).toNat*12+10,none⟩ (.int .i64 t29)).heap[gb1]?=some (.cells #[.int .i64 a2_0, .int .i64 a2_1, .int .i64 a2_2] 27 (0,0))):=⟨by refine zk_ ?_;refine blk_far ?_ (by have h_:=Kd.R_ne HO_8.out BK1.out (by decide);intro e_;exact h_ (by rw [e_];rfl)) _;refine zk_ ?_;refine blk_far ?_ (by have h_:=Kd.R_ne HO_8.out BK1.out (by decide);intro e_;exact h_ (by rw [e_];rfl)) _;refine zk_ ?_;refine blk_far ?_ (by have h_:=Kd.R_ne HO_8.out BK1.out (by decide);intro e_;exact h_ (by rw [e_];rfl)) _;refine zk_ ?_;exact BK1.out⟩
    have n3_:Aside0 ((((w39.setCell ⟨go34,(t25:Int).toNat*12+8,none⟩ (.int .i64 t27)).setCell ⟨go34,(t25:Int).toNat*12+9,none⟩ (.int .i64 t28)).setCell ⟨go34,(t25:Int).toNat*12+10,none⟩ (.int .i64 t29)).heap[gb2]?=some (.cells #[.slice none 0 0, .int .i64 x3001_1] 67 (0,0))):=⟨by refine zk_ ?_;refine blk_far ?_ (by have h_:=Kd.R_ne HO_8.out BK2.out (by decide);intro e_;exact h_ (by rw [e_];rfl)) _;refine zk_ ?_;refine blk_far ?_ (by have h_:=Kd.R_ne HO_8.out BK2.out (by decide);intro e_;exact h_ (by rw [e_];rfl)) _;refine zk_ ?_;refine blk_far ?_ (by have h_:=Kd.R_ne HO_8.out BK2.out (by decide);intro e_;exact h_ (by rw [e_];rfl)) _;refine zk_ ?_;exact BK2.out⟩
    have n4_:Aside0 (Below w.heap.size w (((w39.setCell ⟨go34,(t25:Int).toNat*12+8,none⟩ (.int .i64 t27)).setCell ⟨go34,(t25:Int).toNat*12+9,none⟩ (.int .i64 t28)).setCell ⟨go34,(t25:Int).toNat*12+10,none⟩ (.int .i64 t29))):=⟨by repeat (first|(with_reducible first|exact HB.out|apply below_alloc|apply pw_below_drewN|apply below_drew1|refine below_set ?_ GB34.out|refine below_set ?_ GB34.out|refine below_set ?_ GB34.out|refine below_set ?_ GE1.out|refine below_set ?_ GE2.out)|exact HB.out)⟩
    (try clear HO_7)
    (try clear HO_8)
    (try clear BK1)
    (try clear BK2)
    (try clear HB)
    generalize (((w39.setCell ⟨go34,(t25:Int).toNat*12+8,none⟩ (.int .i64 t27)).setCell ⟨go34,(t25:Int).toNat*12+9,none⟩ (.int .i64 t28)).setCell ⟨go34,(t25:Int).toNat*12+10,none⟩ (.int .i64 t29))=w41 at n0_ n1_ n2_ n3_ n4_ ⊢
    have HO_7:=n0_
    have HO_8:=n1_
    have BK1:=n2_
    have BK2:=n3_
    have HB:=n4_
    clear n0_ n1_ n2_ n3_ n4_
    replace HO_7:=am_ (Kd.R_drew HO_7.out)
    replace HO_8:=am_ (Kd.R_drew HO_8.out)
    replace BK1:=am_ (blk_drew BK1.out)
    replace BK2:=am_ (blk_drew BK2.out)
    replace HB:=am_ (below_drew1 HB.out)
    have p31:0≤(t25:Int):=of_decide_eq_true zq_
    have q31:t25<(y30.length:Int):=(by have h_:(t25:Int)<((x8_1.length:Int):Int):=of_decide_eq_true zq_;first|(have e_:=(Kd.R_reads' HO_8.out).1;omega)|simpa only [Ny30.out,List.length_set] using h_)
    obtain ⟨ad31,e31,hx31_0,hx31_1,hx31_2,hx31_3,hx31_4,hx31_5,hx31_6,hx31_7,hx31_8,hx31_9,hx31_10,hx31_11⟩:=at_T31 (Kd.R_reads' HO_8.out).2.2 t25 p31 q31
    obtain rfl:(⟨go34,0,none⟩:Addr)=ad31:=(by injection e31)
    replace hx31_0:=za_ hx31_0
    replace hx31_1:=za_ hx31_1
    replace hx31_2:=za_ hx31_2
    replace hx31_3:=za_ hx31_3
    replace hx31_4:=za_ hx31_4
    replace hx31_5:=za_ hx31_5
    replace hx31_6:=za_ hx31_6
    replace hx31_7:=za_ hx31_7
    replace hx31_8:=za_ hx31_8
    replace hx31_9:=za_ hx31_9
    replace hx31_10:=za_ hx31_10
    replace hx31_11:=za_ hx31_11
    replace p31:=eq_true p31
    replace q31:=eq_true q31
    have p32:0≤(t25:Int):=of_decide_eq_true zq_
    have q32:t25<(y30.length:Int):=(by have h_:(t25:Int)<((x8_1.length:Int):Int):=of_decide_eq_true zq_;first|(have e_:=(Kd.R_reads' HO_8.out).1;omega)|simpa only [Ny30.out,List.length_set] using h_)
    obtain ⟨ad32,e32,hx32_0,hx32_1,hx32_2,hx32_3,hx32_4,hx32_5,hx32_6,hx32_7,hx32_8,hx32_9,hx32_10,hx32_11⟩:=at_T31 (Kd.R_reads' HO_8.out).2.2 t25 p32 q32
    obtain rfl:(⟨go34,0,none⟩:Addr)=ad32:=(by injection e32)
    replace hx32_0:=za_ hx32_0
    replace hx32_1:=za_ hx32_1
    replace hx32_2:=za_ hx32_2
    replace hx32_3:=za_ hx32_3
    replace hx32_4:=za_ hx32_4
    replace hx32_5:=za_ hx32_5
    replace hx32_6:=za_ hx32_6
    replace hx32_7:=za_ hx32_7
    replace hx32_8:=za_ hx32_8
    replace hx32_9:=za_ hx32_9
    replace hx32_10:=za_ hx32_10
    replace hx32_11:=za_ hx32_11
    replace p32:=eq_true p32
    replace q32:=eq_true q32
    refine start_ (n:=12) (S:=fun w'=>w'.cell? ⟨go34,(t25).toNat*12,none⟩=some (.string ((rd_T31 y30 t25).f0))∧w'.cell? ⟨go34,(t25).toNat*12+1,none⟩=some (.string ((rd_T31 y30 t25).f1))∧w'.cell? ⟨go34,(t25).toNat*12+2,none⟩=some (.int .i64 ((rd_T31 y30 t25).f2.f0))∧w'.cell? ⟨go34,(t25).toNat*12+3,none⟩=some (.int .i64 ((rd_T31 y30 t25).f2.f1))∧w'.cell? ⟨go34,(t25).toNat*12+4,none⟩=some (.int .i64 ((rd_T31 y30 t25).f2.f2))∧w'.cell? ⟨go34,(t25).toNat*12+5,none⟩=some (.int .i64 ((rd_T31 y30 t25).f3.f0))∧w'.cell? ⟨go34,(t25).toNat*12+6,none⟩=some (.int .i64 ((rd_T31 y30 t25).f3.f1))∧w'.cell? ⟨go34,(t25).toNat*12+7,none⟩=some (.int .i64 ((rd_T31 y30 t25).f3.f2))∧w'.cell? ⟨go34,(t25).toNat*12+8,none⟩=some (.int .i64 ((rd_T31 y30 t25).f4.f0))∧w'.cell? ⟨go34,(t25).toNat*12+9,none⟩=some (.int .i64 ((rd_T31 y30 t25).f4.f1))∧w'.cell? ⟨go34,(t25).toNat*12+10,none⟩=some (.int .i64 ((rd_T31 y30 t25).f4.f2))∧w'.cell? ⟨go34,(t25).toNat*12+11,none⟩=some (.int .i64 ((rd_T31 y30 t25).f5))∧w'.cell? ⟨go34,(t25).toNat*12,none⟩=some (.string ((rd_T31 y30 t25).f0))∧w'.cell? ⟨go34,(t25).toNat*12+1,none⟩=some (.string ((rd_T31 y30 t25).f1))∧w'.cell? ⟨go34,(t25).toNat*12+2,none⟩=some (.int .i64 ((rd_T31 y30 t25).f2.f0))∧w'.cell? ⟨go34,(t25).toNat*12+3,none⟩=some (.int .i64 ((rd_T31 y30 t25).f2.f1))∧w'.cell? ⟨go34,(t25).toNat*12+4,none⟩=some (.int .i64 ((rd_T31 y30 t25).f2.f2))∧w'.cell? ⟨go34,(t25).toNat*12+5,none⟩=some (.int .i64 ((rd_T31 y30 t25).f3.f0))∧w'.cell? ⟨go34,(t25).toNat*12+6,none⟩=some (.int .i64 ((rd_T31 y30 t25).f3.f1))∧w'.cell? ⟨go34,(t25).toNat*12+7,none⟩=some (.int .i64 ((rd_T31 y30 t25).f3.f2))∧w'.cell? ⟨go34,(t25).toNat*12+8,none⟩=some (.int .i64 ((rd_T31 y30 t25).f4.f0))∧w'.cell? ⟨go34,(t25).toNat*12+9,none⟩=some (.int .i64 ((rd_T31 y30 t25).f4.f1))∧w'.cell? ⟨go34,(t25).toNat*12+10,none⟩=some (.int .i64 ((rd_T31 y30 t25).f4.f2))∧w'.cell? ⟨go34,(t25).toNat*12+11,none⟩=some (.int .i64 ((rd_T31 y30 t25).f5))) (ds:=[]) (bt_ 12 0) (by kernel_rfl) rfl rfl ⟨hx31_0,hx31_1,hx31_2,hx31_3,hx31_4,hx31_5,hx31_6,hx31_7,hx31_8,hx31_9,hx31_10,hx31_11,hx32_0,hx32_1,hx32_2,hx32_3,hx32_4,hx32_5,hx32_6,hx32_7,hx32_8,hx32_9,hx32_10,hx32_11⟩ (fun hHeld=> ?_);refine with_tabW r10_Admit.tab12 r10_Admit.bits12 (fun HT_ HW_=> ?_)
    generalize w41.drew=w42 at HO_7 HO_8 BK1 BK2 HB HQ40 hx31_0 hx31_1 hx31_10 hx31_11 hx31_2 hx31_3 hx31_4 hx31_5 hx31_6 hx31_7 hx31_8 hx31_9 hx32_0 hx32_1 hx32_10 hx32_11 hx32_2 hx32_3 hx32_4 hx32_5 hx32_6 hx32_7 hx32_8 hx32_9 hHeld ⊢
    refine pu_ (i:=0) (N:=some 48) (bt_ 12 1) HT_ ?_
    refine pu_ (i:=1) (N:=some 49) (bt_ 12 3) HT_ ?_
    refine pu_ (i:=2) (N:=some 50) (bt_ 12 7) HT_ ?_
    refine pu_ (i:=3) (N:=some 51) (bt_ 12 15) HT_ ?_
    refine pu_ (i:=5) (N:=some 53) (bt_ 12 47) HT_ ?_
    refine pu_ (i:=6) (N:=some 54) (bt_ 12 111) HT_ ?_
    refine pu_ (i:=7) (N:=some 55) (bt_ 12 239) HT_ ?_
    refine pu_ (i:=8) (N:=some 56) (bt_ 12 495) HT_ ?_
    refine tk_ (i:=4) (N:=some 52) (bt_ 12 511) HT_ HW_ hHeld ?_
    refine tk_ (i:=9) (N:=some 57) (bt_ 12 1023) HT_ HW_ hHeld ?_
    refine on_ (i:=10) (N:=some 58) (bt_ 12 2047) HT_ (fun K hK=> ?_)
    refine gs_ Try.func34 #[.agg #[.int .i64 ((rd_T31 y30 t25).f4.f0), .int .i64 ((rd_T31 y30 t25).f4.f1), .int .i64 ((rd_T31 y30 t25).f4.f2)], .agg #[.int .i64 ((rd_T31 y30 t25).f2.f0), .int .i64 ((rd_T31 y30 t25).f2.f1), .int .i64 ((rd_T31 y30 t25).f2.f2)]] ?_
    with_reducible refine (r10_Le.calls ((rd_T31 y30 t25).f4.f0) ((rd_T31 y30 t25).f4.f1) ((rd_T31 y30 t25).f4.f2) ((rd_T31 y30 t25).f2.f0) ((rd_T31 y30 t25).f2.f1) ((rd_T31 y30 t25).f2.f2) true _ A35.out).mono ?_
    rintro e w43 ⟨rfl,hb⟩
    have HS0_:=zh_ hb (hHeld.1)
    have HS1_:=zh_ hb (hHeld.2.1)
    have HS2_:=zh_ hb (hHeld.2.2.1)
    have HS3_:=zh_ hb (hHeld.2.2.2.1)
    have HS4_:=zh_ hb (hHeld.2.2.2.2.1)
    have HS5_:=zh_ hb (hHeld.2.2.2.2.2.1)
    have HS6_:=zh_ hb (hHeld.2.2.2.2.2.2.1)
    have HS7_:=zh_ hb (hHeld.2.2.2.2.2.2.2.1)
    have HS8_:=zh_ hb (hHeld.2.2.2.2.2.2.2.2.1)
    have HS9_:=zh_ hb (hHeld.2.2.2.2.2.2.2.2.2.1)
    have HS10_:=zh_ hb (hHeld.2.2.2.2.2.2.2.2.2.2.1)
    have HS11_:=zh_ hb (hHeld.2.2.2.2.2.2.2.2.2.2.2.1)
    have HS12_:=zh_ hb (hHeld.2.2.2.2.2.2.2.2.2.2.2.2.1)
    have HS13_:=zh_ hb (hHeld.2.2.2.2.2.2.2.2.2.2.2.2.2.1)
    have HS14_:=zh_ hb (hHeld.2.2.2.2.2.2.2.2.2.2.2.2.2.2.1)
    have HS15_:=zh_ hb (hHeld.2.2.2.2.2.2.2.2.2.2.2.2.2.2.2.1)
    have HS16_:=zh_ hb (hHeld.2.2.2.2.2.2.2.2.2.2.2.2.2.2.2.2.1)
    have HS17_:=zh_ hb (hHeld.2.2.2.2.2.2.2.2.2.2.2.2.2.2.2.2.2.1)
    have HS18_:=zh_ hb (hHeld.2.2.2.2.2.2.2.2.2.2.2.2.2.2.2.2.2.2.1)
    have HS19_:=zh_ hb (hHeld.2.2.2.2.2.2.2.2.2.2.2.2.2.2.2.2.2.2.2.1)
    have HS20_:=zh_ hb (hHeld.2.2.2.2.2.2.2.2.2.2.2.2.2.2.2.2.2.2.2.2.1)
    have HS21_:=zh_ hb (hHeld.2.2.2.2.2.2.2.2.2.2.2.2.2.2.2.2.2.2.2.2.2.1)
    have HS22_:=zh_ hb (hHeld.2.2.2.2.2.2.2.2.2.2.2.2.2.2.2.2.2.2.2.2.2.2.1)
    have HS23_:=zh_ hb (hHeld.2.2.2.2.2.2.2.2.2.2.2.2.2.2.2.2.2.2.2.2.2.2.2)
    refine ⟨_,rfl, ?_⟩
    replace HO_7:=am_ (Kd.R_below (zr_ HO_7) hb)
    replace HO_8:=am_ (Kd.R_below (zr_ HO_8) hb)
    replace BK1:=am_ (blk_below (zb_ BK1) hb)
    replace BK2:=am_ (blk_below (zb_ BK2) hb)
    replace HB:=am_ (below_step (zl2_ HB GE1 GE2) hb)
    (try clear hb)
    (try clear hb2)
    (try clear hk)
    (try clear hi)
    refine hK.out _ _ ⟨HS0_,HS1_,HS2_,HS3_,HS4_,HS5_,HS6_,HS7_,HS8_,HS9_,HS10_,HS11_,HS12_,HS13_,HS14_,HS15_,HS16_,HS17_,HS18_,HS19_,HS20_,HS21_,HS22_,HS23_⟩ (fun hHeld=> ?_)
    clear hK K
    refine no_ (N:=some 58) ?_
    refine pu_ (i:=11) (N:=some 59) (bt_ 12 4095) HT_ ?_
    refine done_ (done_of HT_.out (by kernel_rfl)) ?_
    try go_wp2
    go_roundg k1
    case measure=>have:=HK1.out;omega
    case rel=>exact ⟨(y30),(wrap64 (x9_1+1)),(x3001_1),(by first|rfl|(simp;done)|(simp [*];done)),H',⟨by have:=HK1.out;omega⟩,⟨by (with_reducible repeat (first|apply Kd.R_alloc|apply Kd.R_drewN|apply Kd.R_drew));exact HO_7.out⟩,⟨by (with_reducible repeat (first|apply Kd.R_alloc|apply Kd.R_drewN|apply Kd.R_drew));exact HO_8.out⟩,⟨by refine zk_ ?_;exact BK1.out⟩,⟨by refine zk_ ?_;exact BK2.out⟩,⟨zl2_ HB GE1 GE2⟩⟩
   replace c36:=Bool.eq_false_iff.mpr c36
   subst c36
   have H1:((r10_no.f 12).bind fun bt34=>(some (bt34.1,bt34.2)))=some (r1,r2):=by rw [if_neg (show¬(false=true) by decide)] at H;exact H
   clear H
   have H:=H1
   clear H1
   replace H:=Option.bind_eq_some_iff.mp H
   obtain ⟨⟨t34,t37⟩,A440,H⟩:=H
   try dsimp only at H
   have A44:=Aside0.mk A440
   clear A440
   simp only [Option.some.injEq,Prod.mk.injEq] at H
   obtain ⟨rfl,rfl⟩:=H
   have p24:0≤(x9_1:Int):=of_decide_eq_true zq_
   have q24:x9_1<(t3.length:Int):=of_decide_eq_true zq_
   obtain ⟨ad24,e24,hx24_0⟩:=Kd.at_string (Kd.R_reads' HO_7.out).2.2 x9_1 p24 q24
   cases e24
   replace p24:=eq_true p24
   replace q24:=eq_true q24
   obtain ⟨Ao45,co45,eo45⟩:=Kd.R_slice HO_8.out
   subst eo45
   try go_wp2_with (first|((with_reducible refine gate_callee (f:=50) rfl ?_);refine gl_ (some 36) Try.func50 #[.slice Ao45 x8_1.length co45, .string (rdOf ByteArray.empty t3 x9_1)] ?_;(with_reducible refine (r10_Find.calls k1 _ _ x8_1 (rdOf ByteArray.empty t3 x9_1) t25 _ ?side1 ?side2 A30.out).mono ?_);(case side1=>exact zc_ (Kd.R_reads' HO_8.out).2.2);(case side2=>exact (Kd.R_reads' HO_8.out).2.1);rintro e w' ⟨rfl,⟨nd,rfl⟩⟩;refine ⟨_,rfl, ?_⟩;(try (rw [drewN_self wr];generalize hq_:World.drewN wr _=wr;have n0_:Aside0 (Kd.R Kd.string 9 wr w.heap.size (fun _=>True) (.slice (some ad24) t3.length co26) t3):=⟨by rw [←hq_];exact (zr_ HO_7)⟩;have n1_:Aside0 (Kd.R k31 31 wr w.heap.size (fun _=>True) (.slice Ao45 x8_1.length co45) x8_1):=⟨by rw [←hq_];exact (zr_ HO_8)⟩;have n2_:Aside0 (wr.heap[gb1]?=some (.cells #[.int .i64 a2_0, .int .i64 a2_1, .int .i64 a2_2] 27 (0,0))):=⟨by rw [←hq_];exact (zb_ BK1)⟩;have n3_:Aside0 (wr.heap[gb2]?=some (.cells #[.slice none 0 0, .int .i64 x3001_1] 67 (0,0))):=⟨by rw [←hq_];exact (zb_ BK2)⟩;have n4_:Aside0 (Below w.heap.size w wr):=⟨by rw [←hq_];exact (zl2_ HB GE1 GE2)⟩;clear HO_7 HO_8 BK1 BK2 HB hq_;have HO_7:=n0_;have HO_8:=n1_;have BK1:=n2_;have BK2:=n3_;have HB:=n4_;clear n0_ n1_ n2_ n3_ n4_))))
   replace HO_7:=am_ (Kd.R_drew HO_7.out)
   replace HO_8:=am_ (Kd.R_drew HO_8.out)
   replace BK1:=am_ (blk_drew BK1.out)
   replace BK2:=am_ (blk_drew BK2.out)
   replace HB:=am_ (below_drew1 HB.out)
   have p26:0≤(t25:Int):=of_decide_eq_true zq_
   have q26:t25<(x8_1.length:Int):=of_decide_eq_true zq_
   obtain ⟨ad26,e26,hx26_0,hx26_1,hx26_2,hx26_3,hx26_4,hx26_5,hx26_6,hx26_7,hx26_8,hx26_9,hx26_10,hx26_11⟩:=at_T31 (Kd.R_reads' HO_8.out).2.2 t25 p26 q26
   cases e26
   replace p26:=eq_true p26
   replace q26:=eq_true q26
   refine start_ (n:=12) (S:=fun w'=>w'.cell? ⟨gb1,0,none⟩=some (.int .i64 a2_0)∧w'.cell? ⟨gb1,1,none⟩=some (.int .i64 a2_1)∧w'.cell? ⟨gb1,2,none⟩=some (.int .i64 a2_2)∧w'.cell? (ad26.add ((t25).toNat*12))=some (.string ((rd_T31 x8_1 t25).f0))∧w'.cell? ⟨(ad26.add ((t25).toNat*12)).block,(ad26.add ((t25).toNat*12)).off+1,none⟩=some (.string ((rd_T31 x8_1 t25).f1))∧w'.cell? ⟨(ad26.add ((t25).toNat*12)).block,(ad26.add ((t25).toNat*12)).off+2,none⟩=some (.int .i64 ((rd_T31 x8_1 t25).f2.f0))∧w'.cell? ⟨(ad26.add ((t25).toNat*12)).block,(ad26.add ((t25).toNat*12)).off+3,none⟩=some (.int .i64 ((rd_T31 x8_1 t25).f2.f1))∧w'.cell? ⟨(ad26.add ((t25).toNat*12)).block,(ad26.add ((t25).toNat*12)).off+4,none⟩=some (.int .i64 ((rd_T31 x8_1 t25).f2.f2))∧w'.cell? ⟨(ad26.add ((t25).toNat*12)).block,(ad26.add ((t25).toNat*12)).off+5,none⟩=some (.int .i64 ((rd_T31 x8_1 t25).f3.f0))∧w'.cell? ⟨(ad26.add ((t25).toNat*12)).block,(ad26.add ((t25).toNat*12)).off+6,none⟩=some (.int .i64 ((rd_T31 x8_1 t25).f3.f1))∧w'.cell? ⟨(ad26.add ((t25).toNat*12)).block,(ad26.add ((t25).toNat*12)).off+7,none⟩=some (.int .i64 ((rd_T31 x8_1 t25).f3.f2))∧w'.cell? ⟨(ad26.add ((t25).toNat*12)).block,(ad26.add ((t25).toNat*12)).off+8,none⟩=some (.int .i64 ((rd_T31 x8_1 t25).f4.f0))∧w'.cell? ⟨(ad26.add ((t25).toNat*12)).block,(ad26.add ((t25).toNat*12)).off+9,none⟩=some (.int .i64 ((rd_T31 x8_1 t25).f4.f1))∧w'.cell? ⟨(ad26.add ((t25).toNat*12)).block,(ad26.add ((t25).toNat*12)).off+10,none⟩=some (.int .i64 ((rd_T31 x8_1 t25).f4.f2))∧w'.cell? ⟨(ad26.add ((t25).toNat*12)).block,(ad26.add ((t25).toNat*12)).off+11,none⟩=some (.int .i64 ((rd_T31 x8_1 t25).f5))) (ds:=[11]) (bt_ 12 0) (by kernel_rfl) rfl rfl ⟨(blk_cell BK1.out 0).trans rfl,(blk_cell BK1.out 1).trans rfl,(blk_cell BK1.out 2).trans rfl,hx26_0,hx26_1,hx26_2,hx26_3,hx26_4,hx26_5,hx26_6,hx26_7,hx26_8,hx26_9,hx26_10,hx26_11⟩ (fun hHeld=> ?_);refine with_tabW r10_Admit.tab11 r10_Admit.bits11 (fun HT_ HW_=> ?_)
   generalize wr.drew=w46 at HO_7 HO_8 BK1 BK2 HB hx26_0 hx26_1 hx26_10 hx26_11 hx26_2 hx26_3 hx26_4 hx26_5 hx26_6 hx26_7 hx26_8 hx26_9 hHeld ⊢
   refine pu_ (i:=0) (N:=some 37) (bt_ 12 1) HT_ ?_
   refine pu_ (i:=1) (N:=some 38) (bt_ 12 3) HT_ ?_
   refine pu_ (i:=2) (N:=some 39) (bt_ 12 7) HT_ ?_
   refine pu_ (i:=3) (N:=some 40) (bt_ 12 15) HT_ ?_
   refine pu_ (i:=4) (N:=some 41) (bt_ 12 31) HT_ ?_
   refine pu_ (i:=5) (N:=some 42) (bt_ 12 63) HT_ ?_
   refine tk_ (i:=6) (N:=some 43) (bt_ 12 127) HT_ HW_ hHeld ?_
   refine tk_ (i:=7) (N:=some 44) (bt_ 12 255) HT_ HW_ hHeld ?_
   refine on_ (i:=8) (N:=some 45) (bt_ 12 511) HT_ (fun K hK=> ?_)
   refine gs_ Try.func63 #[.agg #[.int .i64 ((rd_T31 x8_1 t25).f4.f0), .int .i64 ((rd_T31 x8_1 t25).f4.f1), .int .i64 ((rd_T31 x8_1 t25).f4.f2)], .agg #[.int .i64 a2_0, .int .i64 a2_1, .int .i64 a2_2]] ?_
   with_reducible refine (r10_Add.calls ((rd_T31 x8_1 t25).f4.f0) ((rd_T31 x8_1 t25).f4.f1) ((rd_T31 x8_1 t25).f4.f2) a2_0 a2_1 a2_2 t27 t28 t29 _ A33.out).mono ?_
   rintro e w47 ⟨rfl,hb⟩
   have HS3_:=zh_ hb (hHeld.2.2.2.1)
   have HS4_:=zh_ hb (hHeld.2.2.2.2.1)
   have HS5_:=zh_ hb (hHeld.2.2.2.2.2.1)
   have HS6_:=zh_ hb (hHeld.2.2.2.2.2.2.1)
   have HS7_:=zh_ hb (hHeld.2.2.2.2.2.2.2.1)
   have HS8_:=zh_ hb (hHeld.2.2.2.2.2.2.2.2.1)
   have HS9_:=zh_ hb (hHeld.2.2.2.2.2.2.2.2.2.1)
   have HS10_:=zh_ hb (hHeld.2.2.2.2.2.2.2.2.2.2.1)
   have HS11_:=zh_ hb (hHeld.2.2.2.2.2.2.2.2.2.2.2.1)
   have HS12_:=zh_ hb (hHeld.2.2.2.2.2.2.2.2.2.2.2.2.1)
   have HS13_:=zh_ hb (hHeld.2.2.2.2.2.2.2.2.2.2.2.2.2.1)
   have HS14_:=zh_ hb (hHeld.2.2.2.2.2.2.2.2.2.2.2.2.2.2)
   refine ⟨_,rfl, ?_⟩
   replace HO_7:=am_ (Kd.R_below (zr_ HO_7) hb)
   replace HO_8:=am_ (Kd.R_below (zr_ HO_8) hb)
   replace BK1:=am_ (blk_below (zb_ BK1) hb)
   replace BK2:=am_ (blk_below (zb_ BK2) hb)
   replace HB:=am_ (below_step (zl2_ HB GE1 GE2) hb)
   (try clear hb)
   (try clear hb2)
   (try clear hk)
   (try clear hi)
   have p34:0≤(t25:Int):=of_decide_eq_true zq_
   have q34:(t25:Int)<((x8_1.length:Int):Int):=of_decide_eq_true zq_
   obtain ⟨go34,co34,eo34,gb34,gl34,cl34,HG34⟩:=Kd.R_form HO_8.out (by omega)
   (first|cases eo34|(injection eo34 with ea_ en_ ec_;(first|subst ea_|(injection ea_ with ea_;subst ea_));subst ec_;clear en_))
   have GB34:=Aside0.mk gb34
   have GG34:=Aside0.mk HG34
   clear gb34 gl34 HG34
   replace hx26_0:=zv_ hx26_0
   replace hx26_1:=zv_ hx26_1
   replace hx26_2:=zv_ hx26_2
   replace hx26_3:=zv_ hx26_3
   replace hx26_4:=zv_ hx26_4
   replace hx26_5:=zv_ hx26_5
   replace hx26_6:=zv_ hx26_6
   replace hx26_7:=zv_ hx26_7
   replace hx26_8:=zv_ hx26_8
   replace hx26_9:=zv_ hx26_9
   replace hx26_10:=zv_ hx26_10
   replace hx26_11:=zv_ hx26_11
   obtain ⟨ce34,hcl34,hM34,hcc34,hfr34⟩:=Kd.R_elem HO_8.out z31 (t25:Int) p34 q34
   obtain rfl:=k31_openM hM34
   have hx34_8:World.cell? _ ⟨go34,(t25:Int).toNat*12+8,none⟩=some (.int .i64 ((rd_T31 x8_1 t25).f4.f0)):=hcc34 8 _ rfl
   have hx34_9:World.cell? _ ⟨go34,(t25:Int).toNat*12+9,none⟩=some (.int .i64 ((rd_T31 x8_1 t25).f4.f1)):=hcc34 9 _ rfl
   have hx34_10:World.cell? _ ⟨go34,(t25:Int).toNat*12+10,none⟩=some (.int .i64 ((rd_T31 x8_1 t25).f4.f2)):=hcc34 10 _ rfl
   have hf34_8:World.frozen? _ ⟨go34,(t25:Int).toNat*12+8,none⟩=false:=hfr34 8
   have hf34_9:World.frozen? _ ⟨go34,(t25:Int).toNat*12+9,none⟩=false:=hfr34 9
   have hf34_10:World.frozen? _ ⟨go34,(t25:Int).toNat*12+10,none⟩=false:=hfr34 10
   clear hcl34 hcc34 hfr34 hM34
   replace p34:=eq_true p34
   replace q34:=eq_true q34
   obtain ⟨ce48,hcl48,hM48,hcc48,hfr48⟩:=Kd.R_elem HO_8.out z31 (t25:Int) (of_decide_eq_true zq_) (by have h_:(t25:Int)<((x8_1.length:Int):Int):=of_decide_eq_true zq_;first|exact h_|(have e_:=(Kd.R_reads' HO_8.out).1;omega)|simpa using h_)
   obtain rfl:=k31_openM hM48
   have HP48:=(Kd.R_seg HO_8.out (t25:Int) (of_decide_eq_true zq_) (by have h_:(t25:Int)<((x8_1.length:Int):Int):=of_decide_eq_true zq_;first|exact h_|(have e_:=(Kd.R_reads' HO_8.out).1;omega)|simpa using h_) (seg:=[.int .i64 t27, .int .i64 t28, .int .i64 t29]) (j:=8) hcl48 hcc48 (show 11≤12 from by decide) (x':=(⟨(rd_T31 x8_1 t25).f0,(rd_T31 x8_1 t25).f1,(⟨(rd_T31 x8_1 t25).f2.f0,(rd_T31 x8_1 t25).f2.f1,(rd_T31 x8_1 t25).f2.f2⟩:S27),(⟨(rd_T31 x8_1 t25).f3.f0,(rd_T31 x8_1 t25).f3.f1,(rd_T31 x8_1 t25).f3.f2⟩:S27),(⟨t27,t28,t29⟩:S27),(rd_T31 x8_1 t25).f5⟩:S31)) (k31_mkM _ _ _ (⟨(rd_T31 x8_1 t25).f0,(rd_T31 x8_1 t25).f1,(⟨(rd_T31 x8_1 t25).f2.f0,(rd_T31 x8_1 t25).f2.f1,(rd_T31 x8_1 t25).f2.f2⟩:S27),(⟨(rd_T31 x8_1 t25).f3.f0,(rd_T31 x8_1 t25).f3.f1,(rd_T31 x8_1 t25).f3.f2⟩:S27),(⟨t27,t28,t29⟩:S27),(rd_T31 x8_1 t25).f5⟩:S31)) (fun _ hk=>hk)).1
   rw [←Ny30.out] at HP48
   have HQ48:=Aside0.mk HP48
   clear hcl48 hcc48 hfr48 hM48 HP48
   refine hK.out _ _ ⟨(blk_cell BK1.out 0).trans rfl,(blk_cell BK1.out 1).trans rfl,(blk_cell BK1.out 2).trans rfl,HS3_,HS4_,HS5_,HS6_,HS7_,HS8_,HS9_,HS10_,HS11_,HS12_,HS13_,HS14_⟩ (fun hHeld=> ?_)
   clear hK K
   refine no_ (N:=some 45) ?_
   refine pu_ (i:=9) (N:=some 46) (bt_ 12 1023) HT_ ?_
   refine pu_ (i:=10) (N:=some 47) (bt_ 12 2047) HT_ ?_
   refine last_ (i:=11) (N:=none) (bt_ 12 4095) rfl rfl (one_of HT_.out (by kernel_rfl)) (by decide) (fun K hK=> ?_)
   refine skip_ (w1:= ?_) (by rfl) rfl ?_ ?_
   rotate_left
   ·go_simp
    rfl
   refine hK.out _ _ ?_
   clear hK K
   refine done_ (done_of HT_.out (by kernel_rfl)) ?_
   have n0_:Aside0 (Kd.R Kd.string 9 (((w47.setCell ⟨go34,(t25:Int).toNat*12+8,none⟩ (.int .i64 t27)).setCell ⟨go34,(t25:Int).toNat*12+9,none⟩ (.int .i64 t28)).setCell ⟨go34,(t25:Int).toNat*12+10,none⟩ (.int .i64 t29)) w.heap.size (fun _=>True) (.slice (some ad24) t3.length co26) t3):=⟨by (with_reducible repeat (first|apply Kd.R_alloc|apply Kd.R_drewN|apply Kd.R_drew));exact Kd.R_mono (Kd.R_far (p:=⟨go34,(t25:Int).toNat*12+10,none⟩) (Kd.R_far (p:=⟨go34,(t25:Int).toNat*12+9,none⟩) (Kd.R_far (p:=⟨go34,(t25:Int).toNat*12+8,none⟩) (Kd.R_types HO_7.out GG34.out (by decide)) (fun _ hk=>hk.2) (.int .i64 t27)) (fun _ hk=>hk.2) (.int .i64 t28)) (fun _ hk=>hk.2) (.int .i64 t29)) (fun _ hk=>trivial)⟩
   have n1_:Aside0 (Kd.R k31 31 (((w47.setCell ⟨go34,(t25:Int).toNat*12+8,none⟩ (.int .i64 t27)).setCell ⟨go34,(t25:Int).toNat*12+9,none⟩ (.int .i64 t28)).setCell ⟨go34,(t25:Int).toNat*12+10,none⟩ (.int .i64 t29)) w.heap.size (fun _=>True) (.slice (some ⟨go34,0,none⟩) x8_1.length co45) y30):=⟨by (with_reducible repeat (first|apply Kd.R_alloc|apply Kd.R_drewN|apply Kd.R_drew));exact HQ48.out⟩
   have n2_:Aside0 ((((w47.setCell ⟨go34,(t25:Int).toNat*12+8,none⟩ (.int .i64 t27)).setCell ⟨go34,(t25:Int).toNat*12+9,none⟩ (.int .i64 t28)).setCell ⟨go34,(t25:Int).toNat*12+10,none⟩ (.int .i64 t29)).heap[gb1]?=some (.cells #[.int .i64 a2_0, .int .i64 a2_1, .int .i64 a2_2] 27 (0,0))):=⟨by refine zk_ ?_;refine blk_far ?_ (by have h_:=Kd.R_ne HO_8.out BK1.out (by decide);intro e_;exact h_ (by rw [e_];rfl)) _;refine zk_ ?_;refine blk_far ?_ (by have h_:=Kd.R_ne HO_8.out BK1.out (by decide);intro e_;exact h_ (by rw [e_];rfl)) _;refine zk_ ?_;refine blk_far ?_ (by have h_:=Kd.R_ne HO_8.out BK1.out (by decide);intro e_;exact h_ (by rw [e_];rfl)) _;refine zk_ ?_;exact BK1.out⟩
   have n3_:Aside0 ((((w47.setCell ⟨go34,(t25:Int).toNat*12+8,none⟩ (.int .i64 t27)).setCell ⟨go34,(t25:Int).toNat*12+9,none⟩ (.int .i64 t28)).setCell ⟨go34,(t25:Int).toNat*12+10,none⟩ (.int .i64 t29)).heap[gb2]?=some (.cells #[.slice none 0 0, .int .i64 x3001_1] 67 (0,0))):=⟨by refine zk_ ?_;refine blk_far ?_ (by have h_:=Kd.R_ne HO_8.out BK2.out (by decide);intro e_;exact h_ (by rw [e_];rfl)) _;refine zk_ ?_;refine blk_far ?_ (by have h_:=Kd.R_ne HO_8.out BK2.out (by decide);intro e_;exact h_ (by rw [e_];rfl)) _;refine zk_ ?_;refine blk_far ?_ (by have h_:=Kd.R_ne HO_8.out BK2.out (by decide);intro e_;exact h_ (by rw [e_];rfl)) _;refine zk_ ?_;exact BK2.out⟩
   have n4_:Aside0 (Below w.heap.size w (((w47.setCell ⟨go34,(t25:Int).toNat*12+8,none⟩ (.int .i64 t27)).setCell ⟨go34,(t25:Int).toNat*12+9,none⟩ (.int .i64 t28)).setCell ⟨go34,(t25:Int).toNat*12+10,none⟩ (.int .i64 t29))):=⟨by repeat (first|(with_reducible first|exact HB.out|apply below_alloc|apply pw_below_drewN|apply below_drew1|refine below_set ?_ GB34.out|refine below_set ?_ GB34.out|refine below_set ?_ GB34.out|refine below_set ?_ GE1.out|refine below_set ?_ GE2.out)|exact HB.out)⟩
   (try clear HO_7)
   (try clear HO_8)
   (try clear BK1)
   (try clear BK2)
   (try clear HB)
   generalize (((w47.setCell ⟨go34,(t25:Int).toNat*12+8,none⟩ (.int .i64 t27)).setCell ⟨go34,(t25:Int).toNat*12+9,none⟩ (.int .i64 t28)).setCell ⟨go34,(t25:Int).toNat*12+10,none⟩ (.int .i64 t29))=w49 at n0_ n1_ n2_ n3_ n4_ ⊢
   have HO_7:=n0_
   have HO_8:=n1_
   have BK1:=n2_
   have BK2:=n3_
   have HB:=n4_
   clear n0_ n1_ n2_ n3_ n4_
   try go_wp2
   replace HO_7:=am_ (Kd.R_drew HO_7.out)
   replace HO_8:=am_ (Kd.R_drew HO_8.out)
   replace BK1:=am_ (blk_drew BK1.out)
   replace BK2:=am_ (blk_drew BK2.out)
   replace HB:=am_ (below_drew1 HB.out)
   have p31:0≤(t25:Int):=of_decide_eq_true zq_
   have q31:t25<(y30.length:Int):=(by have h_:(t25:Int)<((x8_1.length:Int):Int):=of_decide_eq_true zq_;first|(have e_:=(Kd.R_reads' HO_8.out).1;omega)|simpa only [Ny30.out,List.length_set] using h_)
   obtain ⟨ad31,e31,hx31_0,hx31_1,hx31_2,hx31_3,hx31_4,hx31_5,hx31_6,hx31_7,hx31_8,hx31_9,hx31_10,hx31_11⟩:=at_T31 (Kd.R_reads' HO_8.out).2.2 t25 p31 q31
   obtain rfl:(⟨go34,0,none⟩:Addr)=ad31:=(by injection e31)
   replace hx31_0:=za_ hx31_0
   replace hx31_1:=za_ hx31_1
   replace hx31_2:=za_ hx31_2
   replace hx31_3:=za_ hx31_3
   replace hx31_4:=za_ hx31_4
   replace hx31_5:=za_ hx31_5
   replace hx31_6:=za_ hx31_6
   replace hx31_7:=za_ hx31_7
   replace hx31_8:=za_ hx31_8
   replace hx31_9:=za_ hx31_9
   replace hx31_10:=za_ hx31_10
   replace hx31_11:=za_ hx31_11
   replace p31:=eq_true p31
   replace q31:=eq_true q31
   have p32:0≤(t25:Int):=of_decide_eq_true zq_
   have q32:t25<(y30.length:Int):=(by have h_:(t25:Int)<((x8_1.length:Int):Int):=of_decide_eq_true zq_;first|(have e_:=(Kd.R_reads' HO_8.out).1;omega)|simpa only [Ny30.out,List.length_set] using h_)
   obtain ⟨ad32,e32,hx32_0,hx32_1,hx32_2,hx32_3,hx32_4,hx32_5,hx32_6,hx32_7,hx32_8,hx32_9,hx32_10,hx32_11⟩:=at_T31 (Kd.R_reads' HO_8.out).2.2 t25 p32 q32
   obtain rfl:(⟨go34,0,none⟩:Addr)=ad32:=(by injection e32)
   replace hx32_0:=za_ hx32_0
   replace hx32_1:=za_ hx32_1
   replace hx32_2:=za_ hx32_2
   replace hx32_3:=za_ hx32_3
   replace hx32_4:=za_ hx32_4
   replace hx32_5:=za_ hx32_5
   replace hx32_6:=za_ hx32_6
   replace hx32_7:=za_ hx32_7
   replace hx32_8:=za_ hx32_8
   replace hx32_9:=za_ hx32_9
   replace hx32_10:=za_ hx32_10
   replace hx32_11:=za_ hx32_11
   replace p32:=eq_true p32
   replace q32:=eq_true q32
   refine start_ (n:=12) (S:=fun w'=>w'.cell? ⟨go34,(t25).toNat*12,none⟩=some (.string ((rd_T31 y30 t25).f0))∧w'.cell? ⟨go34,(t25).toNat*12+1,none⟩=some (.string ((rd_T31 y30 t25).f1))∧w'.cell? ⟨go34,(t25).toNat*12+2,none⟩=some (.int .i64 ((rd_T31 y30 t25).f2.f0))∧w'.cell? ⟨go34,(t25).toNat*12+3,none⟩=some (.int .i64 ((rd_T31 y30 t25).f2.f1))∧w'.cell? ⟨go34,(t25).toNat*12+4,none⟩=some (.int .i64 ((rd_T31 y30 t25).f2.f2))∧w'.cell? ⟨go34,(t25).toNat*12+5,none⟩=some (.int .i64 ((rd_T31 y30 t25).f3.f0))∧w'.cell? ⟨go34,(t25).toNat*12+6,none⟩=some (.int .i64 ((rd_T31 y30 t25).f3.f1))∧w'.cell? ⟨go34,(t25).toNat*12+7,none⟩=some (.int .i64 ((rd_T31 y30 t25).f3.f2))∧w'.cell? ⟨go34,(t25).toNat*12+8,none⟩=some (.int .i64 ((rd_T31 y30 t25).f4.f0))∧w'.cell? ⟨go34,(t25).toNat*12+9,none⟩=some (.int .i64 ((rd_T31 y30 t25).f4.f1))∧w'.cell? ⟨go34,(t25).toNat*12+10,none⟩=some (.int .i64 ((rd_T31 y30 t25).f4.f2))∧w'.cell? ⟨go34,(t25).toNat*12+11,none⟩=some (.int .i64 ((rd_T31 y30 t25).f5))∧w'.cell? ⟨go34,(t25).toNat*12,none⟩=some (.string ((rd_T31 y30 t25).f0))∧w'.cell? ⟨go34,(t25).toNat*12+1,none⟩=some (.string ((rd_T31 y30 t25).f1))∧w'.cell? ⟨go34,(t25).toNat*12+2,none⟩=some (.int .i64 ((rd_T31 y30 t25).f2.f0))∧w'.cell? ⟨go34,(t25).toNat*12+3,none⟩=some (.int .i64 ((rd_T31 y30 t25).f2.f1))∧w'.cell? ⟨go34,(t25).toNat*12+4,none⟩=some (.int .i64 ((rd_T31 y30 t25).f2.f2))∧w'.cell? ⟨go34,(t25).toNat*12+5,none⟩=some (.int .i64 ((rd_T31 y30 t25).f3.f0))∧w'.cell? ⟨go34,(t25).toNat*12+6,none⟩=some (.int .i64 ((rd_T31 y30 t25).f3.f1))∧w'.cell? ⟨go34,(t25).toNat*12+7,none⟩=some (.int .i64 ((rd_T31 y30 t25).f3.f2))∧w'.cell? ⟨go34,(t25).toNat*12+8,none⟩=some (.int .i64 ((rd_T31 y30 t25).f4.f0))∧w'.cell? ⟨go34,(t25).toNat*12+9,none⟩=some (.int .i64 ((rd_T31 y30 t25).f4.f1))∧w'.cell? ⟨go34,(t25).toNat*12+10,none⟩=some (.int .i64 ((rd_T31 y30 t25).f4.f2))∧w'.cell? ⟨go34,(t25).toNat*12+11,none⟩=some (.int .i64 ((rd_T31 y30 t25).f5))) (ds:=[]) (bt_ 12 0) (by kernel_rfl) rfl rfl ⟨hx31_0,hx31_1,hx31_2,hx31_3,hx31_4,hx31_5,hx31_6,hx31_7,hx31_8,hx31_9,hx31_10,hx31_11,hx32_0,hx32_1,hx32_2,hx32_3,hx32_4,hx32_5,hx32_6,hx32_7,hx32_8,hx32_9,hx32_10,hx32_11⟩ (fun hHeld=> ?_);refine with_tabW r10_Admit.tab12 r10_Admit.bits12 (fun HT_ HW_=> ?_)
   generalize w49.drew=w50 at HO_7 HO_8 BK1 BK2 HB hx31_0 hx31_1 hx31_10 hx31_11 hx31_2 hx31_3 hx31_4 hx31_5 hx31_6 hx31_7 hx31_8 hx31_9 hx32_0 hx32_1 hx32_10 hx32_11 hx32_2 hx32_3 hx32_4 hx32_5 hx32_6 hx32_7 hx32_8 hx32_9 hHeld ⊢
   refine pu_ (i:=0) (N:=some 48) (bt_ 12 1) HT_ ?_
   refine pu_ (i:=1) (N:=some 49) (bt_ 12 3) HT_ ?_
   refine pu_ (i:=2) (N:=some 50) (bt_ 12 7) HT_ ?_
   refine pu_ (i:=3) (N:=some 51) (bt_ 12 15) HT_ ?_
   refine pu_ (i:=5) (N:=some 53) (bt_ 12 47) HT_ ?_
   refine pu_ (i:=6) (N:=some 54) (bt_ 12 111) HT_ ?_
   refine pu_ (i:=7) (N:=some 55) (bt_ 12 239) HT_ ?_
   refine pu_ (i:=8) (N:=some 56) (bt_ 12 495) HT_ ?_
   refine tk_ (i:=4) (N:=some 52) (bt_ 12 511) HT_ HW_ hHeld ?_
   refine tk_ (i:=9) (N:=some 57) (bt_ 12 1023) HT_ HW_ hHeld ?_
   refine on_ (i:=10) (N:=some 58) (bt_ 12 2047) HT_ (fun K hK=> ?_)
   refine gs_ Try.func34 #[.agg #[.int .i64 ((rd_T31 y30 t25).f4.f0), .int .i64 ((rd_T31 y30 t25).f4.f1), .int .i64 ((rd_T31 y30 t25).f4.f2)], .agg #[.int .i64 ((rd_T31 y30 t25).f2.f0), .int .i64 ((rd_T31 y30 t25).f2.f1), .int .i64 ((rd_T31 y30 t25).f2.f2)]] ?_
   with_reducible refine (r10_Le.calls ((rd_T31 y30 t25).f4.f0) ((rd_T31 y30 t25).f4.f1) ((rd_T31 y30 t25).f4.f2) ((rd_T31 y30 t25).f2.f0) ((rd_T31 y30 t25).f2.f1) ((rd_T31 y30 t25).f2.f2) false _ A35.out).mono ?_
   rintro e w51 ⟨rfl,hb⟩
   have HS0_:=zh_ hb (hHeld.1)
   have HS1_:=zh_ hb (hHeld.2.1)
   have HS2_:=zh_ hb (hHeld.2.2.1)
   have HS3_:=zh_ hb (hHeld.2.2.2.1)
   have HS4_:=zh_ hb (hHeld.2.2.2.2.1)
   have HS5_:=zh_ hb (hHeld.2.2.2.2.2.1)
   have HS6_:=zh_ hb (hHeld.2.2.2.2.2.2.1)
   have HS7_:=zh_ hb (hHeld.2.2.2.2.2.2.2.1)
   have HS8_:=zh_ hb (hHeld.2.2.2.2.2.2.2.2.1)
   have HS9_:=zh_ hb (hHeld.2.2.2.2.2.2.2.2.2.1)
   have HS10_:=zh_ hb (hHeld.2.2.2.2.2.2.2.2.2.2.1)
   have HS11_:=zh_ hb (hHeld.2.2.2.2.2.2.2.2.2.2.2.1)
   have HS12_:=zh_ hb (hHeld.2.2.2.2.2.2.2.2.2.2.2.2.1)
   have HS13_:=zh_ hb (hHeld.2.2.2.2.2.2.2.2.2.2.2.2.2.1)
   have HS14_:=zh_ hb (hHeld.2.2.2.2.2.2.2.2.2.2.2.2.2.2.1)
   have HS15_:=zh_ hb (hHeld.2.2.2.2.2.2.2.2.2.2.2.2.2.2.2.1)
   have HS16_:=zh_ hb (hHeld.2.2.2.2.2.2.2.2.2.2.2.2.2.2.2.2.1)
   have HS17_:=zh_ hb (hHeld.2.2.2.2.2.2.2.2.2.2.2.2.2.2.2.2.2.1)
   have HS18_:=zh_ hb (hHeld.2.2.2.2.2.2.2.2.2.2.2.2.2.2.2.2.2.2.1)
   have HS19_:=zh_ hb (hHeld.2.2.2.2.2.2.2.2.2.2.2.2.2.2.2.2.2.2.2.1)
   have HS20_:=zh_ hb (hHeld.2.2.2.2.2.2.2.2.2.2.2.2.2.2.2.2.2.2.2.2.1)
   have HS21_:=zh_ hb (hHeld.2.2.2.2.2.2.2.2.2.2.2.2.2.2.2.2.2.2.2.2.2.1)
   have HS22_:=zh_ hb (hHeld.2.2.2.2.2.2.2.2.2.2.2.2.2.2.2.2.2.2.2.2.2.2.1)
   have HS23_:=zh_ hb (hHeld.2.2.2.2.2.2.2.2.2.2.2.2.2.2.2.2.2.2.2.2.2.2.2)
   refine ⟨_,rfl, ?_⟩
   replace HO_7:=am_ (Kd.R_below (zr_ HO_7) hb)
   replace HO_8:=am_ (Kd.R_below (zr_ HO_8) hb)
   replace BK1:=am_ (blk_below (zb_ BK1) hb)
   replace BK2:=am_ (blk_below (zb_ BK2) hb)
   replace HB:=am_ (below_step (zl2_ HB GE1 GE2) hb)
   (try clear hb)
   (try clear hb2)
   (try clear hk)
   (try clear hi)
   refine hK.out _ _ ⟨HS0_,HS1_,HS2_,HS3_,HS4_,HS5_,HS6_,HS7_,HS8_,HS9_,HS10_,HS11_,HS12_,HS13_,HS14_,HS15_,HS16_,HS17_,HS18_,HS19_,HS20_,HS21_,HS22_,HS23_⟩ (fun hHeld=> ?_)
   clear hK K
   refine no_ (N:=some 58) ?_
   refine pu_ (i:=11) (N:=some 59) (bt_ 12 4095) HT_ ?_
   refine done_ (done_of HT_.out (by kernel_rfl)) ?_
   try go_wp2_with (first|((with_reducible refine gate_callee (f:=113) rfl ?_);refine gl_ (some 60) Try.func113 #[.int .i64 12] ?_;(with_reducible refine (r10_no.calls 12 t34 t37 _ A44.out).mono ?_);rintro e w52 ⟨v35,rfl,ho0,hb⟩;refine ⟨_,rfl, ?_⟩;replace HO_7:=am_ (Kd.R_below (zr_ HO_7) hb);have HO36:=am_ (Kd.R_lower (Kd.R_new' ho0 (Kd.R_lt (zr_ HO_8))) (below_size (zl2_ HB GE1 GE2)));replace HO_8:=am_ (Kd.R_elder' (zr_ HO_8) (Kd.R_base ho0) hb);replace BK1:=am_ (blk_below (zb_ BK1) hb);replace BK2:=am_ (blk_below (zb_ BK2) hb);replace HB:=am_ (below_step (zl2_ HB GE1 GE2) hb);(try clear hb);(try clear hb2);(try clear hk);(try clear hi);(try clear ho0);obtain ⟨Ao53,co53,eo53⟩:=Kd.R_slice HO36.out;subst eo53;obtain ⟨hcz55_0,hcz55_1⟩:=x2_ BK2;have hfz55_0:=blk_frozen BK2.out 0;have hfz55_1:=blk_frozen BK2.out 1))
   refine bodyPost_ret (results_cell_row rfl _ _ gb2 67 #[.slice Ao53 t34.length co53, .int .i64 t37] (0,0) _ rfl (zw_ BK2) Try.underlying67 rfl (by kernel_rfl)) rfl ?_
   exact ⟨_,by first|rfl|(simp [errW_none,errW_some]<;>rfl)|(simp [*,errW_none,errW_some]<;>rfl),zy_ HO36 BK2,zl2_ HB GE1 GE2⟩
end Go.Proofs.Ytcgefpklljclgaa.Print

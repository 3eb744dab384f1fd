/- EffectMade: a part -/
import Derived.Test.YtcgefpklljclgaaProg
import Derived.Below
import Derived.Deep.Draws
import Derived.Deep.AppendLies
import Derived.Maps.AppendAt
import Derived.OwnWalk
import Derived.Laws.BytesArg
import Derived.Laws.MakeOwn
import Derived.Laws.OwnMore
import Derived.Deep.OwnRows
import Derived.Tactics
import Derived.Lib.ConvBytes
import Derived.Laws.Slices
import Derived.WalkKit
import Derived.KernelRfl
import Derived.RowKit3
import Derived.Deep.LoopGhost
import Derived.Deep.QuietTactic
import Derived.BigQuiet
import Derived.WideLaws
import Derived.Deep.DeepCutAuto
import Derived.Deep.CutBlock
import Derived.Deep.RegionHeld3
import Derived.Laws.Rows
import Derived.Lib.AppendStr
import Derived.ArgAppend
import Derived.Laws.IdiomCopy
import Derived.OrdersHeld
import Derived.Laws.BitsLemmas
import Derived.RowKit
import Derived.Shelf.Abstract
import Derived.WalkSpells
import Derived.Laws.Cover1
import Derived.Test.YtcgefpklljclgaaBEffectMade0
set_option linter.unusedVariables false
set_option linter.unusedSimpArgs false
namespace Go.Proofs.Ytcgefpklljclgaa.Print
open Go.RowKit Go.Proofs.YtcgefpklljclgaaW.PrintWords Go.Proofs.YtcgefpklljclgaaW.PrintLast Go.Proofs.YtcgefpklljclgaaW.PrintMore
attribute [local go_sem] max2_int min2_int max_two min_two max_three min_three max_four min_four



def errW:Option Int→Value
 |none=> .nilIface
 |some c=> .iface 0 (.int .i64 c)
theorem errW_none:errW none= .nilIface:=rfl
theorem errW_some (c:Int):errW (some c)= .iface 0 (.int .i64 c):=rfl

theorem info9:(Try.prog.info? 9).map (fun i=>(i.zero,i.size,i.bytes))=some (some (.string ⟨#[]⟩),1,16):=by kernel_rfl
theorem info31:(Try.prog.info? 31).map (fun i=>(i.zero,i.size,i.bytes))=some (some (.agg #[(.string ⟨#[]⟩),(.string ⟨#[]⟩),(.int .i64 0),(.int .i64 0),(.int .i64 0),(.int .i64 0),(.int .i64 0),(.int .i64 0),(.int .i64 0),(.int .i64 0),(.int .i64 0),(.int .i64 0)]),12,112):=by kernel_rfl
theorem info54:(Try.prog.info? 54).map (fun i=>(i.zero,i.size,i.bytes))=some (some (.agg #[(.string ⟨#[]⟩),(.string ⟨#[]⟩),(.int .i64 0),(.int .i64 0),(.int .i64 0),(.int .i64 0)]),6,64):=by kernel_rfl
-- the values' own types
structure S27 where
 f0:Int
 f1:Int
 f2:Int
def z27:S27:=⟨(0:Int),(0:Int),(0:Int)⟩
def k27:Kd S27:=Kd.iso (Kd.pair (Kd.int .i64) (Kd.pair (Kd.int .i64) (Kd.int .i64))) (fun x:S27=>(x.f0,x.f1,x.f2))
theorem k27_open {w:World} {x:S27} {cs:List Value} (h:k27.K w x cs):cs=[.int .i64 x.f0, .int .i64 x.f1, .int .i64 x.f2]:=by
 obtain ⟨_,_,rfl,rfl,⟨_,_,rfl,rfl,rfl⟩⟩:=h
 exact rfl
theorem k27_openM {w:World} {base:Nat} {ok:Nat→Prop} {x:S27} {cs:List Value} (h:k27.M w base ok x cs):cs=[.int .i64 x.f0, .int .i64 x.f1, .int .i64 x.f2]:=by
 obtain ⟨_,_,rfl,rfl,⟨_,_,rfl,rfl,rfl⟩⟩:=h
 exact rfl
theorem k27_mkM (w:World) (base:Nat) (ok:Nat→Prop) (x:S27):k27.M w base ok x [.int .i64 x.f0, .int .i64 x.f1, .int .i64 x.f2]:=⟨[.int .i64 x.f0],[.int .i64 x.f1, .int .i64 x.f2],rfl,rfl,⟨[.int .i64 x.f1],[.int .i64 x.f2],rfl,rfl,rfl⟩⟩
structure S31 where
 f0:ByteArray
 f1:ByteArray
 f2:S27
 f3:S27
 f4:S27
 f5:Int
def z31:S31:=⟨(⟨#[]⟩:ByteArray),(⟨#[]⟩:ByteArray),z27,z27,z27,(0:Int)⟩
def k31:Kd S31:=Kd.iso (Kd.pair Kd.string (Kd.pair Kd.string (Kd.pair k27 (Kd.pair k27 (Kd.pair k27 (Kd.int .i64)))))) (fun x:S31=>(x.f0,x.f1,x.f2,x.f3,x.f4,x.f5))
theorem k31_open {w:World} {x:S31} {cs:List Value} (h:k31.K w x cs):cs=[.string x.f0, .string x.f1, .int .i64 x.f2.f0, .int .i64 x.f2.f1, .int .i64 x.f2.f2, .int .i64 x.f3.f0, .int .i64 x.f3.f1, .int .i64 x.f3.f2, .int .i64 x.f4.f0, .int .i64 x.f4.f1, .int .i64 x.f4.f2, .int .i64 x.f5]:=by
 obtain ⟨_,_,rfl,rfl,⟨_,_,rfl,rfl,⟨_,_,rfl,s2,⟨_,_,rfl,s5,⟨_,_,rfl,s8,rfl⟩⟩⟩⟩⟩:=h
 obtain rfl:=k27_open s2
 obtain rfl:=k27_open s5
 obtain rfl:=k27_open s8
 exact rfl
theorem k31_openM {w:World} {base:Nat} {ok:Nat→Prop} {x:S31} {cs:List Value} (h:k31.M w base ok x cs):cs=[.string x.f0, .string x.f1, .int .i64 x.f2.f0, .int .i64 x.f2.f1, .int .i64 x.f2.f2, .int .i64 x.f3.f0, .int .i64 x.f3.f1, .int .i64 x.f3.f2, .int .i64 x.f4.f0, .int .i64 x.f4.f1, .int .i64 x.f4.f2, .int .i64 x.f5]:=by
 obtain ⟨_,_,rfl,rfl,⟨_,_,rfl,rfl,⟨_,_,rfl,s2,⟨_,_,rfl,s5,⟨_,_,rfl,s8,rfl⟩⟩⟩⟩⟩:=h
 obtain rfl:=k27_openM s2
 obtain rfl:=k27_openM s5
 obtain rfl:=k27_openM s8
 exact rfl
theorem k31_mkM (w:World) (base:Nat) (ok:Nat→Prop) (x:S31):k31.M w base ok x [.string x.f0, .string x.f1, .int .i64 x.f2.f0, .int .i64 x.f2.f1, .int .i64 x.f2.f2, .int .i64 x.f3.f0, .int .i64 x.f3.f1, .int .i64 x.f3.f2, .int .i64 x.f4.f0, .int .i64 x.f4.f1, .int .i64 x.f4.f2, .int .i64 x.f5]:=⟨[.string x.f0],[.string x.f1, .int .i64 x.f2.f0, .int .i64 x.f2.f1, .int .i64 x.f2.f2, .int .i64 x.f3.f0, .int .i64 x.f3.f1, .int .i64 x.f3.f2, .int .i64 x.f4.f0, .int .i64 x.f4.f1, .int .i64 x.f4.f2, .int .i64 x.f5],rfl,rfl,⟨[.string x.f1],[.int .i64 x.f2.f0, .int .i64 x.f2.f1, .int .i64 x.f2.f2, .int .i64 x.f3.f0, .int .i64 x.f3.f1, .int .i64 x.f3.f2, .int .i64 x.f4.f0, .int .i64 x.f4.f1, .int .i64 x.f4.f2, .int .i64 x.f5],rfl,rfl,⟨[.int .i64 x.f2.f0, .int .i64 x.f2.f1, .int .i64 x.f2.f2],[.int .i64 x.f3.f0, .int .i64 x.f3.f1, .int .i64 x.f3.f2, .int .i64 x.f4.f0, .int .i64 x.f4.f1, .int .i64 x.f4.f2, .int .i64 x.f5],rfl,(k27_mkM w base ok x.f2),⟨[.int .i64 x.f3.f0, .int .i64 x.f3.f1, .int .i64 x.f3.f2],[.int .i64 x.f4.f0, .int .i64 x.f4.f1, .int .i64 x.f4.f2, .int .i64 x.f5],rfl,(k27_mkM w base ok x.f3),⟨[.int .i64 x.f4.f0, .int .i64 x.f4.f1, .int .i64 x.f4.f2],[.int .i64 x.f5],rfl,(k27_mkM w base ok x.f4),rfl⟩⟩⟩⟩⟩
def rd_T31 (xs:List S31) (i:Int):S31:=xs.getD i.toNat z31
theorem at_T31 {w:World} {A:Option Addr} {n:Nat} {xs:List S31} (h:Kd.C k31 w A n xs) (i:Int) (h0:0≤i) (h1:i<n): ∃ad,A=some ad∧w.cell? (ad.add (i.toNat*12))=some (.string (rd_T31 xs i).f0)∧w.cell? ⟨(ad.add (i.toNat*12)).block,(ad.add (i.toNat*12)).off+1,none⟩=some (.string (rd_T31 xs i).f1)∧w.cell? ⟨(ad.add (i.toNat*12)).block,(ad.add (i.toNat*12)).off+2,none⟩=some (.int .i64 (rd_T31 xs i).f2.f0)∧w.cell? ⟨(ad.add (i.toNat*12)).block,(ad.add (i.toNat*12)).off+3,none⟩=some (.int .i64 (rd_T31 xs i).f2.f1)∧w.cell? ⟨(ad.add (i.toNat*12)).block,(ad.add (i.toNat*12)).off+4,none⟩=some (.int .i64 (rd_T31 xs i).f2.f2)∧w.cell? ⟨(ad.add (i.toNat*12)).block,(ad.add (i.toNat*12)).off+5,none⟩=some (.int .i64 (rd_T31 xs i).f3.f0)∧w.cell? ⟨(ad.add (i.toNat*12)).block,(ad.add (i.toNat*12)).off+6,none⟩=some (.int .i64 (rd_T31 xs i).f3.f1)∧w.cell? ⟨(ad.add (i.toNat*12)).block,(ad.add (i.toNat*12)).off+7,none⟩=some (.int .i64 (rd_T31 xs i).f3.f2)∧w.cell? ⟨(ad.add (i.toNat*12)).block,(ad.add (i.toNat*12)).off+8,none⟩=some (.int .i64 (rd_T31 xs i).f4.f0)∧w.cell? ⟨(ad.add (i.toNat*12)).block,(ad.add (i.toNat*12)).off+9,none⟩=some (.int .i64 (rd_T31 xs i).f4.f1)∧w.cell? ⟨(ad.add (i.toNat*12)).block,(ad.add (i.toNat*12)).off+10,none⟩=some (.int .i64 (rd_T31 xs i).f4.f2)∧w.cell? ⟨(ad.add (i.toNat*12)).block,(ad.add (i.toNat*12)).off+11,none⟩=some (.int .i64 (rd_T31 xs i).f5):=by
 obtain ⟨ad,c,e,_,hK,hc0⟩:=Kd.C_get h z31 i h0 h1
 have hc: ∀j u,c[j]?=some u→w.cell? (ad.add (i.toNat*12+j))=some u:=hc0
 obtain rfl:=k31_open hK
 exact ⟨ad,e,hc 0 _ rfl,by rw [←add_field _ _ 1 (by omega)];exact hc 1 _ rfl,by rw [←add_field _ _ 2 (by omega)];exact hc 2 _ rfl,by rw [←add_field _ _ 3 (by omega)];exact hc 3 _ rfl,by rw [←add_field _ _ 4 (by omega)];exact hc 4 _ rfl,by rw [←add_field _ _ 5 (by omega)];exact hc 5 _ rfl,by rw [←add_field _ _ 6 (by omega)];exact hc 6 _ rfl,by rw [←add_field _ _ 7 (by omega)];exact hc 7 _ rfl,by rw [←add_field _ _ 8 (by omega)];exact hc 8 _ rfl,by rw [←add_field _ _ 9 (by omega)];exact hc 9 _ rfl,by rw [←add_field _ _ 10 (by omega)];exact hc 10 _ rfl,by rw [←add_field _ _ 11 (by omega)];exact hc 11 _ rfl⟩

structure S37 where
 f0:ByteArray
 f1:Int
structure S54 where
 f0:ByteArray
 f1:ByteArray
 f2:S27
 f3:Int
def z54:S54:=⟨(⟨#[]⟩:ByteArray),(⟨#[]⟩:ByteArray),z27,(0:Int)⟩
def k54:Kd S54:=Kd.iso (Kd.pair Kd.string (Kd.pair Kd.string (Kd.pair k27 (Kd.int .i64)))) (fun x:S54=>(x.f0,x.f1,x.f2,x.f3))
theorem k54_open {w:World} {x:S54} {cs:List Value} (h:k54.K w x cs):cs=[.string x.f0, .string x.f1, .int .i64 x.f2.f0, .int .i64 x.f2.f1, .int .i64 x.f2.f2, .int .i64 x.f3]:=by
 obtain ⟨_,_,rfl,rfl,⟨_,_,rfl,rfl,⟨_,_,rfl,s2,rfl⟩⟩⟩:=h
 obtain rfl:=k27_open s2
 exact rfl
theorem k54_mkM (w:World) (base:Nat) (ok:Nat→Prop) (x:S54):k54.M w base ok x [.string x.f0, .string x.f1, .int .i64 x.f2.f0, .int .i64 x.f2.f1, .int .i64 x.f2.f2, .int .i64 x.f3]:=⟨[.string x.f0],[.string x.f1, .int .i64 x.f2.f0, .int .i64 x.f2.f1, .int .i64 x.f2.f2, .int .i64 x.f3],rfl,rfl,⟨[.string x.f1],[.int .i64 x.f2.f0, .int .i64 x.f2.f1, .int .i64 x.f2.f2, .int .i64 x.f3],rfl,rfl,⟨[.int .i64 x.f2.f0, .int .i64 x.f2.f1, .int .i64 x.f2.f2],[.int .i64 x.f3],rfl,(k27_mkM w base ok x.f2),rfl⟩⟩⟩
def rd_T54 (xs:List S54) (i:Int):S54:=xs.getD i.toNat z54
theorem at_T54 {w:World} {A:Option Addr} {n:Nat} {xs:List S54} (h:Kd.C k54 w A n xs) (i:Int) (h0:0≤i) (h1:i<n): ∃ad,A=some ad∧w.cell? (ad.add (i.toNat*6))=some (.string (rd_T54 xs i).f0)∧w.cell? ⟨(ad.add (i.toNat*6)).block,(ad.add (i.toNat*6)).off+1,none⟩=some (.string (rd_T54 xs i).f1)∧w.cell? ⟨(ad.add (i.toNat*6)).block,(ad.add (i.toNat*6)).off+2,none⟩=some (.int .i64 (rd_T54 xs i).f2.f0)∧w.cell? ⟨(ad.add (i.toNat*6)).block,(ad.add (i.toNat*6)).off+3,none⟩=some (.int .i64 (rd_T54 xs i).f2.f1)∧w.cell? ⟨(ad.add (i.toNat*6)).block,(ad.add (i.toNat*6)).off+4,none⟩=some (.int .i64 (rd_T54 xs i).f2.f2)∧w.cell? ⟨(ad.add (i.toNat*6)).block,(ad.add (i.toNat*6)).off+5,none⟩=some (.int .i64 (rd_T54 xs i).f3):=by
 obtain ⟨ad,c,e,_,hK,hc0⟩:=Kd.C_get h z54 i h0 h1
 have hc: ∀j u,c[j]?=some u→w.cell? (ad.add (i.toNat*6+j))=some u:=hc0
 obtain rfl:=k54_open hK
 exact ⟨ad,e,hc 0 _ rfl,by rw [←add_field _ _ 1 (by omega)];exact hc 1 _ rfl,by rw [←add_field _ _ 2 (by omega)];exact hc 2 _ rfl,by rw [←add_field _ _ 3 (by omega)];exact hc 3 _ rfl,by rw [←add_field _ _ 4 (by omega)];exact hc 4 _ rfl,by rw [←add_field _ _ 5 (by omega)];exact hc 5 _ rfl⟩

structure S58 where
 f0:Int
 f1:ByteArray
 f2:ByteArray
 f3:S27
structure S180 where
 f0:ByteArray
 f1:ByteArray
 f2:S27
structure S113 where
 f0:(List S31)
 f1:Int
 f2:Int
theorem eqA27 (d:Nat) (w:World) (x0 y0:Int) (x1 y1:Int) (x2 y2:Int):
  (Op.equalIn (d+2) 27 (.agg #[.int .i64 x0, .int .i64 x1, .int .i64 x2]) (.agg #[.int .i64 y0, .int .i64 y1, .int .i64 y2])).run Try.prog w= .ok (x0==y0 && (x1==y1 && (x2==y2))) w:=by
 refine eqA_of Try.underlying27 (by kernel_rfl) ?_
 refine eqf_cons (by rfl) (by go_simp;rfl) (by go_simp;rfl) (by go_simp) ?_
 refine eqf_cons (by rfl) (by go_simp;rfl) (by go_simp;rfl) (by go_simp) ?_
 exact eqf_last (by rfl) (by go_simp;rfl) (by go_simp;rfl) (by go_simp)
theorem eqA54 (d:Nat) (w:World) (x0 y0:ByteArray) (x1 y1:ByteArray) (x2 y2:Int) (x3 y3:Int) (x4 y4:Int) (x5 y5:Int):
  (Op.equalIn (d+3) 54 (.agg #[.string x0, .string x1, .int .i64 x2, .int .i64 x3, .int .i64 x4, .int .i64 x5]) (.agg #[.string y0, .string y1, .int .i64 y2, .int .i64 y3, .int .i64 y4, .int .i64 y5])).run Try.prog w= .ok (x0.toList==y0.toList && (x1.toList==y1.toList && ((x2==y2 && (x3==y3 && (x4==y4))) && (x5==y5)))) w:=by
 refine eqA_of Try.underlying54 (by kernel_rfl) ?_
 refine eqf_cons (by rfl) (by go_simp;rfl) (by go_simp;rfl) (by go_simp) ?_
 refine eqf_cons (by rfl) (by go_simp;rfl) (by go_simp;rfl) (by go_simp) ?_
 refine eqf_cons (by rfl) (by go_simp) (by go_simp) (eqA27 (d+0) w _ _ _ _ _ _) ?_
 exact eqf_last (by rfl) (by go_simp;rfl) (by go_simp;rfl) (by go_simp)
attribute [local go_sem high] eqA54
def r16_SameMarks.l0:Nat→List (S54)→List (S54)→Int→Option (Bool)
 |0,_,_,_=>none
 |k+1,x0,x1,x5=>if x5<(x0.length:Int) then (if 0≤x5 then (if x5<(x1.length:Int) then (if (!((((rd_T54 x0 x5).f0).toList)==(((rd_T54 x1 x5).f0).toList))||(!((((rd_T54 x0 x5).f1).toList)==(((rd_T54 x1 x5).f1).toList))||((!(((rd_T54 x0 x5).f2.f0)==((rd_T54 x1 x5).f2.f0))||(!(((rd_T54 x0 x5).f2.f1)==((rd_T54 x1 x5).f2.f1))||(!(((rd_T54 x0 x5).f2.f2)==((rd_T54 x1 x5).f2.f2)))))||(!(((rd_T54 x0 x5).f3)==((rd_T54 x1 x5).f3))))))=true then (some false) else (r16_SameMarks.l0 k x0 x1 (wrap64 (x5+1)))) else (none)) else (none)) else (some true)
def r16_SameMarks.f (k:Nat) (l0:List (S54)) (l1:List (S54)):Option (Bool):=if (l0.length:Int)=(l1.length:Int) then (r16_SameMarks.l0 k l0 l1 0) else (some false)
theorem r16_SameMarks.mono_l: ∀k,(∀y0 y1 y2,LeO (r16_SameMarks.l0 k y0 y1 y2) (r16_SameMarks.l0 (k+1) y0 y1 y2))
 |0=>fun _ _ _ r h=>by simp [r16_SameMarks.l0] at h
 |k+1=>by
  have ih0:=r16_SameMarks.mono_l k
  intro y0 y1 y2
  unfold r16_SameMarks.l0
  repeat' first
  |(with_reducible exact ih0 _ _ _)
  |(with_reducible exact LeO.refl _)
  |(with_reducible exact LeO.none _)
  |(with_reducible refine LeO.ite ?_ ?_)
  |(with_reducible refine LeO.bind ?_ (fun _=> ?_))
  |exact ih0 _ _ _
  |exact LeO.none _
  |refine LeO.ite ?_ ?_
  |refine LeO.bind ?_ (fun _=> ?_)
theorem r16_SameMarks.mono: ∀a0 a1 k,LeO (r16_SameMarks.f k a0 a1) (r16_SameMarks.f (k+1) a0 a1):=by
 intro a0 a1 k
 have ih0:=r16_SameMarks.mono_l k
 unfold r16_SameMarks.f
 repeat' first
  |(with_reducible exact ih0 _ _ _)
  |(with_reducible exact LeO.refl _)
  |(with_reducible exact LeO.none _)
  |(with_reducible refine LeO.ite ?_ ?_)
  |(with_reducible refine LeO.bind ?_ (fun _=> ?_))
  |exact ih0 _ _ _
  |exact LeO.none _
  |refine LeO.ite ?_ ?_
  |refine LeO.bind ?_ (fun _=> ?_)
set_option maxHeartbeats 8000000 in
set_option maxRecDepth 100000 in
theorem r16_SameMarks.calls (k:Nat) (A0:Option Addr) (c0:Nat) (l0:List (S54)) (A1:Option Addr) (c1:Nat) (l1:List (S54)) (r:Bool) (w:World) (hr0:Kd.C k54 w A0 l0.length l0) (hc0:l0.length≤c0) (hr1:Kd.C k54 w A1 l1.length l1) (hc1:l1.length≤c1) (h:r16_SameMarks.f k l0 l1=some r):
  Calls Try.prog 45 #[.slice A0 l0.length c0, .slice A1 l1.length c1] w fun e w'=>e= .returned (.bool r)∧Drawn0 w w':=by
 have hu54:=Try.underlying54
 have HR0:=Aside0.mk hr0
 have HC0:=Aside0.mk hc0
 clear hr0 hc0
 have HR1:=Aside0.mk hr1
 have HC1:=Aside0.mk hc1
 clear hr1 hc1
 have H:(if (l0.length:Int)=(l1.length:Int) then (r16_SameMarks.l0 k l0 l1 0) else (some false))=some r:=h
 clear h
 by_cases c3:(l0.length:Int)=(l1.length:Int)
 rotate_left
 ·rw [if_neg c3] at H
  have c3b0:((l0.length:Int)==(l1.length:Int))=false:=beq_eq_false_iff_ne.mpr c3
  have c3b1:((l0.length:Int) !=(l1.length:Int))=true:=bne_iff_ne.mpr c3
  have c3b2:(l0.length==l1.length)=false:=by first|simpa using c3|(simp at c3 ⊢;omega)
  obtain rfl:=Option.some.inj H
  go_enter Try.func45,Try.ntmps45
  go_wp2
  repeat (go_quiet (fail);try go_wp2)
  go_ret
  exact ⟨by first|rfl|(simp;done)|(simp [*];done),by repeat (first|exact Drawn0.refl _|apply Drawn0.step)⟩

 rw [if_pos c3] at H
 have c3b0:((l0.length:Int)==(l1.length:Int))=true:=beq_iff_eq.mpr c3
 have c3b1:((l0.length:Int) !=(l1.length:Int))=false:=bne_eq_false_iff_eq.mpr c3
 have c3b2:(l0.length==l1.length)=true:=by first|simpa using c3|(simp at c3 ⊢;omega)
 clear c3
 have H':=Aside0.mk H
 clear H
 go_enter Try.func45,Try.ntmps45
 go_wp2
 repeat (go_quiet (fail);try go_wp2)
 go_loopg [5] k (fun kq v5 w'=> ∃(x5_1:Int),v5= .int .i64 x5_1∧Aside0 (r16_SameMarks.l0 kq l0 l1 x5_1=some r)∧Aside0 (kq≤k)∧Drawn0 w w')
 case atStart=>exact ⟨(0),(by first|rfl|(simp;done)|(simp [*];done)),H',⟨Nat.le_refl _⟩,by repeat (first|exact Drawn0.refl _|apply Drawn0.step)⟩
 case round=>
  clear H'
  try clear c1
  try clear p2
  try clear c3
  try clear c3b0
  try clear c3b1
  try clear c3b2
  obtain ⟨x5_1,rfl,HA,HK1,⟨m1,rfl⟩⟩:=hrel
  cases gk with
  |zero=>exact absurd HA.out (by simp [r16_SameMarks.l0])
  |succ k1=>
   have H:=HA.out
   clear HA
   simp only [r16_SameMarks.l0] at H
   by_cases c4:x5_1<(l0.length:Int)
   rotate_left
   ·rw [if_neg c4] at H
    have c4b0:decide (x5_1<(l0.length:Int))=false:=decide_eq_false c4
    clear c4
    obtain rfl:=Option.some.inj H
    go_wp2
    repeat (go_quiet (fail);try go_wp2)
    go_ret
    exact ⟨by first|rfl|(simp;done)|(simp [*];done),by repeat (first|exact Drawn0.refl _|apply Drawn0.step)⟩
   rw [if_pos c4] at H
   have c4b0:decide (x5_1<(l0.length:Int))=true:=decide_eq_true c4
   clear c4
   by_cases c5:0≤x5_1
   rotate_left
   ·rw [if_neg c5] at H
    exact absurd H (by simp)
   rw [if_pos c5] at H
   have c5b0:decide (0≤x5_1)=true:=decide_eq_true c5
   clear c5
   by_cases c6:x5_1<(l1.length:Int)
   rotate_left
   ·rw [if_neg c6] at H
    exact absurd H (by simp)
   rw [if_pos c6] at H
   have c6b0:decide (x5_1<(l1.length:Int))=true:=decide_eq_true c6
   clear c6
   by_cases c7:(!((((rd_T54 l0 x5_1).f0).toList)==(((rd_T54 l1 x5_1).f0).toList))||(!((((rd_T54 l0 x5_1).f1).toList)==(((rd_T54 l1 x5_1).f1).toList))||((!(((rd_T54 l0 x5_1).f2.f0)==((rd_T54 l1 x5_1).f2.f0))||(!(((rd_T54 l0 x5_1).f2.f1)==((rd_T54 l1 x5_1).f2.f1))||(!(((rd_T54 l0 x5_1).f2.f2)==((rd_T54 l1 x5_1).f2.f2)))))||(!(((rd_T54 l0 x5_1).f3)==((rd_T54 l1 x5_1).f3))))))=true
   ·rw [if_pos c7] at H
    have c7b0:(!((((rd_T54 l0 x5_1).f0).toList)==(((rd_T54 l1 x5_1).f0).toList))||(!((((rd_T54 l0 x5_1).f1).toList)==(((rd_T54 l1 x5_1).f1).toList))||((!(((rd_T54 l0 x5_1).f2.f0)==((rd_T54 l1 x5_1).f2.f0))||(!(((rd_T54 l0 x5_1).f2.f1)==((rd_T54 l1 x5_1).f2.f1))||(!(((rd_T54 l0 x5_1).f2.f2)==((rd_T54 l1 x5_1).f2.f2)))))||(!(((rd_T54 l0 x5_1).f3)==((rd_T54 l1 x5_1).f3))))))=true:=c7
    clear c7
    obtain rfl:=Option.some.inj H
    have p1:0≤(x5_1:Int):=of_decide_eq_true zq_
    have q1:x5_1<(l0.length:Int):=of_decide_eq_true zq_
    obtain ⟨ad1,e1,hx1_0,hx1_1,hx1_2,hx1_3,hx1_4,hx1_5⟩:=at_T54 HR0.out x5_1 p1 q1
    cases e1
    replace p1:=eq_true p1
    replace q1:=eq_true q1
    have p2:0≤(x5_1:Int):=of_decide_eq_true zq_
    have q2:x5_1<(l1.length:Int):=of_decide_eq_true zq_
    obtain ⟨ad2,e2,hx2_0,hx2_1,hx2_2,hx2_3,hx2_4,hx2_5⟩:=at_T54 HR1.out x5_1 p2 q2
    cases e2
    replace p2:=eq_true p2
    replace q2:=eq_true q2
    go_wp2
    repeat (go_quiet (fail);try go_wp2)
    go_ret
    exact ⟨by first|rfl|(simp;done)|(simp [*];done),by repeat (first|exact Drawn0.refl _|apply Drawn0.step)⟩
   rw [if_neg c7] at H
   have c7b0:(!((((rd_T54 l0 x5_1).f0).toList)==(((rd_T54 l1 x5_1).f0).toList))||(!((((rd_T54 l0 x5_1).f1).toList)==(((rd_T54 l1 x5_1).f1).toList))||((!(((rd_T54 l0 x5_1).f2.f0)==((rd_T54 l1 x5_1).f2.f0))||(!(((rd_T54 l0 x5_1).f2.f1)==((rd_T54 l1 x5_1).f2.f1))||(!(((rd_T54 l0 x5_1).f2.f2)==((rd_T54 l1 x5_1).f2.f2)))))||(!(((rd_T54 l0 x5_1).f3)==((rd_T54 l1 x5_1).f3))))))=false:=by simpa using c7
   clear c7
   have H':=Aside0.mk H
   clear H
   have p1:0≤(x5_1:Int):=of_decide_eq_true zq_
   have q1:x5_1<(l0.length:Int):=of_decide_eq_true zq_
   obtain ⟨ad1,e1,hx1_0,hx1_1,hx1_2,hx1_3,hx1_4,hx1_5⟩:=at_T54 HR0.out x5_1 p1 q1
   cases e1
   replace p1:=eq_true p1
   replace q1:=eq_true q1
   have p2:0≤(x5_1:Int):=of_decide_eq_true zq_
   have q2:x5_1<(l1.length:Int):=of_decide_eq_true zq_
   obtain ⟨ad2,e2,hx2_0,hx2_1,hx2_2,hx2_3,hx2_4,hx2_5⟩:=at_T54 HR1.out x5_1 p2 q2
   cases e2
   replace p2:=eq_true p2
   replace q2:=eq_true q2
   go_wp2
   repeat (go_quiet (fail);try go_wp2)
   go_roundg k1
   case measure=>have:=HK1.out;omega
   case rel=>exact ⟨(wrap64 (x5_1+1)),(by first|rfl|(simp;done)|(simp [*];done)),H',⟨by have:=HK1.out;omega⟩,by repeat (first|exact Drawn0.refl _|apply Drawn0.step)⟩
def fidx {α:Type} (p:α→Bool):List α→Int→Int
 |[],_=> -1
 |x::l,i=>if p x=true then i else fidx p l (i+1)
theorem fidx_drop {α:Type} (p:α→Bool) (z:α) (l:List α) (i:Nat) (h:i<l.length):fidx p (l.drop i) i=if p (l.getD i z)=true then (i:Int) else fidx p (l.drop (i+1)) ((i+1:Nat):Int):=by
 rw [List.drop_eq_getElem_cons h,List.getD_eq_getElem?_getD,List.getElem?_eq_getElem h]
 rfl
def itemCells (x:S31):Array Value:=#[.string x.f0, .string x.f1, .int .i64 x.f2.f0, .int .i64 x.f2.f1, .int .i64 x.f2.f2, .int .i64 x.f3.f0, .int .i64 x.f3.f1, .int .i64 x.f3.f2, .int .i64 x.f4.f0, .int .i64 x.f4.f1, .int .i64 x.f4.f2, .int .i64 x.f5]
set_option maxHeartbeats 1000000 in
set_option maxRecDepth 100000 in
theorem idxItem_calls (g:Nat) (lb:Array Value) (p:S31→Bool) (eg: ∀args w,(callFunc g args).run Try.prog w= .ok (.enter g args) w) (w:World)
    (hp: ∀W x,Below w.heap.size w W→Calls Try.prog g (#[.agg (itemCells x)]++lb) W fun e w'=>e= .returned (.bool (p x))∧Below W.heap.size W w')
    (A:Option Addr) (c:Nat) (l:List S31) (hr0:Kd.C k31 w A l.length l) (hc0:l.length≤c):
    Calls Try.prog 127 #[.slice A l.length c, .func (.func g) #[] lb] w fun e w'=>e= .returned (.int .i64 (fidx p l 0))∧Below w.heap.size w w':=by
  have hu31:=Try.underlying31
  have HR0:=Aside0.mk hr0
  have HP:=Aside0.mk hp
  have HEG:=Aside0.mk eg
  have hm:l.length≤9223372036854775807:=hr0.2.1
  clear hr0 hp eg
  go_enter Try.func127,Try.ntmps127
  go_wp2
  go_loopg [5,8] l.length (fun kq s5 s8 wr=> ∃i:Nat,i≤l.length∧l.length - i≤kq∧s8= .int .i64 i∧Aside0 (Below w.heap.size w wr)∧Aside0 (fidx p l 0=fidx p (l.drop i) i))
  case atStart=>exact ⟨0,by omega,by omega,rfl,⟨Below.refl _ _⟩,⟨rfl⟩⟩
  case round=>
    obtain ⟨i,hi,hg,rfl,HB,HF⟩:=hrel
    by_cases hlt:i<l.length
    rotate_left
    · obtain rfl : i = l.length := by omega
      go_wp2
      go_ret
      refine ⟨?_,HB.out⟩
      rw [HF.out,List.drop_length]
      rfl


    have hltz:(i:Int)<(l.length:Int):=by omega
    obtain ⟨ad,e1,h0,h1,h2,h3,h4,h5,h6,h7,h8,h9,h10,h11⟩:=at_T31 HR0.out (i:Int) (by omega) (by omega)
    cases e1
    simp only [Int.toNat_natCast] at h0 h1 h2 h3 h4 h5 h6 h7 h8 h9 h10 h11
    replace h0:=zx_ HB h0
    replace h1:=zx_ HB h1
    replace h2:=zx_ HB h2
    replace h3:=zx_ HB h3
    replace h4:=zx_ HB h4
    replace h5:=zx_ HB h5
    replace h6:=zx_ HB h6
    replace h7:=zx_ HB h7
    replace h8:=zx_ HB h8
    replace h9:=zx_ HB h9
    replace h10:=zx_ HB h10
    replace h11:=zx_ HB h11
    have hd:Aside0 _:=⟨fidx_drop p z31 l i hlt⟩
    have HC:=am_ (HP.out wr (rd_T31 l i) HB.out)
    generalize hy:rd_T31 l i=y at h0 h1 h2 h3 h4 h5 h6 h7 h8 h9 h10 h11 HC
    have hq:p (l.getD i z31)=p y:=by rw [←hy];simp [rd_T31]
    have HQ:=Aside0.mk hq
    clear hy hq
    have eg:=HEG.out
    cases hb:p y with
    | true =>
      rw [hb] at HC HQ
      clear hb
      go_wp2_with (go_at_fn g;refine HC.out.mono ?_;rintro e w' ⟨rfl,hb'⟩;have HB':=am_ (below_step HB.out hb');clear hb')
      go_ret
      refine ⟨?_,HB'.out⟩
      rw [HF.out,hd.out,HQ.out]
      rfl
    | false =>
      rw [hb] at HC HQ
      clear hb
      go_wp2_with (go_at_fn g;refine HC.out.mono ?_;rintro e w' ⟨rfl,hb'⟩;have HB':=am_ (below_step HB.out hb');clear hb')
      go_roundg (l.length - (i+1))
      case measure=>omega
      case rel=>exact ⟨i+1,by omega,by omega,by go_num,HB',⟨by rw [HF.out,hd.out,HQ.out];rfl⟩⟩
set_option maxHeartbeats 1000000 in
set_option maxRecDepth 100000 in
theorem treeFind1_calls (W:World) (b:Nat) (nm:ByteArray) (hb:W.heap[b]?=some (.cells #[.string nm] 9 (0,0))) (x:S31):
  Calls Try.prog 128 #[.agg (itemCells x), .pointer (some ⟨b,0,none⟩)] W fun e w'=>e= .returned (.bool (x.f0.toList==nm.toList))∧Below W.heap.size W w':=by
 unfold itemCells
 have hu31:=Try.underlying31
 have h0:=(blk_cell hb 0).trans rfl
 have hl:b<W.heap.size:=blk_lt hb
 clear hb
 go_enter Try.func128,Try.ntmps128
 go_wp2
 go_ret
 exact ⟨rfl,by repeat (first|(with_reducible first|exact Below.refl _ _|apply below_alloc|apply pw_below_drewN|apply below_drew1))⟩
def tree_Find.f (l0:List (S31)) (a1:ByteArray):Option Int:=some (fidx (fun x=>x.f0.toList==a1.toList) l0 0)
set_option maxHeartbeats 1000000 in
set_option maxRecDepth 100000 in
theorem tree_Find.calls (A0:Option Addr) (c0:Nat) (l0:List (S31)) (a1:ByteArray) (r:Int) (w:World) (hr0:Kd.C k31 w A0 l0.length l0) (hc0:l0.length≤c0) (h:tree_Find.f l0 a1=some r):
  Calls Try.prog 71 #[.slice A0 l0.length c0, .string a1] w fun e w'=>e= .returned (.int .i64 r)∧Below w.heap.size w w':=by
 have hr:fidx (fun x=>x.f0.toList==a1.toList) l0 0=r:=Option.some.inj h
 obtain ⟨W1,hW1⟩: ∃W1,W1=w.alloc (.cells #[.string a1] 9):=⟨_,rfl⟩
 have hn:W1.heap[w.heap.size]?=some (.cells #[.string a1] 9 (0,0)):=by rw [hW1];exact blk_new _ _
 have hB:Below w.heap.size w W1:=by rw [hW1];exact below_alloc (Below.refl _ _) _
 have HC:=am_ (idxItem_calls 128 #[.pointer (some ⟨w.heap.size,0,none⟩)] (fun x=>x.f0.toList==a1.toList) (enters_of Try.func128 (by kernel_rfl) rfl) W1 (fun W x hb=>treeFind1_calls W w.heap.size a1 (blk_below hn hb) x) A0 c0 l0 (Kd.C_below hr0 hB) hc0)
 rw [hr] at HC
 have HW:=Aside0.mk hW1
 have HB:=Aside0.mk hB
 clear hr0 hr hW1 hn hB h
 go_enter Try.func71,Try.ntmps71
 go_wp2_with fail
 rw [←HW.out]
 refine HC.out.mono ?_
 rintro e w' ⟨rfl,hb⟩
 have HB':=am_ (below_step HB.out hb)
 clear hb
 go_wp2
 go_ret
 exact ⟨rfl,HB'.out⟩


end Go.Proofs.Ytcgefpklljclgaa.Print

namespace Go.Proofs.Ytcgefpklljclgaa.Print
open Go.RowKit Go.Proofs.YtcgefpklljclgaaW.PrintWords Go.Proofs.YtcgefpklljclgaaW.PrintLast Go.Proofs.YtcgefpklljclgaaW.PrintMore
section
variable {P:Program} {ops:Array Oper} {rest:List Oper} {o:Oper} {a:Act} {Q:Exit→Act→World→Prop} {Kc:Act→World→Prop} {W:World}
theorem put_run {gb e:Nat} {zs:Array Value} (hh:W.heap[gb]?=some (.cells zs e (0,0))) (t:TypeId) (u:Value) (off:Nat) (seg:List Value) (hu:u.cells.toList=seg) (ht:(P.info? t).map (·.size)=some seg.length) (hfit:off+seg.length≤zs.size) (h1: ∀q∈seg,q.oneCell'=true):
  ∃w' cur,(Instr.storeAt t (.pointer (some ⟨gb,off,none⟩)) u).run P W= .ok () w'∧w'.heap[gb]?=some (.cells cur e (0,0))∧cur.size=zs.size∧cur.toList=zs.toList.take off++seg++zs.toList.drop (off+seg.length)∧W.grownBy w' (some gb):=by
 have hrun:=run_store_run (P:=P) t u seg hh hu ht (o:=off) hfit h1
 obtain ⟨cur,hc,hs,hl⟩:=setCells_row seg off W zs hh hfit
 obtain ⟨s1,s2,s3,s4⟩:=setCells_same gb seg off W
 exact ⟨_,cur,hrun,hc,hs,hl,⟨s1,s2,s3,by rw [s4];exact Nat.le_refl _,fun k hk hne=>setCells_far seg off k (by rintro rfl;exact hne rfl)⟩⟩
theorem store_all {gb e:Nat} {zs:Array Value} (hh:W.heap[gb]?=some (.cells zs e (0,0))) (t:TypeId) (p x:Operand) (ho:o.op= .store t p x) (hN:o.dst=none) (hgd:o.guard=none) (u:Value) (seg:List Value)
  (hp:a.eval p= .pointer (some ⟨gb,0,none⟩)) (hx:a.eval x=u) (hu:u.cells.toList=seg) (ht:(P.info? t).map (·.size)=some seg.length) (hz:zs.size=seg.length) (h1: ∀q∈seg,q.oneCell'=true)
  (h: ∀w',w'.heap[gb]?=some (.cells seg.toArray e (0,0))→W.grownBy w' (some gb)→wpList P ops Q rest a w'):wpList P ops Q (o::rest) a W:=by
 obtain ⟨w',cur,hrun,hc,hs,hl,hg⟩:=put_run (P:=P) hh t u 0 seg hu ht (by omega) h1
 have e1:cur=seg.toArray:=by
  apply Array.ext'
  rw [hl,List.take_zero,List.nil_append,Nat.zero_add,List.drop_of_length_le (by simp [Array.length_toList];omega),List.append_nil]
 subst e1
 refine wpList_plain hgd fun K hK=> ?_
 unfold Oper.wp execOp
 simp only [ho,hp,hx,Sem.run_bind,Sem.run_pure,Result.andThen_ok,hrun]
 show K (a.put o.dst undef) _
 rw [hN]
 exact hK a _ (h _ hc hg)
theorem store_part {gb e:Nat} {zs:Array Value} (hh:W.heap[gb]?=some (.cells zs e (0,0))) (t:TypeId) (p x:Operand) (ho:o.op= .store t p x) (hN:o.dst=none) (hgd:o.guard=none) (off:Nat) (u:Value) (seg new:List Value)
  (hp:a.eval p= .pointer (some ⟨gb,off,none⟩)) (hx:a.eval x=u) (hu:u.cells.toList=seg) (ht:(P.info? t).map (·.size)=some seg.length) (hz:off+seg.length≤zs.size) (h1: ∀q∈seg,q.oneCell'=true) (hnew:zs.toList.take off++seg++zs.toList.drop (off+seg.length)=new)
  (h: ∀w',w'.heap[gb]?=some (.cells new.toArray e (0,0))→W.grownBy w' (some gb)→wpList P ops Q rest a w'):wpList P ops Q (o::rest) a W:=by
 obtain ⟨w',cur,hrun,hc,hs,hl,hg⟩:=put_run (P:=P) hh t u off seg hu ht hz h1
 have e1:cur=new.toArray:=by
  apply Array.ext'
  rw [hl,hnew]
 subst e1
 refine wpList_plain hgd fun K hK=> ?_
 unfold Oper.wp execOp
 simp only [ho,hp,hx,Sem.run_bind,Sem.run_pure,Result.andThen_ok,hrun]
 show K (a.put o.dst undef) _
 rw [hN]
 exact hK a _ (h _ hc hg)
end
theorem R_put {α:Type} {d:Kd α} {e base:Nat} {w w1:World} {v:Value} {xs:List α} (h:d.R e w base (fun _=>True) v xs) {g t:Nat} {cells:Array Value} (hb:w.heap[g]?=some (.cells cells t (0,0))) (ht: ∀q,q∈e::d.E→q≠t) (hg:w.grownBy w1 (some g)):d.R e w1 base (fun _=>True) v xs:=
 Kd.R_mono (Kd.R_grown (Kd.R_types h hb ht) hg (fun _ hk e=>hk.2 (Option.some.inj e))) (fun _ _=>trivial)
theorem below_put {a w w1:World} {base g:Nat} (h:Below base a w) (hb:base≤w.heap.size) (hg:w.grownBy w1 (some g)) (hge:base≤g):Below base a w1:=pw_below_grown h (some g) hb hg (fun k e=>by cases e;exact hge)
theorem blk_put_other {w w1:World} {g k:Nat} {ob:Obj} (h:w.heap[k]?=some ob) (hg:w.grownBy w1 (some g)) (hne:k≠g):w1.heap[k]?=some ob:=by
  rw [hg.block k (by
    rcases Nat.lt_or_ge k w.heap.size with hl|hl
    · exact hl
    rw [Array.getElem?_eq_none hl] at h;cases h) (by intro e;cases e;exact hne rfl)]
  exact h
end Go.Proofs.Ytcgefpklljclgaa.Print

namespace Go.Proofs.Ytcgefpklljclgaa.Print
open Go.RowKit Go.Proofs.YtcgefpklljclgaaW.PrintWords Go.Proofs.YtcgefpklljclgaaW.PrintLast Go.Proofs.YtcgefpklljclgaaW.PrintMore
attribute [local go_sem] max2_int min2_int max_two min_two max_three min_three max_four min_four

def effect_find.f (l:List S31) (n:ByteArray):Option (ByteArray×ByteArray×Int×Int×Int×Int×Int×Int×Int×Int×Int×Int×Bool):=(tree_Find.f l n).bind fun t=>if t≥0 then (if t<(l.length:Int) then some ((rd_T31 l t).f0,(rd_T31 l t).f1,(rd_T31 l t).f2.f0,(rd_T31 l t).f2.f1,(rd_T31 l t).f2.f2,(rd_T31 l t).f3.f0,(rd_T31 l t).f3.f1,(rd_T31 l t).f3.f2,(rd_T31 l t).f4.f0,(rd_T31 l t).f4.f1,(rd_T31 l t).f4.f2,(rd_T31 l t).f5,true) else none) else some ((⟨#[]⟩:ByteArray),(⟨#[]⟩:ByteArray),0,0,0,0,0,0,0,0,0,0,false)
set_option maxHeartbeats 8000000 in
set_option maxRecDepth 100000 in
theorem effFind_calls (A:Option Addr) (c:Nat) (l:List S31) (n:ByteArray) (r2 r3:ByteArray) (r4 r5 r6 r7 r8 r9 r10 r11 r12 r13:Int) (r14:Bool) (w:World) (hr:Kd.C k31 w A l.length l) (hc:l.length≤c) (h:effect_find.f l n=some (r2,r3,r4,r5,r6,r7,r8,r9,r10,r11,r12,r13,r14)):
    Calls Try.prog 110 #[.slice A l.length c, .string n] w fun e w'=>e= .returned (.agg #[.slice A l.length c, .string r2, .string r3, .int .i64 r4, .int .i64 r5, .int .i64 r6, .int .i64 r7, .int .i64 r8, .int .i64 r9, .int .i64 r10, .int .i64 r11, .int .i64 r12, .int .i64 r13, .bool r14])∧Below w.heap.size w w':=by
  have hu142:=Try.underlying142
  have hu140:=Try.underlying140
  have hu31:=Try.underlying31
  obtain ⟨t,ht,h⟩:=Option.bind_eq_some_iff.1 h
  have HR:=Aside0.mk hr
  have HC:=Aside0.mk hc
  have HT:=Aside0.mk ht
  have HH:=Aside0.mk h
  have HB:=am_ (Below.refl w.heap.size w)
  clear hr hc ht h
  go_enter Try.func110,Try.ntmps110
  go_wp2_with (first|((with_reducible refine gate_dst (N:=4) rfl ?_);refine bx_ (N:=4) (cs:=#[.slice none 0 0, .string ⟨#[]⟩, .string ⟨#[]⟩, .int .i64 0, .int .i64 0, .int .i64 0, .int .i64 0, .int .i64 0, .int .i64 0, .int .i64 0, .int .i64 0, .int .i64 0, .int .i64 0, .bool false]) (t:=142) ?_;intro gb4 hg w1 hbox hb;have BK4:=am_ (hbox);have GE4:=am_ ((by rw [hg];exact below_size HB.out:w.heap.size≤gb4));replace HB:=am_ (below_step HB.out hb);have EQ4:=am_ (hg);clear hb hbox hg)|((with_reducible refine gate_dst (N:=5) rfl ?_);refine bx_ (N:=5) (cs:=#[.slice none 0 0, .string ⟨#[]⟩, .string ⟨#[]⟩, .int .i64 0, .int .i64 0, .int .i64 0, .int .i64 0, .int .i64 0, .int .i64 0, .int .i64 0, .int .i64 0, .int .i64 0, .int .i64 0, .bool false]) (t:=142) ?_;intro gb5 hg w2 hbox hb;have NE:=am_ (show gb4≠gb5 from by have:=blk_lt BK4.out;rw [hg];exact Nat.ne_of_lt this);replace BK4:=am_ (blk_below BK4.out hb);have BK5:=am_ (hbox);have GE5:=am_ ((by rw [hg];exact below_size HB.out:w.heap.size≤gb5));replace HB:=am_ (below_step HB.out hb);have EQ5:=am_ (hg);clear hb hbox hg;have cgb5_0:=(blk_cell BK5.out 0).trans rfl;have cgb5_1:=(blk_cell BK5.out 1).trans rfl;have cgb5_2:=(blk_cell BK5.out 2).trans rfl;have cgb5_3:=(blk_cell BK5.out 3).trans rfl;have cgb5_4:=(blk_cell BK5.out 4).trans rfl;have cgb5_5:=(blk_cell BK5.out 5).trans rfl;have cgb5_6:=(blk_cell BK5.out 6).trans rfl;have cgb5_7:=(blk_cell BK5.out 7).trans rfl;have cgb5_8:=(blk_cell BK5.out 8).trans rfl;have cgb5_9:=(blk_cell BK5.out 9).trans rfl;have cgb5_10:=(blk_cell BK5.out 10).trans rfl;have cgb5_11:=(blk_cell BK5.out 11).trans rfl;have cgb5_12:=(blk_cell BK5.out 12).trans rfl;have cgb5_13:=(blk_cell BK5.out 13).trans rfl)|((with_reducible refine gate_store (t:=142) (p:=5) (v:= .tmp 9) rfl ?_);refine store_all BK5.out 142 (.tmp 5) (.tmp 9) rfl rfl rfl (.agg #[.slice A l.length c, .string ⟨#[]⟩, .string ⟨#[]⟩, .int .i64 0, .int .i64 0, .int .i64 0, .int .i64 0, .int .i64 0, .int .i64 0, .int .i64 0, .int .i64 0, .int .i64 0, .int .i64 0, .bool false]) [.slice A l.length c, .string ⟨#[]⟩, .string ⟨#[]⟩, .int .i64 0, .int .i64 0, .int .i64 0, .int .i64 0, .int .i64 0, .int .i64 0, .int .i64 0, .int .i64 0, .int .i64 0, .int .i64 0, .bool false] rfl rfl rfl (by kernel_rfl) rfl (by intro q hq;simp only [List.mem_cons,List.not_mem_nil,or_false] at hq;rcases hq with rfl|rfl|rfl|rfl|rfl|rfl|rfl|rfl|rfl|rfl|rfl|rfl|rfl|rfl<;>rfl) ?_;intro w3 hbk hg;clear cgb5_0 cgb5_1 cgb5_2 cgb5_3 cgb5_4 cgb5_5 cgb5_6 cgb5_7 cgb5_8 cgb5_9 cgb5_10 cgb5_11 cgb5_12 cgb5_13;replace BK4:=am_ (blk_put_other BK4.out hg (NE.out));replace HB:=am_ (below_put HB.out (below_size HB.out) hg GE5.out);replace BK5:=am_ (hbk);clear hbk hg;have cgb5_0:=(blk_cell BK5.out 0).trans rfl;have cgb5_1:=(blk_cell BK5.out 1).trans rfl;have cgb5_2:=(blk_cell BK5.out 2).trans rfl;have cgb5_3:=(blk_cell BK5.out 3).trans rfl;have cgb5_4:=(blk_cell BK5.out 4).trans rfl;have cgb5_5:=(blk_cell BK5.out 5).trans rfl;have cgb5_6:=(blk_cell BK5.out 6).trans rfl;have cgb5_7:=(blk_cell BK5.out 7).trans rfl;have cgb5_8:=(blk_cell BK5.out 8).trans rfl;have cgb5_9:=(blk_cell BK5.out 9).trans rfl;have cgb5_10:=(blk_cell BK5.out 10).trans rfl;have cgb5_11:=(blk_cell BK5.out 11).trans rfl;have cgb5_12:=(blk_cell BK5.out 12).trans rfl;have cgb5_13:=(blk_cell BK5.out 13).trans rfl))
  refine (tree_Find.calls _ _ l n t _ (Kd.C_below HR.out HB.out) HC.out HT.out).mono ?_
  rintro e w4 ⟨rfl,hb⟩
  have n0_:=am_ (blk_below BK4.out hb)
  have n1_:=am_ (blk_below BK5.out hb)
  have n2_:=am_ (below_step HB.out hb)
  clear BK4 BK5 HB hb cgb5_0 cgb5_1 cgb5_2 cgb5_3 cgb5_4 cgb5_5 cgb5_6 cgb5_7 cgb5_8 cgb5_9 cgb5_10 cgb5_11 cgb5_12 cgb5_13
  have BK4:=n0_
  have BK5:=n1_
  have HB:=n2_
  clear n0_ n1_ n2_
  have h:=HH.out
  clear HH
  by_cases c1:t≥0
  rotate_left
  · rw [if_neg c1] at h
    have c1b:decide (0≤t)=false:=decide_eq_false c1
    simp only [Option.some.injEq,Prod.mk.injEq] at h
    obtain ⟨rfl,rfl,rfl,rfl,rfl,rfl,rfl,rfl,rfl,rfl,rfl,rfl,rfl⟩:=h
    clear c1
    have cgb5_0:=(blk_cell BK5.out 0).trans rfl
    have cgb5_1:=(blk_cell BK5.out 1).trans rfl
    have cgb5_2:=(blk_cell BK5.out 2).trans rfl
    have cgb5_3:=(blk_cell BK5.out 3).trans rfl
    have cgb5_4:=(blk_cell BK5.out 4).trans rfl
    have cgb5_5:=(blk_cell BK5.out 5).trans rfl
    have cgb5_6:=(blk_cell BK5.out 6).trans rfl
    have cgb5_7:=(blk_cell BK5.out 7).trans rfl
    have cgb5_8:=(blk_cell BK5.out 8).trans rfl
    have cgb5_9:=(blk_cell BK5.out 9).trans rfl
    have cgb5_10:=(blk_cell BK5.out 10).trans rfl
    have cgb5_11:=(blk_cell BK5.out 11).trans rfl
    have cgb5_12:=(blk_cell BK5.out 12).trans rfl
    have cgb5_13:=(blk_cell BK5.out 13).trans rfl
    go_wp2_with (first|((with_reducible refine gate_store (t:=142) (p:=4) (v:= .tmp 21) rfl ?_);refine store_all BK4.out 142 (.tmp 4) (.tmp 21) rfl rfl rfl (.agg #[.slice A l.length c, .string ⟨#[]⟩, .string ⟨#[]⟩, .int .i64 0, .int .i64 0, .int .i64 0, .int .i64 0, .int .i64 0, .int .i64 0, .int .i64 0, .int .i64 0, .int .i64 0, .int .i64 0, .bool false]) [.slice A l.length c, .string ⟨#[]⟩, .string ⟨#[]⟩, .int .i64 0, .int .i64 0, .int .i64 0, .int .i64 0, .int .i64 0, .int .i64 0, .int .i64 0, .int .i64 0, .int .i64 0, .int .i64 0, .bool false] rfl rfl rfl (by kernel_rfl) rfl (by intro q hq;simp only [List.mem_cons,List.not_mem_nil,or_false] at hq;rcases hq with rfl|rfl|rfl|rfl|rfl|rfl|rfl|rfl|rfl|rfl|rfl|rfl|rfl|rfl<;>rfl) ?_;intro w7 hbk hg;replace BK5:=am_ (blk_put_other BK5.out hg (fun e=>NE.out e.symm));replace HB:=am_ (below_put HB.out (below_size HB.out) hg GE4.out);replace BK4:=am_ (hbk);clear hbk hg))
    refine bodyPost_ret (results_cell_row rfl _ _ gb4 142 #[.slice A l.length c, .string ⟨#[]⟩, .string ⟨#[]⟩, .int .i64 0, .int .i64 0, .int .i64 0, .int .i64 0, .int .i64 0, .int .i64 0, .int .i64 0, .int .i64 0, .int .i64 0, .int .i64 0, .bool false] (0,0) _ rfl BK4.out Try.underlying142 rfl (by kernel_rfl)) rfl ?_
    exact ⟨rfl,HB.out⟩


  rw [if_pos c1] at h
  have c1b:decide (0≤t)=true:=decide_eq_true c1
  by_cases c2:t<(l.length:Int)
  rotate_left
  · rw [if_neg c2] at h
    cases h
  rw [if_pos c2] at h
  simp only [Option.some.injEq,Prod.mk.injEq] at h
  obtain ⟨rfl,rfl,rfl,rfl,rfl,rfl,rfl,rfl,rfl,rfl,rfl,rfl,rfl⟩:=h
  have p6:0≤t:=c1
  have q6:t<(l.length:Int):=c2
  obtain ⟨ad,e6,k0,k1,k2,k3,k4,k5,k6,k7,k8,k9,k10,k11⟩:=at_T31 HR.out t p6 q6
  cases e6
  have k0:=zx_ HB k0
  have k1:=zx_ HB k1
  have k2:=zx_ HB k2
  have k3:=zx_ HB k3
  have k4:=zx_ HB k4
  have k5:=zx_ HB k5
  have k6:=zx_ HB k6
  have k7:=zx_ HB k7
  have k8:=zx_ HB k8
  have k9:=zx_ HB k9
  have k10:=zx_ HB k10
  have k11:=zx_ HB k11
  replace p6:=eq_true p6
  replace q6:=eq_true q6
  clear c1 c2
  have cgb5_0:=(blk_cell BK5.out 0).trans rfl
  have cgb5_1:=(blk_cell BK5.out 1).trans rfl
  have cgb5_2:=(blk_cell BK5.out 2).trans rfl
  have cgb5_3:=(blk_cell BK5.out 3).trans rfl
  have cgb5_4:=(blk_cell BK5.out 4).trans rfl
  have cgb5_5:=(blk_cell BK5.out 5).trans rfl
  have cgb5_6:=(blk_cell BK5.out 6).trans rfl
  have cgb5_7:=(blk_cell BK5.out 7).trans rfl
  have cgb5_8:=(blk_cell BK5.out 8).trans rfl
  have cgb5_9:=(blk_cell BK5.out 9).trans rfl
  have cgb5_10:=(blk_cell BK5.out 10).trans rfl
  have cgb5_11:=(blk_cell BK5.out 11).trans rfl
  have cgb5_12:=(blk_cell BK5.out 12).trans rfl
  have cgb5_13:=(blk_cell BK5.out 13).trans rfl
  go_wp2_with (first|((with_reducible refine gate_store (t:=31) (p:=19) (v:= .tmp 18) rfl ?_);refine store_part BK5.out 31 (.tmp 19) (.tmp 18) rfl rfl rfl 1 (.agg #[.string (rd_T31 l t).f0, .string (rd_T31 l t).f1, .int .i64 (rd_T31 l t).f2.f0, .int .i64 (rd_T31 l t).f2.f1, .int .i64 (rd_T31 l t).f2.f2, .int .i64 (rd_T31 l t).f3.f0, .int .i64 (rd_T31 l t).f3.f1, .int .i64 (rd_T31 l t).f3.f2, .int .i64 (rd_T31 l t).f4.f0, .int .i64 (rd_T31 l t).f4.f1, .int .i64 (rd_T31 l t).f4.f2, .int .i64 (rd_T31 l t).f5]) [.string (rd_T31 l t).f0, .string (rd_T31 l t).f1, .int .i64 (rd_T31 l t).f2.f0, .int .i64 (rd_T31 l t).f2.f1, .int .i64 (rd_T31 l t).f2.f2, .int .i64 (rd_T31 l t).f3.f0, .int .i64 (rd_T31 l t).f3.f1, .int .i64 (rd_T31 l t).f3.f2, .int .i64 (rd_T31 l t).f4.f0, .int .i64 (rd_T31 l t).f4.f1, .int .i64 (rd_T31 l t).f4.f2, .int .i64 (rd_T31 l t).f5] [.slice (some ad) l.length c, .string (rd_T31 l t).f0, .string (rd_T31 l t).f1, .int .i64 (rd_T31 l t).f2.f0, .int .i64 (rd_T31 l t).f2.f1, .int .i64 (rd_T31 l t).f2.f2, .int .i64 (rd_T31 l t).f3.f0, .int .i64 (rd_T31 l t).f3.f1, .int .i64 (rd_T31 l t).f3.f2, .int .i64 (rd_T31 l t).f4.f0, .int .i64 (rd_T31 l t).f4.f1, .int .i64 (rd_T31 l t).f4.f2, .int .i64 (rd_T31 l t).f5, .bool false] rfl rfl rfl (by kernel_rfl) (Nat.le_of_ble_eq_true (by kernel_rfl)) (by intro q hq;simp only [List.mem_cons,List.not_mem_nil,or_false] at hq;rcases hq with rfl|rfl|rfl|rfl|rfl|rfl|rfl|rfl|rfl|rfl|rfl|rfl<;>rfl) (by kernel_rfl) ?_;intro w5 hbk hg;clear cgb5_0 cgb5_1 cgb5_2 cgb5_3 cgb5_4 cgb5_5 cgb5_6 cgb5_7 cgb5_8 cgb5_9 cgb5_10 cgb5_11 cgb5_12 cgb5_13;replace BK4:=am_ (blk_put_other BK4.out hg (NE.out));replace HB:=am_ (below_put HB.out (below_size HB.out) hg GE5.out);replace BK5:=am_ (hbk);clear hbk hg;have cgb5_0:=(blk_cell BK5.out 0).trans rfl;have cgb5_1:=(blk_cell BK5.out 1).trans rfl;have cgb5_2:=(blk_cell BK5.out 2).trans rfl;have cgb5_3:=(blk_cell BK5.out 3).trans rfl;have cgb5_4:=(blk_cell BK5.out 4).trans rfl;have cgb5_5:=(blk_cell BK5.out 5).trans rfl;have cgb5_6:=(blk_cell BK5.out 6).trans rfl;have cgb5_7:=(blk_cell BK5.out 7).trans rfl;have cgb5_8:=(blk_cell BK5.out 8).trans rfl;have cgb5_9:=(blk_cell BK5.out 9).trans rfl;have cgb5_10:=(blk_cell BK5.out 10).trans rfl;have cgb5_11:=(blk_cell BK5.out 11).trans rfl;have cgb5_12:=(blk_cell BK5.out 12).trans rfl;have cgb5_13:=(blk_cell BK5.out 13).trans rfl)|((with_reducible refine gate_store (t:=4) (p:=20) (v:= .const (.bool true)) rfl ?_);refine store_part BK5.out 4 (.tmp 20) (.const (.bool true)) rfl rfl rfl 13 (.bool true) [.bool true] [.slice (some ad) l.length c, .string (rd_T31 l t).f0, .string (rd_T31 l t).f1, .int .i64 (rd_T31 l t).f2.f0, .int .i64 (rd_T31 l t).f2.f1, .int .i64 (rd_T31 l t).f2.f2, .int .i64 (rd_T31 l t).f3.f0, .int .i64 (rd_T31 l t).f3.f1, .int .i64 (rd_T31 l t).f3.f2, .int .i64 (rd_T31 l t).f4.f0, .int .i64 (rd_T31 l t).f4.f1, .int .i64 (rd_T31 l t).f4.f2, .int .i64 (rd_T31 l t).f5, .bool true] rfl rfl rfl (by kernel_rfl) (Nat.le_of_ble_eq_true (by kernel_rfl)) (by intro q hq;simp only [List.mem_cons,List.not_mem_nil,or_false] at hq;rcases hq with rfl<;>rfl) (by kernel_rfl) ?_;intro w6 hbk hg;clear cgb5_0 cgb5_1 cgb5_2 cgb5_3 cgb5_4 cgb5_5 cgb5_6 cgb5_7 cgb5_8 cgb5_9 cgb5_10 cgb5_11 cgb5_12 cgb5_13;replace BK4:=am_ (blk_put_other BK4.out hg (NE.out));replace HB:=am_ (below_put HB.out (below_size HB.out) hg GE5.out);replace BK5:=am_ (hbk);clear hbk hg;have cgb5_0:=(blk_cell BK5.out 0).trans rfl;have cgb5_1:=(blk_cell BK5.out 1).trans rfl;have cgb5_2:=(blk_cell BK5.out 2).trans rfl;have cgb5_3:=(blk_cell BK5.out 3).trans rfl;have cgb5_4:=(blk_cell BK5.out 4).trans rfl;have cgb5_5:=(blk_cell BK5.out 5).trans rfl;have cgb5_6:=(blk_cell BK5.out 6).trans rfl;have cgb5_7:=(blk_cell BK5.out 7).trans rfl;have cgb5_8:=(blk_cell BK5.out 8).trans rfl;have cgb5_9:=(blk_cell BK5.out 9).trans rfl;have cgb5_10:=(blk_cell BK5.out 10).trans rfl;have cgb5_11:=(blk_cell BK5.out 11).trans rfl;have cgb5_12:=(blk_cell BK5.out 12).trans rfl;have cgb5_13:=(blk_cell BK5.out 13).trans rfl)|((with_reducible refine gate_store (t:=142) (p:=4) (v:= .tmp 21) rfl ?_);refine store_all BK4.out 142 (.tmp 4) (.tmp 21) rfl rfl rfl (.agg #[.slice (some ad) l.length c, .string (rd_T31 l t).f0, .string (rd_T31 l t).f1, .int .i64 (rd_T31 l t).f2.f0, .int .i64 (rd_T31 l t).f2.f1, .int .i64 (rd_T31 l t).f2.f2, .int .i64 (rd_T31 l t).f3.f0, .int .i64 (rd_T31 l t).f3.f1, .int .i64 (rd_T31 l t).f3.f2, .int .i64 (rd_T31 l t).f4.f0, .int .i64 (rd_T31 l t).f4.f1, .int .i64 (rd_T31 l t).f4.f2, .int .i64 (rd_T31 l t).f5, .bool true]) [.slice (some ad) l.length c, .string (rd_T31 l t).f0, .string (rd_T31 l t).f1, .int .i64 (rd_T31 l t).f2.f0, .int .i64 (rd_T31 l t).f2.f1, .int .i64 (rd_T31 l t).f2.f2, .int .i64 (rd_T31 l t).f3.f0, .int .i64 (rd_T31 l t).f3.f1, .int .i64 (rd_T31 l t).f3.f2, .int .i64 (rd_T31 l t).f4.f0, .int .i64 (rd_T31 l t).f4.f1, .int .i64 (rd_T31 l t).f4.f2, .int .i64 (rd_T31 l t).f5, .bool true] rfl rfl rfl (by kernel_rfl) rfl (by intro q hq;simp only [List.mem_cons,List.not_mem_nil,or_false] at hq;rcases hq with rfl|rfl|rfl|rfl|rfl|rfl|rfl|rfl|rfl|rfl|rfl|rfl|rfl|rfl<;>rfl) ?_;intro w7 hbk hg;replace BK5:=am_ (blk_put_other BK5.out hg (fun e=>NE.out e.symm));replace HB:=am_ (below_put HB.out (below_size HB.out) hg GE4.out);replace BK4:=am_ (hbk);clear hbk hg))
  refine bodyPost_ret (results_cell_row rfl _ _ gb4 142 #[.slice (some ad) l.length c, .string (rd_T31 l t).f0, .string (rd_T31 l t).f1, .int .i64 (rd_T31 l t).f2.f0, .int .i64 (rd_T31 l t).f2.f1, .int .i64 (rd_T31 l t).f2.f2, .int .i64 (rd_T31 l t).f3.f0, .int .i64 (rd_T31 l t).f3.f1, .int .i64 (rd_T31 l t).f3.f2, .int .i64 (rd_T31 l t).f4.f0, .int .i64 (rd_T31 l t).f4.f1, .int .i64 (rd_T31 l t).f4.f2, .int .i64 (rd_T31 l t).f5, .bool true] (0,0) _ rfl BK4.out Try.underlying142 rfl (by kernel_rfl)) rfl ?_
  exact ⟨rfl,HB.out⟩
attribute [local go_sem high] eqA27
def effect_Holds.f (l0:List (S31)) (k:Int) (n p:ByteArray) (v0 v1 v2:Int):Option Bool:=(effect_find.f l0 n).bind fun r=>some (if k=1 then (r.2.2.2.2.2.2.2.2.2.2.2.2 && ((r.2.1.toList==p.toList) && (r.2.2.1==v0 && (r.2.2.2.1==v1 && (r.2.2.2.2.1==v2))))) else if k=2 then (r.2.2.2.2.2.2.2.2.2.2.2.2 && (r.2.2.1==v0 && (r.2.2.2.1==v1 && (r.2.2.2.2.1==v2)))) else if k=3 then (r.2.2.2.2.2.2.2.2.2.2.2.2 && (r.2.1.toList==p.toList)) else if k=4 then !r.2.2.2.2.2.2.2.2.2.2.2.2 else false)
set_option maxHeartbeats 8000000 in
set_option maxRecDepth 100000 in
theorem effect_Holds.calls (A:Option Addr) (c:Nat) (l:List (S31)) (k:Int) (n p:ByteArray) (v0 v1 v2:Int) (r:Bool) (w:World) (hr:Kd.C k31 w A l.length l) (hc:l.length≤c) (h:effect_Holds.f l k n p v0 v1 v2=some r):
    Calls Try.prog 52 #[.slice A l.length c, .agg #[.int .i64 k, .string n, .string p, .int .i64 v0, .int .i64 v1, .int .i64 v2]] w fun e w'=>e= .returned (.bool r)∧Below w.heap.size w w':=by
  have hu142:=Try.underlying142
  have hu140:=Try.underlying140
  have hu31:=Try.underlying31
  have hu58:=Try.underlying58
  have hu27:=Try.underlying27
  obtain ⟨⟨r2,r3,r4,r5,r6,r7,r8,r9,r10,r11,r12,r13,r14⟩,hf,h⟩:=Option.bind_eq_some_iff.1 h
  have HF:=Aside0.mk hf
  have HH:=Aside0.mk h
  have HR:=Aside0.mk hr
  have HC:=Aside0.mk hc
  have HB:=am_ (Below.refl w.heap.size w)
  clear hr hc hf h
  go_enter Try.func52,Try.ntmps52
  go_wp2_with (first|((with_reducible refine gate_dst (N:=3) rfl ?_);refine bx_ (N:=3) (cs:=#[.int .i64 k, .string n, .string p, .int .i64 v0, .int .i64 v1, .int .i64 v2]) (t:=58) ?_;intro gb3 hg w3 hbox hb;have BK3:=am_ (hbox);have GE3:=am_ ((by rw [hg];exact below_size HB.out:w.heap.size≤gb3));replace HB:=am_ (below_step HB.out hb);have EQ3:=am_ (hg);clear hb hbox hg;have cgb3_0:=(blk_cell BK3.out 0).trans rfl;have cgb3_1:=(blk_cell BK3.out 1).trans rfl;have cgb3_2:=(blk_cell BK3.out 2).trans rfl;have cgb3_3:=(blk_cell BK3.out 3).trans rfl;have cgb3_4:=(blk_cell BK3.out 4).trans rfl;have cgb3_5:=(blk_cell BK3.out 5).trans rfl))
  refine (effFind_calls A c l n r2 r3 r4 r5 r6 r7 r8 r9 r10 r11 r12 r13 r14 _ (Kd.C_below HR.out HB.out) HC.out HF.out).mono ?_
  rintro e w4 ⟨rfl,hb⟩
  have n0_:=am_ (blk_below BK3.out hb)
  have nB_:=am_ (below_step HB.out hb)
  clear BK3 HB hb cgb3_0 cgb3_1 cgb3_2 cgb3_3 cgb3_4 cgb3_5
  have BK3:=n0_
  have HB:=nB_
  clear nB_ n0_
  have h:=HH.out
  clear HH
  have HQ:=am_ (Option.some.inj h)
  clear h
  by_cases k1:k=1
  · subst k1
    rcases Bool.eq_false_or_eq_true r14 with q14|q14
    rotate_left
    · skip
      subst q14
      go_wp2_with (first|((with_reducible refine gate_dst (N:=5) rfl ?_);refine bx_ (N:=5) (cs:=#[.slice none 0 0, .string ⟨#[]⟩, .string ⟨#[]⟩, .int .i64 0, .int .i64 0, .int .i64 0, .int .i64 0, .int .i64 0, .int .i64 0, .int .i64 0, .int .i64 0, .int .i64 0, .int .i64 0, .bool false]) (t:=142) ?_;intro gb5 hg w5 hbox hb;have NE:=am_ (show gb3≠gb5 from by have:=blk_lt BK3.out;rw [hg];exact Nat.ne_of_lt this);replace BK3:=am_ (blk_below BK3.out hb);have BK5:=am_ (hbox);have GE5:=am_ ((by rw [hg];exact below_size HB.out:w.heap.size≤gb5));replace HB:=am_ (below_step HB.out hb);have EQ5:=am_ (hg);clear hb hbox hg)|((with_reducible refine gate_store (t:=142) (p:=5) (v:= .tmp 9) rfl ?_);refine store_all BK5.out 142 (.tmp 5) (.tmp 9) rfl rfl rfl (.agg #[.slice A l.length c, .string r2, .string r3, .int .i64 r4, .int .i64 r5, .int .i64 r6, .int .i64 r7, .int .i64 r8, .int .i64 r9, .int .i64 r10, .int .i64 r11, .int .i64 r12, .int .i64 r13, .bool false]) [.slice A l.length c, .string r2, .string r3, .int .i64 r4, .int .i64 r5, .int .i64 r6, .int .i64 r7, .int .i64 r8, .int .i64 r9, .int .i64 r10, .int .i64 r11, .int .i64 r12, .int .i64 r13, .bool false] rfl rfl rfl (by kernel_rfl) rfl (by intro q hq;simp only [List.mem_cons,List.not_mem_nil,or_false] at hq;rcases hq with rfl|rfl|rfl|rfl|rfl|rfl|rfl|rfl|rfl|rfl|rfl|rfl|rfl|rfl<;>rfl) ?_;intro w6 hbk hg;replace BK3:=am_ (blk_put_other BK3.out hg (NE.out));replace HB:=am_ (below_put HB.out (below_size HB.out) hg GE5.out);replace BK5:=am_ (hbk);clear hbk hg;have cgb5_0:=(blk_cell BK5.out 0).trans rfl;have cgb5_1:=(blk_cell BK5.out 1).trans rfl;have cgb5_2:=(blk_cell BK5.out 2).trans rfl;have cgb5_3:=(blk_cell BK5.out 3).trans rfl;have cgb5_4:=(blk_cell BK5.out 4).trans rfl;have cgb5_5:=(blk_cell BK5.out 5).trans rfl;have cgb5_6:=(blk_cell BK5.out 6).trans rfl;have cgb5_7:=(blk_cell BK5.out 7).trans rfl;have cgb5_8:=(blk_cell BK5.out 8).trans rfl;have cgb5_9:=(blk_cell BK5.out 9).trans rfl;have cgb5_10:=(blk_cell BK5.out 10).trans rfl;have cgb5_11:=(blk_cell BK5.out 11).trans rfl;have cgb5_12:=(blk_cell BK5.out 12).trans rfl;have cgb5_13:=(blk_cell BK5.out 13).trans rfl;have cgb3_0:=(blk_cell BK3.out 0).trans rfl;have cgb3_1:=(blk_cell BK3.out 1).trans rfl;have cgb3_2:=(blk_cell BK3.out 2).trans rfl;have cgb3_3:=(blk_cell BK3.out 3).trans rfl;have cgb3_4:=(blk_cell BK3.out 4).trans rfl;have cgb3_5:=(blk_cell BK3.out 5).trans rfl))
      go_ret
      exact ⟨by rw [←HQ.out];simp [*],HB.out⟩
    by_cases c1:r3.toList=p.toList
    · have c1b : (r3.toList == p.toList) = true := beq_iff_eq.mpr c1
      subst q14
      go_wp2_with (first|((with_reducible refine gate_dst (N:=5) rfl ?_);refine bx_ (N:=5) (cs:=#[.slice none 0 0, .string ⟨#[]⟩, .string ⟨#[]⟩, .int .i64 0, .int .i64 0, .int .i64 0, .int .i64 0, .int .i64 0, .int .i64 0, .int .i64 0, .int .i64 0, .int .i64 0, .int .i64 0, .bool false]) (t:=142) ?_;intro gb5 hg w5 hbox hb;have NE:=am_ (show gb3≠gb5 from by have:=blk_lt BK3.out;rw [hg];exact Nat.ne_of_lt this);replace BK3:=am_ (blk_below BK3.out hb);have BK5:=am_ (hbox);have GE5:=am_ ((by rw [hg];exact below_size HB.out:w.heap.size≤gb5));replace HB:=am_ (below_step HB.out hb);have EQ5:=am_ (hg);clear hb hbox hg)|((with_reducible refine gate_store (t:=142) (p:=5) (v:= .tmp 9) rfl ?_);refine store_all BK5.out 142 (.tmp 5) (.tmp 9) rfl rfl rfl (.agg #[.slice A l.length c, .string r2, .string r3, .int .i64 r4, .int .i64 r5, .int .i64 r6, .int .i64 r7, .int .i64 r8, .int .i64 r9, .int .i64 r10, .int .i64 r11, .int .i64 r12, .int .i64 r13, .bool true]) [.slice A l.length c, .string r2, .string r3, .int .i64 r4, .int .i64 r5, .int .i64 r6, .int .i64 r7, .int .i64 r8, .int .i64 r9, .int .i64 r10, .int .i64 r11, .int .i64 r12, .int .i64 r13, .bool true] rfl rfl rfl (by kernel_rfl) rfl (by intro q hq;simp only [List.mem_cons,List.not_mem_nil,or_false] at hq;rcases hq with rfl|rfl|rfl|rfl|rfl|rfl|rfl|rfl|rfl|rfl|rfl|rfl|rfl|rfl<;>rfl) ?_;intro w6 hbk hg;replace BK3:=am_ (blk_put_other BK3.out hg (NE.out));replace HB:=am_ (below_put HB.out (below_size HB.out) hg GE5.out);replace BK5:=am_ (hbk);clear hbk hg;have cgb5_0:=(blk_cell BK5.out 0).trans rfl;have cgb5_1:=(blk_cell BK5.out 1).trans rfl;have cgb5_2:=(blk_cell BK5.out 2).trans rfl;have cgb5_3:=(blk_cell BK5.out 3).trans rfl;have cgb5_4:=(blk_cell BK5.out 4).trans rfl;have cgb5_5:=(blk_cell BK5.out 5).trans rfl;have cgb5_6:=(blk_cell BK5.out 6).trans rfl;have cgb5_7:=(blk_cell BK5.out 7).trans rfl;have cgb5_8:=(blk_cell BK5.out 8).trans rfl;have cgb5_9:=(blk_cell BK5.out 9).trans rfl;have cgb5_10:=(blk_cell BK5.out 10).trans rfl;have cgb5_11:=(blk_cell BK5.out 11).trans rfl;have cgb5_12:=(blk_cell BK5.out 12).trans rfl;have cgb5_13:=(blk_cell BK5.out 13).trans rfl;have cgb3_0:=(blk_cell BK3.out 0).trans rfl;have cgb3_1:=(blk_cell BK3.out 1).trans rfl;have cgb3_2:=(blk_cell BK3.out 2).trans rfl;have cgb3_3:=(blk_cell BK3.out 3).trans rfl;have cgb3_4:=(blk_cell BK3.out 4).trans rfl;have cgb3_5:=(blk_cell BK3.out 5).trans rfl))
      go_ret
      exact ⟨by rw [←HQ.out];simp [*],HB.out⟩
    have c1b:(r3.toList==p.toList)=false:=beq_eq_false_iff_ne.mpr c1
    subst q14
    go_wp2_with (first|((with_reducible refine gate_dst (N:=5) rfl ?_);refine bx_ (N:=5) (cs:=#[.slice none 0 0, .string ⟨#[]⟩, .string ⟨#[]⟩, .int .i64 0, .int .i64 0, .int .i64 0, .int .i64 0, .int .i64 0, .int .i64 0, .int .i64 0, .int .i64 0, .int .i64 0, .int .i64 0, .bool false]) (t:=142) ?_;intro gb5 hg w5 hbox hb;have NE:=am_ (show gb3≠gb5 from by have:=blk_lt BK3.out;rw [hg];exact Nat.ne_of_lt this);replace BK3:=am_ (blk_below BK3.out hb);have BK5:=am_ (hbox);have GE5:=am_ ((by rw [hg];exact below_size HB.out:w.heap.size≤gb5));replace HB:=am_ (below_step HB.out hb);have EQ5:=am_ (hg);clear hb hbox hg)|((with_reducible refine gate_store (t:=142) (p:=5) (v:= .tmp 9) rfl ?_);refine store_all BK5.out 142 (.tmp 5) (.tmp 9) rfl rfl rfl (.agg #[.slice A l.length c, .string r2, .string r3, .int .i64 r4, .int .i64 r5, .int .i64 r6, .int .i64 r7, .int .i64 r8, .int .i64 r9, .int .i64 r10, .int .i64 r11, .int .i64 r12, .int .i64 r13, .bool true]) [.slice A l.length c, .string r2, .string r3, .int .i64 r4, .int .i64 r5, .int .i64 r6, .int .i64 r7, .int .i64 r8, .int .i64 r9, .int .i64 r10, .int .i64 r11, .int .i64 r12, .int .i64 r13, .bool true] rfl rfl rfl (by kernel_rfl) rfl (by intro q hq;simp only [List.mem_cons,List.not_mem_nil,or_false] at hq;rcases hq with rfl|rfl|rfl|rfl|rfl|rfl|rfl|rfl|rfl|rfl|rfl|rfl|rfl|rfl<;>rfl) ?_;intro w6 hbk hg;replace BK3:=am_ (blk_put_other BK3.out hg (NE.out));replace HB:=am_ (below_put HB.out (below_size HB.out) hg GE5.out);replace BK5:=am_ (hbk);clear hbk hg;have cgb5_0:=(blk_cell BK5.out 0).trans rfl;have cgb5_1:=(blk_cell BK5.out 1).trans rfl;have cgb5_2:=(blk_cell BK5.out 2).trans rfl;have cgb5_3:=(blk_cell BK5.out 3).trans rfl;have cgb5_4:=(blk_cell BK5.out 4).trans rfl;have cgb5_5:=(blk_cell BK5.out 5).trans rfl;have cgb5_6:=(blk_cell BK5.out 6).trans rfl;have cgb5_7:=(blk_cell BK5.out 7).trans rfl;have cgb5_8:=(blk_cell BK5.out 8).trans rfl;have cgb5_9:=(blk_cell BK5.out 9).trans rfl;have cgb5_10:=(blk_cell BK5.out 10).trans rfl;have cgb5_11:=(blk_cell BK5.out 11).trans rfl;have cgb5_12:=(blk_cell BK5.out 12).trans rfl;have cgb5_13:=(blk_cell BK5.out 13).trans rfl;have cgb3_0:=(blk_cell BK3.out 0).trans rfl;have cgb3_1:=(blk_cell BK3.out 1).trans rfl;have cgb3_2:=(blk_cell BK3.out 2).trans rfl;have cgb3_3:=(blk_cell BK3.out 3).trans rfl;have cgb3_4:=(blk_cell BK3.out 4).trans rfl;have cgb3_5:=(blk_cell BK3.out 5).trans rfl))
    go_ret
    exact ⟨by rw [←HQ.out];simp [*],HB.out⟩
  skip
  have k1b:(k==1)=false:=beq_eq_false_iff_ne.mpr k1
  by_cases k2:k=2
  · subst k2
    clear k1 k1b
    rcases Bool.eq_false_or_eq_true r14 with q14|q14
    · skip
      subst q14
      go_wp2_with (first|((with_reducible refine gate_dst (N:=5) rfl ?_);refine bx_ (N:=5) (cs:=#[.slice none 0 0, .string ⟨#[]⟩, .string ⟨#[]⟩, .int .i64 0, .int .i64 0, .int .i64 0, .int .i64 0, .int .i64 0, .int .i64 0, .int .i64 0, .int .i64 0, .int .i64 0, .int .i64 0, .bool false]) (t:=142) ?_;intro gb5 hg w5 hbox hb;have NE:=am_ (show gb3≠gb5 from by have:=blk_lt BK3.out;rw [hg];exact Nat.ne_of_lt this);replace BK3:=am_ (blk_below BK3.out hb);have BK5:=am_ (hbox);have GE5:=am_ ((by rw [hg];exact below_size HB.out:w.heap.size≤gb5));replace HB:=am_ (below_step HB.out hb);have EQ5:=am_ (hg);clear hb hbox hg)|((with_reducible refine gate_store (t:=142) (p:=5) (v:= .tmp 9) rfl ?_);refine store_all BK5.out 142 (.tmp 5) (.tmp 9) rfl rfl rfl (.agg #[.slice A l.length c, .string r2, .string r3, .int .i64 r4, .int .i64 r5, .int .i64 r6, .int .i64 r7, .int .i64 r8, .int .i64 r9, .int .i64 r10, .int .i64 r11, .int .i64 r12, .int .i64 r13, .bool true]) [.slice A l.length c, .string r2, .string r3, .int .i64 r4, .int .i64 r5, .int .i64 r6, .int .i64 r7, .int .i64 r8, .int .i64 r9, .int .i64 r10, .int .i64 r11, .int .i64 r12, .int .i64 r13, .bool true] rfl rfl rfl (by kernel_rfl) rfl (by intro q hq;simp only [List.mem_cons,List.not_mem_nil,or_false] at hq;rcases hq with rfl|rfl|rfl|rfl|rfl|rfl|rfl|rfl|rfl|rfl|rfl|rfl|rfl|rfl<;>rfl) ?_;intro w6 hbk hg;replace BK3:=am_ (blk_put_other BK3.out hg (NE.out));replace HB:=am_ (below_put HB.out (below_size HB.out) hg GE5.out);replace BK5:=am_ (hbk);clear hbk hg;have cgb5_0:=(blk_cell BK5.out 0).trans rfl;have cgb5_1:=(blk_cell BK5.out 1).trans rfl;have cgb5_2:=(blk_cell BK5.out 2).trans rfl;have cgb5_3:=(blk_cell BK5.out 3).trans rfl;have cgb5_4:=(blk_cell BK5.out 4).trans rfl;have cgb5_5:=(blk_cell BK5.out 5).trans rfl;have cgb5_6:=(blk_cell BK5.out 6).trans rfl;have cgb5_7:=(blk_cell BK5.out 7).trans rfl;have cgb5_8:=(blk_cell BK5.out 8).trans rfl;have cgb5_9:=(blk_cell BK5.out 9).trans rfl;have cgb5_10:=(blk_cell BK5.out 10).trans rfl;have cgb5_11:=(blk_cell BK5.out 11).trans rfl;have cgb5_12:=(blk_cell BK5.out 12).trans rfl;have cgb5_13:=(blk_cell BK5.out 13).trans rfl;have cgb3_0:=(blk_cell BK3.out 0).trans rfl;have cgb3_1:=(blk_cell BK3.out 1).trans rfl;have cgb3_2:=(blk_cell BK3.out 2).trans rfl;have cgb3_3:=(blk_cell BK3.out 3).trans rfl;have cgb3_4:=(blk_cell BK3.out 4).trans rfl;have cgb3_5:=(blk_cell BK3.out 5).trans rfl))
      go_ret
      exact ⟨by rw [←HQ.out];simp [*],HB.out⟩
    skip
    subst q14
    go_wp2_with (first|((with_reducible refine gate_dst (N:=5) rfl ?_);refine bx_ (N:=5) (cs:=#[.slice none 0 0, .string ⟨#[]⟩, .string ⟨#[]⟩, .int .i64 0, .int .i64 0, .int .i64 0, .int .i64 0, .int .i64 0, .int .i64 0, .int .i64 0, .int .i64 0, .int .i64 0, .int .i64 0, .bool false]) (t:=142) ?_;intro gb5 hg w5 hbox hb;have NE:=am_ (show gb3≠gb5 from by have:=blk_lt BK3.out;rw [hg];exact Nat.ne_of_lt this);replace BK3:=am_ (blk_below BK3.out hb);have BK5:=am_ (hbox);have GE5:=am_ ((by rw [hg];exact below_size HB.out:w.heap.size≤gb5));replace HB:=am_ (below_step HB.out hb);have EQ5:=am_ (hg);clear hb hbox hg)|((with_reducible refine gate_store (t:=142) (p:=5) (v:= .tmp 9) rfl ?_);refine store_all BK5.out 142 (.tmp 5) (.tmp 9) rfl rfl rfl (.agg #[.slice A l.length c, .string r2, .string r3, .int .i64 r4, .int .i64 r5, .int .i64 r6, .int .i64 r7, .int .i64 r8, .int .i64 r9, .int .i64 r10, .int .i64 r11, .int .i64 r12, .int .i64 r13, .bool false]) [.slice A l.length c, .string r2, .string r3, .int .i64 r4, .int .i64 r5, .int .i64 r6, .int .i64 r7, .int .i64 r8, .int .i64 r9, .int .i64 r10, .int .i64 r11, .int .i64 r12, .int .i64 r13, .bool false] rfl rfl rfl (by kernel_rfl) rfl (by intro q hq;simp only [List.mem_cons,List.not_mem_nil,or_false] at hq;rcases hq with rfl|rfl|rfl|rfl|rfl|rfl|rfl|rfl|rfl|rfl|rfl|rfl|rfl|rfl<;>rfl) ?_;intro w6 hbk hg;replace BK3:=am_ (blk_put_other BK3.out hg (NE.out));replace HB:=am_ (below_put HB.out (below_size HB.out) hg GE5.out);replace BK5:=am_ (hbk);clear hbk hg;have cgb5_0:=(blk_cell BK5.out 0).trans rfl;have cgb5_1:=(blk_cell BK5.out 1).trans rfl;have cgb5_2:=(blk_cell BK5.out 2).trans rfl;have cgb5_3:=(blk_cell BK5.out 3).trans rfl;have cgb5_4:=(blk_cell BK5.out 4).trans rfl;have cgb5_5:=(blk_cell BK5.out 5).trans rfl;have cgb5_6:=(blk_cell BK5.out 6).trans rfl;have cgb5_7:=(blk_cell BK5.out 7).trans rfl;have cgb5_8:=(blk_cell BK5.out 8).trans rfl;have cgb5_9:=(blk_cell BK5.out 9).trans rfl;have cgb5_10:=(blk_cell BK5.out 10).trans rfl;have cgb5_11:=(blk_cell BK5.out 11).trans rfl;have cgb5_12:=(blk_cell BK5.out 12).trans rfl;have cgb5_13:=(blk_cell BK5.out 13).trans rfl;have cgb3_0:=(blk_cell BK3.out 0).trans rfl;have cgb3_1:=(blk_cell BK3.out 1).trans rfl;have cgb3_2:=(blk_cell BK3.out 2).trans rfl;have cgb3_3:=(blk_cell BK3.out 3).trans rfl;have cgb3_4:=(blk_cell BK3.out 4).trans rfl;have cgb3_5:=(blk_cell BK3.out 5).trans rfl))
    go_ret
    exact ⟨by rw [←HQ.out];simp [*],HB.out⟩
  skip
  have k2b:(k==2)=false:=beq_eq_false_iff_ne.mpr k2
  by_cases k3:k=3
  · subst k3
    clear k1 k2 k1b k2b
    rcases Bool.eq_false_or_eq_true r14 with q14|q14
    · skip
      subst q14
      go_wp2_with (first|((with_reducible refine gate_dst (N:=5) rfl ?_);refine bx_ (N:=5) (cs:=#[.slice none 0 0, .string ⟨#[]⟩, .string ⟨#[]⟩, .int .i64 0, .int .i64 0, .int .i64 0, .int .i64 0, .int .i64 0, .int .i64 0, .int .i64 0, .int .i64 0, .int .i64 0, .int .i64 0, .bool false]) (t:=142) ?_;intro gb5 hg w5 hbox hb;have NE:=am_ (show gb3≠gb5 from by have:=blk_lt BK3.out;rw [hg];exact Nat.ne_of_lt this);replace BK3:=am_ (blk_below BK3.out hb);have BK5:=am_ (hbox);have GE5:=am_ ((by rw [hg];exact below_size HB.out:w.heap.size≤gb5));replace HB:=am_ (below_step HB.out hb);have EQ5:=am_ (hg);clear hb hbox hg)|((with_reducible refine gate_store (t:=142) (p:=5) (v:= .tmp 9) rfl ?_);refine store_all BK5.out 142 (.tmp 5) (.tmp 9) rfl rfl rfl (.agg #[.slice A l.length c, .string r2, .string r3, .int .i64 r4, .int .i64 r5, .int .i64 r6, .int .i64 r7, .int .i64 r8, .int .i64 r9, .int .i64 r10, .int .i64 r11, .int .i64 r12, .int .i64 r13, .bool true]) [.slice A l.length c, .string r2, .string r3, .int .i64 r4, .int .i64 r5, .int .i64 r6, .int .i64 r7, .int .i64 r8, .int .i64 r9, .int .i64 r10, .int .i64 r11, .int .i64 r12, .int .i64 r13, .bool true] rfl rfl rfl (by kernel_rfl) rfl (by intro q hq;simp only [List.mem_cons,List.not_mem_nil,or_false] at hq;rcases hq with rfl|rfl|rfl|rfl|rfl|rfl|rfl|rfl|rfl|rfl|rfl|rfl|rfl|rfl<;>rfl) ?_;intro w6 hbk hg;replace BK3:=am_ (blk_put_other BK3.out hg (NE.out));replace HB:=am_ (below_put HB.out (below_size HB.out) hg GE5.out);replace BK5:=am_ (hbk);clear hbk hg;have cgb5_0:=(blk_cell BK5.out 0).trans rfl;have cgb5_1:=(blk_cell BK5.out 1).trans rfl;have cgb5_2:=(blk_cell BK5.out 2).trans rfl;have cgb5_3:=(blk_cell BK5.out 3).trans rfl;have cgb5_4:=(blk_cell BK5.out 4).trans rfl;have cgb5_5:=(blk_cell BK5.out 5).trans rfl;have cgb5_6:=(blk_cell BK5.out 6).trans rfl;have cgb5_7:=(blk_cell BK5.out 7).trans rfl;have cgb5_8:=(blk_cell BK5.out 8).trans rfl;have cgb5_9:=(blk_cell BK5.out 9).trans rfl;have cgb5_10:=(blk_cell BK5.out 10).trans rfl;have cgb5_11:=(blk_cell BK5.out 11).trans rfl;have cgb5_12:=(blk_cell BK5.out 12).trans rfl;have cgb5_13:=(blk_cell BK5.out 13).trans rfl;have cgb3_0:=(blk_cell BK3.out 0).trans rfl;have cgb3_1:=(blk_cell BK3.out 1).trans rfl;have cgb3_2:=(blk_cell BK3.out 2).trans rfl;have cgb3_3:=(blk_cell BK3.out 3).trans rfl;have cgb3_4:=(blk_cell BK3.out 4).trans rfl;have cgb3_5:=(blk_cell BK3.out 5).trans rfl))
      go_ret
      exact ⟨by rw [←HQ.out];simp [*],HB.out⟩
    skip
    subst q14
    go_wp2_with (first|((with_reducible refine gate_dst (N:=5) rfl ?_);refine bx_ (N:=5) (cs:=#[.slice none 0 0, .string ⟨#[]⟩, .string ⟨#[]⟩, .int .i64 0, .int .i64 0, .int .i64 0, .int .i64 0, .int .i64 0, .int .i64 0, .int .i64 0, .int .i64 0, .int .i64 0, .int .i64 0, .bool false]) (t:=142) ?_;intro gb5 hg w5 hbox hb;have NE:=am_ (show gb3≠gb5 from by have:=blk_lt BK3.out;rw [hg];exact Nat.ne_of_lt this);replace BK3:=am_ (blk_below BK3.out hb);have BK5:=am_ (hbox);have GE5:=am_ ((by rw [hg];exact below_size HB.out:w.heap.size≤gb5));replace HB:=am_ (below_step HB.out hb);have EQ5:=am_ (hg);clear hb hbox hg)|((with_reducible refine gate_store (t:=142) (p:=5) (v:= .tmp 9) rfl ?_);refine store_all BK5.out 142 (.tmp 5) (.tmp 9) rfl rfl rfl (.agg #[.slice A l.length c, .string r2, .string r3, .int .i64 r4, .int .i64 r5, .int .i64 r6, .int .i64 r7, .int .i64 r8, .int .i64 r9, .int .i64 r10, .int .i64 r11, .int .i64 r12, .int .i64 r13, .bool false]) [.slice A l.length c, .string r2, .string r3, .int .i64 r4, .int .i64 r5, .int .i64 r6, .int .i64 r7, .int .i64 r8, .int .i64 r9, .int .i64 r10, .int .i64 r11, .int .i64 r12, .int .i64 r13, .bool false] rfl rfl rfl (by kernel_rfl) rfl (by intro q hq;simp only [List.mem_cons,List.not_mem_nil,or_false] at hq;rcases hq with rfl|rfl|rfl|rfl|rfl|rfl|rfl|rfl|rfl|rfl|rfl|rfl|rfl|rfl<;>rfl) ?_;intro w6 hbk hg;replace BK3:=am_ (blk_put_other BK3.out hg (NE.out));replace HB:=am_ (below_put HB.out (below_size HB.out) hg GE5.out);replace BK5:=am_ (hbk);clear hbk hg;have cgb5_0:=(blk_cell BK5.out 0).trans rfl;have cgb5_1:=(blk_cell BK5.out 1).trans rfl;have cgb5_2:=(blk_cell BK5.out 2).trans rfl;have cgb5_3:=(blk_cell BK5.out 3).trans rfl;have cgb5_4:=(blk_cell BK5.out 4).trans rfl;have cgb5_5:=(blk_cell BK5.out 5).trans rfl;have cgb5_6:=(blk_cell BK5.out 6).trans rfl;have cgb5_7:=(blk_cell BK5.out 7).trans rfl;have cgb5_8:=(blk_cell BK5.out 8).trans rfl;have cgb5_9:=(blk_cell BK5.out 9).trans rfl;have cgb5_10:=(blk_cell BK5.out 10).trans rfl;have cgb5_11:=(blk_cell BK5.out 11).trans rfl;have cgb5_12:=(blk_cell BK5.out 12).trans rfl;have cgb5_13:=(blk_cell BK5.out 13).trans rfl;have cgb3_0:=(blk_cell BK3.out 0).trans rfl;have cgb3_1:=(blk_cell BK3.out 1).trans rfl;have cgb3_2:=(blk_cell BK3.out 2).trans rfl;have cgb3_3:=(blk_cell BK3.out 3).trans rfl;have cgb3_4:=(blk_cell BK3.out 4).trans rfl;have cgb3_5:=(blk_cell BK3.out 5).trans rfl))
    go_ret
    exact ⟨by rw [←HQ.out];simp [*],HB.out⟩
  skip
  have k3b:(k==3)=false:=beq_eq_false_iff_ne.mpr k3
  by_cases k4:k=4
  · subst k4
    clear k1 k2 k3 k1b k2b k3b
    go_wp2_with (first|((with_reducible refine gate_dst (N:=5) rfl ?_);refine bx_ (N:=5) (cs:=#[.slice none 0 0, .string ⟨#[]⟩, .string ⟨#[]⟩, .int .i64 0, .int .i64 0, .int .i64 0, .int .i64 0, .int .i64 0, .int .i64 0, .int .i64 0, .int .i64 0, .int .i64 0, .int .i64 0, .bool false]) (t:=142) ?_;intro gb5 hg w5 hbox hb;have NE:=am_ (show gb3≠gb5 from by have:=blk_lt BK3.out;rw [hg];exact Nat.ne_of_lt this);replace BK3:=am_ (blk_below BK3.out hb);have BK5:=am_ (hbox);have GE5:=am_ ((by rw [hg];exact below_size HB.out:w.heap.size≤gb5));replace HB:=am_ (below_step HB.out hb);have EQ5:=am_ (hg);clear hb hbox hg)|((with_reducible refine gate_store (t:=142) (p:=5) (v:= .tmp 9) rfl ?_);refine store_all BK5.out 142 (.tmp 5) (.tmp 9) rfl rfl rfl (.agg #[.slice A l.length c, .string r2, .string r3, .int .i64 r4, .int .i64 r5, .int .i64 r6, .int .i64 r7, .int .i64 r8, .int .i64 r9, .int .i64 r10, .int .i64 r11, .int .i64 r12, .int .i64 r13, .bool r14]) [.slice A l.length c, .string r2, .string r3, .int .i64 r4, .int .i64 r5, .int .i64 r6, .int .i64 r7, .int .i64 r8, .int .i64 r9, .int .i64 r10, .int .i64 r11, .int .i64 r12, .int .i64 r13, .bool r14] rfl rfl rfl (by kernel_rfl) rfl (by intro q hq;simp only [List.mem_cons,List.not_mem_nil,or_false] at hq;rcases hq with rfl|rfl|rfl|rfl|rfl|rfl|rfl|rfl|rfl|rfl|rfl|rfl|rfl|rfl<;>rfl) ?_;intro w6 hbk hg;replace BK3:=am_ (blk_put_other BK3.out hg (NE.out));replace HB:=am_ (below_put HB.out (below_size HB.out) hg GE5.out);replace BK5:=am_ (hbk);clear hbk hg;have cgb5_0:=(blk_cell BK5.out 0).trans rfl;have cgb5_1:=(blk_cell BK5.out 1).trans rfl;have cgb5_2:=(blk_cell BK5.out 2).trans rfl;have cgb5_3:=(blk_cell BK5.out 3).trans rfl;have cgb5_4:=(blk_cell BK5.out 4).trans rfl;have cgb5_5:=(blk_cell BK5.out 5).trans rfl;have cgb5_6:=(blk_cell BK5.out 6).trans rfl;have cgb5_7:=(blk_cell BK5.out 7).trans rfl;have cgb5_8:=(blk_cell BK5.out 8).trans rfl;have cgb5_9:=(blk_cell BK5.out 9).trans rfl;have cgb5_10:=(blk_cell BK5.out 10).trans rfl;have cgb5_11:=(blk_cell BK5.out 11).trans rfl;have cgb5_12:=(blk_cell BK5.out 12).trans rfl;have cgb5_13:=(blk_cell BK5.out 13).trans rfl;have cgb3_0:=(blk_cell BK3.out 0).trans rfl;have cgb3_1:=(blk_cell BK3.out 1).trans rfl;have cgb3_2:=(blk_cell BK3.out 2).trans rfl;have cgb3_3:=(blk_cell BK3.out 3).trans rfl;have cgb3_4:=(blk_cell BK3.out 4).trans rfl;have cgb3_5:=(blk_cell BK3.out 5).trans rfl))
    go_ret
    exact ⟨by rw [←HQ.out];rfl,HB.out⟩
  skip
  have k4b:(k==4)=false:=beq_eq_false_iff_ne.mpr k4
  go_wp2_with (first|((with_reducible refine gate_dst (N:=5) rfl ?_);refine bx_ (N:=5) (cs:=#[.slice none 0 0, .string ⟨#[]⟩, .string ⟨#[]⟩, .int .i64 0, .int .i64 0, .int .i64 0, .int .i64 0, .int .i64 0, .int .i64 0, .int .i64 0, .int .i64 0, .int .i64 0, .int .i64 0, .bool false]) (t:=142) ?_;intro gb5 hg w5 hbox hb;have NE:=am_ (show gb3≠gb5 from by have:=blk_lt BK3.out;rw [hg];exact Nat.ne_of_lt this);replace BK3:=am_ (blk_below BK3.out hb);have BK5:=am_ (hbox);have GE5:=am_ ((by rw [hg];exact below_size HB.out:w.heap.size≤gb5));replace HB:=am_ (below_step HB.out hb);have EQ5:=am_ (hg);clear hb hbox hg)|((with_reducible refine gate_store (t:=142) (p:=5) (v:= .tmp 9) rfl ?_);refine store_all BK5.out 142 (.tmp 5) (.tmp 9) rfl rfl rfl (.agg #[.slice A l.length c, .string r2, .string r3, .int .i64 r4, .int .i64 r5, .int .i64 r6, .int .i64 r7, .int .i64 r8, .int .i64 r9, .int .i64 r10, .int .i64 r11, .int .i64 r12, .int .i64 r13, .bool r14]) [.slice A l.length c, .string r2, .string r3, .int .i64 r4, .int .i64 r5, .int .i64 r6, .int .i64 r7, .int .i64 r8, .int .i64 r9, .int .i64 r10, .int .i64 r11, .int .i64 r12, .int .i64 r13, .bool r14] rfl rfl rfl (by kernel_rfl) rfl (by intro q hq;simp only [List.mem_cons,List.not_mem_nil,or_false] at hq;rcases hq with rfl|rfl|rfl|rfl|rfl|rfl|rfl|rfl|rfl|rfl|rfl|rfl|rfl|rfl<;>rfl) ?_;intro w6 hbk hg;replace BK3:=am_ (blk_put_other BK3.out hg (NE.out));replace HB:=am_ (below_put HB.out (below_size HB.out) hg GE5.out);replace BK5:=am_ (hbk);clear hbk hg;have cgb5_0:=(blk_cell BK5.out 0).trans rfl;have cgb5_1:=(blk_cell BK5.out 1).trans rfl;have cgb5_2:=(blk_cell BK5.out 2).trans rfl;have cgb5_3:=(blk_cell BK5.out 3).trans rfl;have cgb5_4:=(blk_cell BK5.out 4).trans rfl;have cgb5_5:=(blk_cell BK5.out 5).trans rfl;have cgb5_6:=(blk_cell BK5.out 6).trans rfl;have cgb5_7:=(blk_cell BK5.out 7).trans rfl;have cgb5_8:=(blk_cell BK5.out 8).trans rfl;have cgb5_9:=(blk_cell BK5.out 9).trans rfl;have cgb5_10:=(blk_cell BK5.out 10).trans rfl;have cgb5_11:=(blk_cell BK5.out 11).trans rfl;have cgb5_12:=(blk_cell BK5.out 12).trans rfl;have cgb5_13:=(blk_cell BK5.out 13).trans rfl;have cgb3_0:=(blk_cell BK3.out 0).trans rfl;have cgb3_1:=(blk_cell BK3.out 1).trans rfl;have cgb3_2:=(blk_cell BK3.out 2).trans rfl;have cgb3_3:=(blk_cell BK3.out 3).trans rfl;have cgb3_4:=(blk_cell BK3.out 4).trans rfl;have cgb3_5:=(blk_cell BK3.out 5).trans rfl))
  go_ret
  exact ⟨by rw [←HQ.out];simp [*],HB.out⟩


def r10_Find.l0:Nat→List (S31)→ByteArray→Int→Option (Int)
 |0,_,_,_=>none
 |k+1,x0,x1,x5=>if x5<(x0.length:Int) then (if 0≤x5 then (if ((rd_T31 x0 x5).f0).toList=x1.toList then (some x5) else (r10_Find.l0 k x0 x1 (wrap64 (x5+1)))) else (none)) else (some (-1))
def r10_Find.f (k:Nat) (l0:List (S31)) (a1:ByteArray):Option (Int):=r10_Find.l0 k l0 a1 0
theorem r10_Find.mono_l: ∀k,(∀y0 y1 y2,LeO (r10_Find.l0 k y0 y1 y2) (r10_Find.l0 (k+1) y0 y1 y2))
 |0=>fun _ _ _ r h=>by simp [r10_Find.l0] at h
 |k+1=>by
  have ih0:=r10_Find.mono_l k
  intro y0 y1 y2
  unfold r10_Find.l0
  repeat' first
  |(with_reducible exact ih0 _ _ _)
  |(with_reducible exact LeO.refl _)
  |(with_reducible exact LeO.none _)
  |(with_reducible refine LeO.ite ?_ ?_)
  |(with_reducible refine LeO.bind ?_ (fun _=> ?_))
  |exact ih0 _ _ _
  |exact LeO.none _
  |refine LeO.ite ?_ ?_
  |refine LeO.bind ?_ (fun _=> ?_)
theorem r10_Find.mono: ∀a0 a1 k,LeO (r10_Find.f k a0 a1) (r10_Find.f (k+1) a0 a1):=by
 intro a0 a1 k
 have ih0:=r10_Find.mono_l k
 unfold r10_Find.f
 repeat' first
  |(with_reducible exact ih0 _ _ _)
  |(with_reducible exact LeO.refl _)
  |(with_reducible exact LeO.none _)
  |(with_reducible refine LeO.ite ?_ ?_)
  |(with_reducible refine LeO.bind ?_ (fun _=> ?_))
  |exact ih0 _ _ _
  |exact LeO.none _
  |refine LeO.ite ?_ ?_
  |refine LeO.bind ?_ (fun _=> ?_)
set_option maxHeartbeats 8000000 in
set_option maxRecDepth 100000 in
theorem r10_Find.calls (k:Nat) (A0:Option Addr) (c0:Nat) (l0:List (S31)) (a1:ByteArray) (r:Int) (w:World) (hr0:Kd.C k31 w A0 l0.length l0) (hc0:l0.length≤c0) (h:r10_Find.f k l0 a1=some r):
  Calls Try.prog 50 #[.slice A0 l0.length c0, .string a1] w fun e w'=>e= .returned (.int .i64 r)∧Drawn0 w w':=by
 have HR0:=Aside0.mk hr0
 have HC0:=Aside0.mk hc0
 clear hr0 hc0
 have H:(r10_Find.l0 k l0 a1 0)=some r:=h
 clear h
 have H':=Aside0.mk H
 clear H
 go_enter Try.func50,Try.ntmps50
 go_wp2
 go_loopg [5] k (fun kq v5 w'=> ∃(x5_1:Int),v5= .int .i64 x5_1∧Aside0 (r10_Find.l0 kq l0 a1 x5_1=some r)∧Aside0 (kq≤k)∧Drawn0 w w')
 case atStart=>exact ⟨(0),(by first|rfl|(simp;done)|(simp [*];done)),H',⟨Nat.le_refl _⟩,by repeat (first|exact Drawn0.refl _|apply Drawn0.step)⟩
 case round=>
  clear H'
  try clear p2
  obtain ⟨x5_1,rfl,HA,HK1,⟨m1,rfl⟩⟩:=hrel
  cases gk with
  |zero=>exact absurd HA.out (by simp [r10_Find.l0])
  |succ k1=>
   have H:=HA.out
   clear HA
   simp only [r10_Find.l0] at H
   by_cases c3:x5_1<(l0.length:Int)
   rotate_left
   ·rw [if_neg c3] at H
    have c3b0:decide (x5_1<(l0.length:Int))=false:=decide_eq_false c3
    clear c3
    obtain rfl:=Option.some.inj H
    go_wp2
    go_ret
    exact ⟨by first|rfl|(simp;done)|(simp [*];done),by repeat (first|exact Drawn0.refl _|apply Drawn0.step)⟩

   rw [if_pos c3] at H
   have c3b0:decide (x5_1<(l0.length:Int))=true:=decide_eq_true c3
   clear c3
   by_cases c4:0≤x5_1
   rotate_left
   ·rw [if_neg c4] at H
    exact absurd H (by simp)
   rw [if_pos c4] at H
   have c4b0:decide (0≤x5_1)=true:=decide_eq_true c4
   clear c4
   by_cases c5:((rd_T31 l0 x5_1).f0).toList=a1.toList
   ·rw [if_pos c5] at H
    have c5b0:(((rd_T31 l0 x5_1).f0).toList==a1.toList)=true:=beq_iff_eq.mpr c5
    have c5b1:(((rd_T31 l0 x5_1).f0).toList !=a1.toList)=false:=bne_eq_false_iff_eq.mpr c5
    clear c5
    obtain rfl:=Option.some.inj H
    have p1:0≤(x5_1:Int):=of_decide_eq_true zq_
    have q1:x5_1<(l0.length:Int):=of_decide_eq_true zq_
    obtain ⟨ad1,e1,hx1_0,hx1_1,hx1_2,hx1_3,hx1_4,hx1_5,hx1_6,hx1_7,hx1_8,hx1_9,hx1_10,hx1_11⟩:=at_T31 HR0.out x5_1 p1 q1
    cases e1
    replace p1:=eq_true p1
    replace q1:=eq_true q1
    go_wp2
    go_ret
    exact ⟨by first|rfl|(simp;done)|(simp [*];done),by repeat (first|exact Drawn0.refl _|apply Drawn0.step)⟩
   rw [if_neg c5] at H
   have c5b0:(((rd_T31 l0 x5_1).f0).toList==a1.toList)=false:=beq_eq_false_iff_ne.mpr c5
   have c5b1:(((rd_T31 l0 x5_1).f0).toList !=a1.toList)=true:=bne_iff_ne.mpr c5
   have H':=Aside0.mk H
   clear H
   have p1:0≤(x5_1:Int):=of_decide_eq_true zq_
   have q1:x5_1<(l0.length:Int):=of_decide_eq_true zq_
   obtain ⟨ad1,e1,hx1_0,hx1_1,hx1_2,hx1_3,hx1_4,hx1_5,hx1_6,hx1_7,hx1_8,hx1_9,hx1_10,hx1_11⟩:=at_T31 HR0.out x5_1 p1 q1
   cases e1
   replace p1:=eq_true p1
   replace q1:=eq_true q1
   go_wp2
   go_roundg k1
   case measure=>have:=HK1.out;omega
   case rel=>exact ⟨(wrap64 (x5_1+1)),(by first|rfl|(simp;done)|(simp [*];done)),H',⟨by have:=HK1.out;omega⟩,by repeat (first|exact Drawn0.refl _|apply Drawn0.step)⟩
attribute [local go_sem high] eqA27
def r16_Holds.f (k:Nat) (l0:List (S31)) (a1_0:Int) (a1_1:ByteArray) (a1_2:ByteArray) (a1_3:Int) (a1_4:Int) (a1_5:Int):Option (Bool):=(r10_Find.f k l0 a1_1).bind fun t2=>(if a1_0=1 then (if t2≥0 then (if 0≤t2 then (if t2<(l0.length:Int) then (if ((rd_T31 l0 t2).f1).toList=a1_2.toList then (some (((rd_T31 l0 t2).f2.f0)==a1_3 && (((rd_T31 l0 t2).f2.f1)==a1_4 && (((rd_T31 l0 t2).f2.f2)==a1_5)))) else (some false)) else (none)) else (none)) else (some false)) else (if a1_0=2 then (if t2≥0 then (if 0≤t2 then (if t2<(l0.length:Int) then (some (((rd_T31 l0 t2).f2.f0)==a1_3 && (((rd_T31 l0 t2).f2.f1)==a1_4 && (((rd_T31 l0 t2).f2.f2)==a1_5)))) else (none)) else (none)) else (some false)) else (if a1_0=3 then (if t2≥0 then (if 0≤t2 then (if t2<(l0.length:Int) then (some (((rd_T31 l0 t2).f1).toList==a1_2.toList)) else (none)) else (none)) else (some false)) else (if a1_0=4 then (some (decide (t2<0))) else (some false)))))
theorem r16_Holds.mono: ∀a0 a1 a2 a3 a4 a5 a6 k,LeO (r16_Holds.f k a0 a1 a2 a3 a4 a5 a6) (r16_Holds.f (k+1) a0 a1 a2 a3 a4 a5 a6):=by
 intro a0 a1 a2 a3 a4 a5 a6 k
 unfold r16_Holds.f
 repeat' first
  |(with_reducible exact r10_Find.mono _ _ _)
  |(with_reducible exact LeO.refl _)
  |(with_reducible exact LeO.none _)
  |(with_reducible refine LeO.ite ?_ ?_)
  |(with_reducible refine LeO.bind ?_ (fun _=> ?_))
  |exact r10_Find.mono _ _ _
  |exact LeO.none _
  |refine LeO.ite ?_ ?_
  |refine LeO.bind ?_ (fun _=> ?_)
set_option maxHeartbeats 8000000 in
set_option maxRecDepth 100000 in
theorem r16_Holds.calls (k:Nat) (A0:Option Addr) (c0:Nat) (l0:List (S31)) (a1_0:Int) (a1_1:ByteArray) (a1_2:ByteArray) (a1_3:Int) (a1_4:Int) (a1_5:Int) (r:Bool) (w:World) (hr0:Kd.C k31 w A0 l0.length l0) (hc0:l0.length≤c0) (h:r16_Holds.f k l0 a1_0 a1_1 a1_2 a1_3 a1_4 a1_5=some r):
  Calls Try.prog 53 #[.slice A0 l0.length c0, .agg #[.int .i64 a1_0, .string a1_1, .string a1_2, .int .i64 a1_3, .int .i64 a1_4, .int .i64 a1_5]] w fun e w'=>e= .returned (.bool r)∧Below w.heap.size w w':=by
 have hu58:=Try.underlying58
 have hu27:=Try.underlying27
 have HR0:=Aside0.mk hr0
 have HC0:=Aside0.mk hc0
 clear hr0 hc0
 have HB:=am_ (Below.refl w.heap.size w)
 have H:((r10_Find.f k l0 a1_1).bind fun t2=>(if a1_0=1 then (if t2≥0 then (if 0≤t2 then (if t2<(l0.length:Int) then (if ((rd_T31 l0 t2).f1).toList=a1_2.toList then (some (((rd_T31 l0 t2).f2.f0)==a1_3 && (((rd_T31 l0 t2).f2.f1)==a1_4 && (((rd_T31 l0 t2).f2.f2)==a1_5)))) else (some false)) else (none)) else (none)) else (some false)) else (if a1_0=2 then (if t2≥0 then (if 0≤t2 then (if t2<(l0.length:Int) then (some (((rd_T31 l0 t2).f2.f0)==a1_3 && (((rd_T31 l0 t2).f2.f1)==a1_4 && (((rd_T31 l0 t2).f2.f2)==a1_5)))) else (none)) else (none)) else (some false)) else (if a1_0=3 then (if t2≥0 then (if 0≤t2 then (if t2<(l0.length:Int) then (some (((rd_T31 l0 t2).f1).toList==a1_2.toList)) else (none)) else (none)) else (some false)) else (if a1_0=4 then (some (decide (t2<0))) else (some false))))))=some r:=h
 clear h
 replace H:=Option.bind_eq_some_iff.mp H
 obtain ⟨t2,A30,H⟩:=H
 try dsimp only at H
 have A3:=Aside0.mk A30
 clear A30
 by_cases c4:a1_0=1
 ·rw [if_pos c4] at H
  have c4b0:(a1_0==1)=true:=beq_iff_eq.mpr c4
  have c4b1:(a1_0 !=1)=false:=bne_eq_false_iff_eq.mpr c4
  clear c4
  by_cases c5:t2≥0
  rotate_left
  ·rw [if_neg c5] at H
   have c5b0:decide (0≤t2)=false:=decide_eq_false c5
   clear c5
   obtain rfl:=Option.some.inj H
   go_enter Try.func53,Try.ntmps53
   go_wp2_with (first|((with_reducible refine gate_dst (N:=3) rfl ?_);refine bx_ (N:=3) (cs:=#[.int .i64 a1_0, .string a1_1, .string a1_2, .int .i64 a1_3, .int .i64 a1_4, .int .i64 a1_5]) (t:=58) ?_;intro gb1 hg w13 hbox hb;have BK1:=am_ (hbox);have GW1:=am_ ((zg0_ HB hg:w.heap.size≤gb1));have GE1:=am_ ((zg0_ HB hg:w.heap.size≤gb1));replace HB:=am_ (below_step (zl0_ HB) hb);clear hb hbox hg;obtain ⟨hcz14_0,hcz14_1,hcz14_2,hcz14_3,hcz14_4,hcz14_5⟩:=x6_ BK1;have hfz14_0:=blk_frozen BK1.out 0;have hfz14_1:=blk_frozen BK1.out 1;have hfz14_2:=blk_frozen BK1.out 2;have hfz14_3:=blk_frozen BK1.out 3;have hfz14_4:=blk_frozen BK1.out 4;have hfz14_5:=blk_frozen BK1.out 5)|(go_at_call 50;(with_reducible refine (r10_Find.calls k _ _ l0 a1_1 t2 _ ?side1 ?side2 A3.out).mono ?_);(case side1=>exact zc_ (Kd.C_below HR0.out HB.out));(case side2=>exact HC0.out);rintro e w' ⟨rfl,⟨nd,rfl⟩⟩;(try first|exact ⟨rfl,_,World.drewN_drewN _ _ _⟩|exact ⟨rfl,_,Eq.trans (World.drewN_drewN _ _ _) (congrArg (World.drewN _) (Nat.add_assoc _ _ _))⟩)))
   repeat (go_quiet (first|((with_reducible refine gate_dst (N:=3) rfl ?_);refine bx_ (N:=3) (cs:=#[.int .i64 a1_0, .string a1_1, .string a1_2, .int .i64 a1_3, .int .i64 a1_4, .int .i64 a1_5]) (t:=58) ?_;intro gb1 hg w13 hbox hb;have BK1:=am_ (hbox);have GW1:=am_ ((zg0_ HB hg:w.heap.size≤gb1));have GE1:=am_ ((zg0_ HB hg:w.heap.size≤gb1));replace HB:=am_ (below_step (zl0_ HB) hb);clear hb hbox hg;obtain ⟨hcz14_0,hcz14_1,hcz14_2,hcz14_3,hcz14_4,hcz14_5⟩:=x6_ BK1;have hfz14_0:=blk_frozen BK1.out 0;have hfz14_1:=blk_frozen BK1.out 1;have hfz14_2:=blk_frozen BK1.out 2;have hfz14_3:=blk_frozen BK1.out 3;have hfz14_4:=blk_frozen BK1.out 4;have hfz14_5:=blk_frozen BK1.out 5)|(go_at_call 50;(with_reducible refine (r10_Find.calls k _ _ l0 a1_1 t2 _ ?side1 ?side2 A3.out).mono ?_);(case side1=>exact zc_ (Kd.C_below HR0.out HB.out));(case side2=>exact HC0.out);rintro e w' ⟨rfl,⟨nd,rfl⟩⟩;(try first|exact ⟨rfl,_,World.drewN_drewN _ _ _⟩|exact ⟨rfl,_,Eq.trans (World.drewN_drewN _ _ _) (congrArg (World.drewN _) (Nat.add_assoc _ _ _))⟩)));try go_wp2_with (first|((with_reducible refine gate_dst (N:=3) rfl ?_);refine bx_ (N:=3) (cs:=#[.int .i64 a1_0, .string a1_1, .string a1_2, .int .i64 a1_3, .int .i64 a1_4, .int .i64 a1_5]) (t:=58) ?_;intro gb1 hg w13 hbox hb;have BK1:=am_ (hbox);have GW1:=am_ ((zg0_ HB hg:w.heap.size≤gb1));have GE1:=am_ ((zg0_ HB hg:w.heap.size≤gb1));replace HB:=am_ (below_step (zl0_ HB) hb);clear hb hbox hg;obtain ⟨hcz14_0,hcz14_1,hcz14_2,hcz14_3,hcz14_4,hcz14_5⟩:=x6_ BK1;have hfz14_0:=blk_frozen BK1.out 0;have hfz14_1:=blk_frozen BK1.out 1;have hfz14_2:=blk_frozen BK1.out 2;have hfz14_3:=blk_frozen BK1.out 3;have hfz14_4:=blk_frozen BK1.out 4;have hfz14_5:=blk_frozen BK1.out 5)|(go_at_call 50;(with_reducible refine (r10_Find.calls k _ _ l0 a1_1 t2 _ ?side1 ?side2 A3.out).mono ?_);(case side1=>exact zc_ (Kd.C_below HR0.out HB.out));(case side2=>exact HC0.out);rintro e w' ⟨rfl,⟨nd,rfl⟩⟩;(try first|exact ⟨rfl,_,World.drewN_drewN _ _ _⟩|exact ⟨rfl,_,Eq.trans (World.drewN_drewN _ _ _) (congrArg (World.drewN _) (Nat.add_assoc _ _ _))⟩))))
   go_ret
   exact ⟨by first|rfl|(simp [errW_none,errW_some]<;>rfl)|(simp [*,errW_none,errW_some]<;>rfl),zl1_ HB GE1⟩
  rw [if_pos c5] at H
  have c5b0:decide (0≤t2)=true:=decide_eq_true c5
  clear c5
  by_cases c6:0≤t2
  rotate_left
  ·rw [if_neg c6] at H
   exact absurd H (by simp)
  rw [if_pos c6] at H
  have c6b0:decide (0≤t2)=true:=decide_eq_true c6
  clear c6
  by_cases c7:t2<(l0.length:Int)
  rotate_left
  ·rw [if_neg c7] at H
   exact absurd H (by simp)
  rw [if_pos c7] at H
  have c7b0:decide (t2<(l0.length:Int))=true:=decide_eq_true c7
  clear c7
  by_cases c8:((rd_T31 l0 t2).f1).toList=a1_2.toList
  ·rw [if_pos c8] at H
   have c8b0:(((rd_T31 l0 t2).f1).toList==a1_2.toList)=true:=beq_iff_eq.mpr c8
   have c8b1:(((rd_T31 l0 t2).f1).toList !=a1_2.toList)=false:=bne_eq_false_iff_eq.mpr c8
   clear c8
   obtain rfl:=Option.some.inj H
   go_enter Try.func53,Try.ntmps53
   go_wp2_with (first|((with_reducible refine gate_dst (N:=3) rfl ?_);refine bx_ (N:=3) (cs:=#[.int .i64 a1_0, .string a1_1, .string a1_2, .int .i64 a1_3, .int .i64 a1_4, .int .i64 a1_5]) (t:=58) ?_;intro gb1 hg w9 hbox hb;have BK1:=am_ (hbox);have GW1:=am_ ((zg0_ HB hg:w.heap.size≤gb1));have GE1:=am_ ((zg0_ HB hg:w.heap.size≤gb1));replace HB:=am_ (below_step (zl0_ HB) hb);clear hb hbox hg;obtain ⟨hcz10_0,hcz10_1,hcz10_2,hcz10_3,hcz10_4,hcz10_5⟩:=x6_ BK1;have hfz10_0:=blk_frozen BK1.out 0;have hfz10_1:=blk_frozen BK1.out 1;have hfz10_2:=blk_frozen BK1.out 2;have hfz10_3:=blk_frozen BK1.out 3;have hfz10_4:=blk_frozen BK1.out 4;have hfz10_5:=blk_frozen BK1.out 5)|(go_at_call 50;(with_reducible refine (r10_Find.calls k _ _ l0 a1_1 t2 _ ?side1 ?side2 A3.out).mono ?_);(case side1=>exact zc_ (Kd.C_below HR0.out HB.out));(case side2=>exact HC0.out);rintro e w' ⟨rfl,⟨nd,rfl⟩⟩;(try first|exact ⟨rfl,_,World.drewN_drewN _ _ _⟩|exact ⟨rfl,_,Eq.trans (World.drewN_drewN _ _ _) (congrArg (World.drewN _) (Nat.add_assoc _ _ _))⟩);have p3:0≤(t2:Int):=of_decide_eq_true zq_;have q3:t2<(l0.length:Int):=of_decide_eq_true zq_;obtain ⟨ad3,e3,hx3_0,hx3_1,hx3_2,hx3_3,hx3_4,hx3_5,hx3_6,hx3_7,hx3_8,hx3_9,hx3_10,hx3_11⟩:=at_T31 HR0.out t2 p3 q3;cases e3;replace hx3_0:=zx_ HB hx3_0;replace hx3_1:=zx_ HB hx3_1;replace hx3_2:=zx_ HB hx3_2;replace hx3_3:=zx_ HB hx3_3;replace hx3_4:=zx_ HB hx3_4;replace hx3_5:=zx_ HB hx3_5;replace hx3_6:=zx_ HB hx3_6;replace hx3_7:=zx_ HB hx3_7;replace hx3_8:=zx_ HB hx3_8;replace hx3_9:=zx_ HB hx3_9;replace hx3_10:=zx_ HB hx3_10;replace hx3_11:=zx_ HB hx3_11;replace p3:=eq_true p3;replace q3:=eq_true q3;have p4:0≤(t2:Int):=of_decide_eq_true zq_;have q4:t2<(l0.length:Int):=of_decide_eq_true zq_;obtain ⟨ad4,e4,hx4_0,hx4_1,hx4_2,hx4_3,hx4_4,hx4_5,hx4_6,hx4_7,hx4_8,hx4_9,hx4_10,hx4_11⟩:=at_T31 HR0.out t2 p4 q4;obtain rfl:ad3=ad4:=(by injection e4);replace hx4_0:=zx_ HB hx4_0;replace hx4_1:=zx_ HB hx4_1;replace hx4_2:=zx_ HB hx4_2;replace hx4_3:=zx_ HB hx4_3;replace hx4_4:=zx_ HB hx4_4;replace hx4_5:=zx_ HB hx4_5;replace hx4_6:=zx_ HB hx4_6;replace hx4_7:=zx_ HB hx4_7;replace hx4_8:=zx_ HB hx4_8;replace hx4_9:=zx_ HB hx4_9;replace hx4_10:=zx_ HB hx4_10;replace hx4_11:=zx_ HB hx4_11;replace p4:=eq_true p4;replace q4:=eq_true q4))
   repeat (go_quiet (first|((with_reducible refine gate_dst (N:=3) rfl ?_);refine bx_ (N:=3) (cs:=#[.int .i64 a1_0, .string a1_1, .string a1_2, .int .i64 a1_3, .int .i64 a1_4, .int .i64 a1_5]) (t:=58) ?_;intro gb1 hg w9 hbox hb;have BK1:=am_ (hbox);have GW1:=am_ ((zg0_ HB hg:w.heap.size≤gb1));have GE1:=am_ ((zg0_ HB hg:w.heap.size≤gb1));replace HB:=am_ (below_step (zl0_ HB) hb);clear hb hbox hg;obtain ⟨hcz10_0,hcz10_1,hcz10_2,hcz10_3,hcz10_4,hcz10_5⟩:=x6_ BK1;have hfz10_0:=blk_frozen BK1.out 0;have hfz10_1:=blk_frozen BK1.out 1;have hfz10_2:=blk_frozen BK1.out 2;have hfz10_3:=blk_frozen BK1.out 3;have hfz10_4:=blk_frozen BK1.out 4;have hfz10_5:=blk_frozen BK1.out 5)|(go_at_call 50;(with_reducible refine (r10_Find.calls k _ _ l0 a1_1 t2 _ ?side1 ?side2 A3.out).mono ?_);(case side1=>exact zc_ (Kd.C_below HR0.out HB.out));(case side2=>exact HC0.out);rintro e w' ⟨rfl,⟨nd,rfl⟩⟩;(try first|exact ⟨rfl,_,World.drewN_drewN _ _ _⟩|exact ⟨rfl,_,Eq.trans (World.drewN_drewN _ _ _) (congrArg (World.drewN _) (Nat.add_assoc _ _ _))⟩);have p3:0≤(t2:Int):=of_decide_eq_true zq_;have q3:t2<(l0.length:Int):=of_decide_eq_true zq_;obtain ⟨ad3,e3,hx3_0,hx3_1,hx3_2,hx3_3,hx3_4,hx3_5,hx3_6,hx3_7,hx3_8,hx3_9,hx3_10,hx3_11⟩:=at_T31 HR0.out t2 p3 q3;cases e3;replace hx3_0:=zx_ HB hx3_0;replace hx3_1:=zx_ HB hx3_1;replace hx3_2:=zx_ HB hx3_2;replace hx3_3:=zx_ HB hx3_3;replace hx3_4:=zx_ HB hx3_4;replace hx3_5:=zx_ HB hx3_5;replace hx3_6:=zx_ HB hx3_6;replace hx3_7:=zx_ HB hx3_7;replace hx3_8:=zx_ HB hx3_8;replace hx3_9:=zx_ HB hx3_9;replace hx3_10:=zx_ HB hx3_10;replace hx3_11:=zx_ HB hx3_11;replace p3:=eq_true p3;replace q3:=eq_true q3;have p4:0≤(t2:Int):=of_decide_eq_true zq_;have q4:t2<(l0.length:Int):=of_decide_eq_true zq_;obtain ⟨ad4,e4,hx4_0,hx4_1,hx4_2,hx4_3,hx4_4,hx4_5,hx4_6,hx4_7,hx4_8,hx4_9,hx4_10,hx4_11⟩:=at_T31 HR0.out t2 p4 q4;obtain rfl:ad3=ad4:=(by injection e4);replace hx4_0:=zx_ HB hx4_0;replace hx4_1:=zx_ HB hx4_1;replace hx4_2:=zx_ HB hx4_2;replace hx4_3:=zx_ HB hx4_3;replace hx4_4:=zx_ HB hx4_4;replace hx4_5:=zx_ HB hx4_5;replace hx4_6:=zx_ HB hx4_6;replace hx4_7:=zx_ HB hx4_7;replace hx4_8:=zx_ HB hx4_8;replace hx4_9:=zx_ HB hx4_9;replace hx4_10:=zx_ HB hx4_10;replace hx4_11:=zx_ HB hx4_11;replace p4:=eq_true p4;replace q4:=eq_true q4));try go_wp2_with (first|((with_reducible refine gate_dst (N:=3) rfl ?_);refine bx_ (N:=3) (cs:=#[.int .i64 a1_0, .string a1_1, .string a1_2, .int .i64 a1_3, .int .i64 a1_4, .int .i64 a1_5]) (t:=58) ?_;intro gb1 hg w9 hbox hb;have BK1:=am_ (hbox);have GW1:=am_ ((zg0_ HB hg:w.heap.size≤gb1));have GE1:=am_ ((zg0_ HB hg:w.heap.size≤gb1));replace HB:=am_ (below_step (zl0_ HB) hb);clear hb hbox hg;obtain ⟨hcz10_0,hcz10_1,hcz10_2,hcz10_3,hcz10_4,hcz10_5⟩:=x6_ BK1;have hfz10_0:=blk_frozen BK1.out 0;have hfz10_1:=blk_frozen BK1.out 1;have hfz10_2:=blk_frozen BK1.out 2;have hfz10_3:=blk_frozen BK1.out 3;have hfz10_4:=blk_frozen BK1.out 4;have hfz10_5:=blk_frozen BK1.out 5)|(go_at_call 50;(with_reducible refine (r10_Find.calls k _ _ l0 a1_1 t2 _ ?side1 ?side2 A3.out).mono ?_);(case side1=>exact zc_ (Kd.C_below HR0.out HB.out));(case side2=>exact HC0.out);rintro e w' ⟨rfl,⟨nd,rfl⟩⟩;(try first|exact ⟨rfl,_,World.drewN_drewN _ _ _⟩|exact ⟨rfl,_,Eq.trans (World.drewN_drewN _ _ _) (congrArg (World.drewN _) (Nat.add_assoc _ _ _))⟩);have p3:0≤(t2:Int):=of_decide_eq_true zq_;have q3:t2<(l0.length:Int):=of_decide_eq_true zq_;obtain ⟨ad3,e3,hx3_0,hx3_1,hx3_2,hx3_3,hx3_4,hx3_5,hx3_6,hx3_7,hx3_8,hx3_9,hx3_10,hx3_11⟩:=at_T31 HR0.out t2 p3 q3;cases e3;replace hx3_0:=zx_ HB hx3_0;replace hx3_1:=zx_ HB hx3_1;replace hx3_2:=zx_ HB hx3_2;replace hx3_3:=zx_ HB hx3_3;replace hx3_4:=zx_ HB hx3_4;replace hx3_5:=zx_ HB hx3_5;replace hx3_6:=zx_ HB hx3_6;replace hx3_7:=zx_ HB hx3_7;replace hx3_8:=zx_ HB hx3_8;replace hx3_9:=zx_ HB hx3_9;replace hx3_10:=zx_ HB hx3_10;replace hx3_11:=zx_ HB hx3_11;replace p3:=eq_true p3;replace q3:=eq_true q3;have p4:0≤(t2:Int):=of_decide_eq_true zq_;have q4:t2<(l0.length:Int):=of_decide_eq_true zq_;obtain ⟨ad4,e4,hx4_0,hx4_1,hx4_2,hx4_3,hx4_4,hx4_5,hx4_6,hx4_7,hx4_8,hx4_9,hx4_10,hx4_11⟩:=at_T31 HR0.out t2 p4 q4;obtain rfl:ad3=ad4:=(by injection e4);replace hx4_0:=zx_ HB hx4_0;replace hx4_1:=zx_ HB hx4_1;replace hx4_2:=zx_ HB hx4_2;replace hx4_3:=zx_ HB hx4_3;replace hx4_4:=zx_ HB hx4_4;replace hx4_5:=zx_ HB hx4_5;replace hx4_6:=zx_ HB hx4_6;replace hx4_7:=zx_ HB hx4_7;replace hx4_8:=zx_ HB hx4_8;replace hx4_9:=zx_ HB hx4_9;replace hx4_10:=zx_ HB hx4_10;replace hx4_11:=zx_ HB hx4_11;replace p4:=eq_true p4;replace q4:=eq_true q4)))
   go_ret
   exact ⟨by first|rfl|(simp [errW_none,errW_some]<;>rfl)|(simp [*,errW_none,errW_some]<;>rfl),zl1_ HB GE1⟩
  rw [if_neg c8] at H
  have c8b0:(((rd_T31 l0 t2).f1).toList==a1_2.toList)=false:=beq_eq_false_iff_ne.mpr c8
  have c8b1:(((rd_T31 l0 t2).f1).toList !=a1_2.toList)=true:=bne_iff_ne.mpr c8
  obtain rfl:=Option.some.inj H
  go_enter Try.func53,Try.ntmps53
  go_wp2_with (first|((with_reducible refine gate_dst (N:=3) rfl ?_);refine bx_ (N:=3) (cs:=#[.int .i64 a1_0, .string a1_1, .string a1_2, .int .i64 a1_3, .int .i64 a1_4, .int .i64 a1_5]) (t:=58) ?_;intro gb1 hg w11 hbox hb;have BK1:=am_ (hbox);have GW1:=am_ ((zg0_ HB hg:w.heap.size≤gb1));have GE1:=am_ ((zg0_ HB hg:w.heap.size≤gb1));replace HB:=am_ (below_step (zl0_ HB) hb);clear hb hbox hg;obtain ⟨hcz12_0,hcz12_1,hcz12_2,hcz12_3,hcz12_4,hcz12_5⟩:=x6_ BK1;have hfz12_0:=blk_frozen BK1.out 0;have hfz12_1:=blk_frozen BK1.out 1;have hfz12_2:=blk_frozen BK1.out 2;have hfz12_3:=blk_frozen BK1.out 3;have hfz12_4:=blk_frozen BK1.out 4;have hfz12_5:=blk_frozen BK1.out 5)|(go_at_call 50;(with_reducible refine (r10_Find.calls k _ _ l0 a1_1 t2 _ ?side1 ?side2 A3.out).mono ?_);(case side1=>exact zc_ (Kd.C_below HR0.out HB.out));(case side2=>exact HC0.out);rintro e w' ⟨rfl,⟨nd,rfl⟩⟩;(try first|exact ⟨rfl,_,World.drewN_drewN _ _ _⟩|exact ⟨rfl,_,Eq.trans (World.drewN_drewN _ _ _) (congrArg (World.drewN _) (Nat.add_assoc _ _ _))⟩);have p3:0≤(t2:Int):=of_decide_eq_true zq_;have q3:t2<(l0.length:Int):=of_decide_eq_true zq_;obtain ⟨ad3,e3,hx3_0,hx3_1,hx3_2,hx3_3,hx3_4,hx3_5,hx3_6,hx3_7,hx3_8,hx3_9,hx3_10,hx3_11⟩:=at_T31 HR0.out t2 p3 q3;cases e3;replace hx3_0:=zx_ HB hx3_0;replace hx3_1:=zx_ HB hx3_1;replace hx3_2:=zx_ HB hx3_2;replace hx3_3:=zx_ HB hx3_3;replace hx3_4:=zx_ HB hx3_4;replace hx3_5:=zx_ HB hx3_5;replace hx3_6:=zx_ HB hx3_6;replace hx3_7:=zx_ HB hx3_7;replace hx3_8:=zx_ HB hx3_8;replace hx3_9:=zx_ HB hx3_9;replace hx3_10:=zx_ HB hx3_10;replace hx3_11:=zx_ HB hx3_11;replace p3:=eq_true p3;replace q3:=eq_true q3))
  repeat (go_quiet (first|((with_reducible refine gate_dst (N:=3) rfl ?_);refine bx_ (N:=3) (cs:=#[.int .i64 a1_0, .string a1_1, .string a1_2, .int .i64 a1_3, .int .i64 a1_4, .int .i64 a1_5]) (t:=58) ?_;intro gb1 hg w11 hbox hb;have BK1:=am_ (hbox);have GW1:=am_ ((zg0_ HB hg:w.heap.size≤gb1));have GE1:=am_ ((zg0_ HB hg:w.heap.size≤gb1));replace HB:=am_ (below_step (zl0_ HB) hb);clear hb hbox hg;obtain ⟨hcz12_0,hcz12_1,hcz12_2,hcz12_3,hcz12_4,hcz12_5⟩:=x6_ BK1;have hfz12_0:=blk_frozen BK1.out 0;have hfz12_1:=blk_frozen BK1.out 1;have hfz12_2:=blk_frozen BK1.out 2;have hfz12_3:=blk_frozen BK1.out 3;have hfz12_4:=blk_frozen BK1.out 4;have hfz12_5:=blk_frozen BK1.out 5)|(go_at_call 50;(with_reducible refine (r10_Find.calls k _ _ l0 a1_1 t2 _ ?side1 ?side2 A3.out).mono ?_);(case side1=>exact zc_ (Kd.C_below HR0.out HB.out));(case side2=>exact HC0.out);rintro e w' ⟨rfl,⟨nd,rfl⟩⟩;(try first|exact ⟨rfl,_,World.drewN_drewN _ _ _⟩|exact ⟨rfl,_,Eq.trans (World.drewN_drewN _ _ _) (congrArg (World.drewN _) (Nat.add_assoc _ _ _))⟩);have p3:0≤(t2:Int):=of_decide_eq_true zq_;have q3:t2<(l0.length:Int):=of_decide_eq_true zq_;obtain ⟨ad3,e3,hx3_0,hx3_1,hx3_2,hx3_3,hx3_4,hx3_5,hx3_6,hx3_7,hx3_8,hx3_9,hx3_10,hx3_11⟩:=at_T31 HR0.out t2 p3 q3;cases e3;replace hx3_0:=zx_ HB hx3_0;replace hx3_1:=zx_ HB hx3_1;replace hx3_2:=zx_ HB hx3_2;replace hx3_3:=zx_ HB hx3_3;replace hx3_4:=zx_ HB hx3_4;replace hx3_5:=zx_ HB hx3_5;replace hx3_6:=zx_ HB hx3_6;replace hx3_7:=zx_ HB hx3_7;replace hx3_8:=zx_ HB hx3_8;replace hx3_9:=zx_ HB hx3_9;replace hx3_10:=zx_ HB hx3_10;replace hx3_11:=zx_ HB hx3_11;replace p3:=eq_true p3;replace q3:=eq_true q3));try go_wp2_with (first|((with_reducible refine gate_dst (N:=3) rfl ?_);refine bx_ (N:=3) (cs:=#[.int .i64 a1_0, .string a1_1, .string a1_2, .int .i64 a1_3, .int .i64 a1_4, .int .i64 a1_5]) (t:=58) ?_;intro gb1 hg w11 hbox hb;have BK1:=am_ (hbox);have GW1:=am_ ((zg0_ HB hg:w.heap.size≤gb1));have GE1:=am_ ((zg0_ HB hg:w.heap.size≤gb1));replace HB:=am_ (below_step (zl0_ HB) hb);clear hb hbox hg;obtain ⟨hcz12_0,hcz12_1,hcz12_2,hcz12_3,hcz12_4,hcz12_5⟩:=x6_ BK1;have hfz12_0:=blk_frozen BK1.out 0;have hfz12_1:=blk_frozen BK1.out 1;have hfz12_2:=blk_frozen BK1.out 2;have hfz12_3:=blk_frozen BK1.out 3;have hfz12_4:=blk_frozen BK1.out 4;have hfz12_5:=blk_frozen BK1.out 5)|(go_at_call 50;(with_reducible refine (r10_Find.calls k _ _ l0 a1_1 t2 _ ?side1 ?side2 A3.out).mono ?_);(case side1=>exact zc_ (Kd.C_below HR0.out HB.out));(case side2=>exact HC0.out);rintro e w' ⟨rfl,⟨nd,rfl⟩⟩;(try first|exact ⟨rfl,_,World.drewN_drewN _ _ _⟩|exact ⟨rfl,_,Eq.trans (World.drewN_drewN _ _ _) (congrArg (World.drewN _) (Nat.add_assoc _ _ _))⟩);have p3:0≤(t2:Int):=of_decide_eq_true zq_;have q3:t2<(l0.length:Int):=of_decide_eq_true zq_;obtain ⟨ad3,e3,hx3_0,hx3_1,hx3_2,hx3_3,hx3_4,hx3_5,hx3_6,hx3_7,hx3_8,hx3_9,hx3_10,hx3_11⟩:=at_T31 HR0.out t2 p3 q3;cases e3;replace hx3_0:=zx_ HB hx3_0;replace hx3_1:=zx_ HB hx3_1;replace hx3_2:=zx_ HB hx3_2;replace hx3_3:=zx_ HB hx3_3;replace hx3_4:=zx_ HB hx3_4;replace hx3_5:=zx_ HB hx3_5;replace hx3_6:=zx_ HB hx3_6;replace hx3_7:=zx_ HB hx3_7;replace hx3_8:=zx_ HB hx3_8;replace hx3_9:=zx_ HB hx3_9;replace hx3_10:=zx_ HB hx3_10;replace hx3_11:=zx_ HB hx3_11;replace p3:=eq_true p3;replace q3:=eq_true q3)))
  go_ret
  exact ⟨by first|rfl|(simp [errW_none,errW_some]<;>rfl)|(simp [*,errW_none,errW_some]<;>rfl),zl1_ HB GE1⟩
 rw [if_neg c4] at H
 have c4b0:(a1_0==1)=false:=beq_eq_false_iff_ne.mpr c4
 have c4b1:(a1_0 !=1)=true:=bne_iff_ne.mpr c4
 by_cases c15:a1_0=2
 ·rw [if_pos c15] at H
  have c15b0:(a1_0==2)=true:=beq_iff_eq.mpr c15
  have c15b1:(a1_0 !=2)=false:=bne_eq_false_iff_eq.mpr c15
  clear c15
  by_cases c16:t2≥0
  rotate_left
  ·rw [if_neg c16] at H
   have c16b0:decide (0≤t2)=false:=decide_eq_false c16
   clear c16
   obtain rfl:=Option.some.inj H
   go_enter Try.func53,Try.ntmps53
   go_wp2_with (first|((with_reducible refine gate_dst (N:=3) rfl ?_);refine bx_ (N:=3) (cs:=#[.int .i64 a1_0, .string a1_1, .string a1_2, .int .i64 a1_3, .int .i64 a1_4, .int .i64 a1_5]) (t:=58) ?_;intro gb1 hg w21 hbox hb;have BK1:=am_ (hbox);have GW1:=am_ ((zg0_ HB hg:w.heap.size≤gb1));have GE1:=am_ ((zg0_ HB hg:w.heap.size≤gb1));replace HB:=am_ (below_step (zl0_ HB) hb);clear hb hbox hg;obtain ⟨hcz22_0,hcz22_1,hcz22_2,hcz22_3,hcz22_4,hcz22_5⟩:=x6_ BK1;have hfz22_0:=blk_frozen BK1.out 0;have hfz22_1:=blk_frozen BK1.out 1;have hfz22_2:=blk_frozen BK1.out 2;have hfz22_3:=blk_frozen BK1.out 3;have hfz22_4:=blk_frozen BK1.out 4;have hfz22_5:=blk_frozen BK1.out 5)|(go_at_call 50;(with_reducible refine (r10_Find.calls k _ _ l0 a1_1 t2 _ ?side1 ?side2 A3.out).mono ?_);(case side1=>exact zc_ (Kd.C_below HR0.out HB.out));(case side2=>exact HC0.out);rintro e w' ⟨rfl,⟨nd,rfl⟩⟩;(try first|exact ⟨rfl,_,World.drewN_drewN _ _ _⟩|exact ⟨rfl,_,Eq.trans (World.drewN_drewN _ _ _) (congrArg (World.drewN _) (Nat.add_assoc _ _ _))⟩)))
   repeat (go_quiet (first|((with_reducible refine gate_dst (N:=3) rfl ?_);refine bx_ (N:=3) (cs:=#[.int .i64 a1_0, .string a1_1, .string a1_2, .int .i64 a1_3, .int .i64 a1_4, .int .i64 a1_5]) (t:=58) ?_;intro gb1 hg w21 hbox hb;have BK1:=am_ (hbox);have GW1:=am_ ((zg0_ HB hg:w.heap.size≤gb1));have GE1:=am_ ((zg0_ HB hg:w.heap.size≤gb1));replace HB:=am_ (below_step (zl0_ HB) hb);clear hb hbox hg;obtain ⟨hcz22_0,hcz22_1,hcz22_2,hcz22_3,hcz22_4,hcz22_5⟩:=x6_ BK1;have hfz22_0:=blk_frozen BK1.out 0;have hfz22_1:=blk_frozen BK1.out 1;have hfz22_2:=blk_frozen BK1.out 2;have hfz22_3:=blk_frozen BK1.out 3;have hfz22_4:=blk_frozen BK1.out 4;have hfz22_5:=blk_frozen BK1.out 5)|(go_at_call 50;(with_reducible refine (r10_Find.calls k _ _ l0 a1_1 t2 _ ?side1 ?side2 A3.out).mono ?_);(case side1=>exact zc_ (Kd.C_below HR0.out HB.out));(case side2=>exact HC0.out);rintro e w' ⟨rfl,⟨nd,rfl⟩⟩;(try first|exact ⟨rfl,_,World.drewN_drewN _ _ _⟩|exact ⟨rfl,_,Eq.trans (World.drewN_drewN _ _ _) (congrArg (World.drewN _) (Nat.add_assoc _ _ _))⟩)));try go_wp2_with (first|((with_reducible refine gate_dst (N:=3) rfl ?_);refine bx_ (N:=3) (cs:=#[.int .i64 a1_0, .string a1_1, .string a1_2, .int .i64 a1_3, .int .i64 a1_4, .int .i64 a1_5]) (t:=58) ?_;intro gb1 hg w21 hbox hb;have BK1:=am_ (hbox);have GW1:=am_ ((zg0_ HB hg:w.heap.size≤gb1));have GE1:=am_ ((zg0_ HB hg:w.heap.size≤gb1));replace HB:=am_ (below_step (zl0_ HB) hb);clear hb hbox hg;obtain ⟨hcz22_0,hcz22_1,hcz22_2,hcz22_3,hcz22_4,hcz22_5⟩:=x6_ BK1;have hfz22_0:=blk_frozen BK1.out 0;have hfz22_1:=blk_frozen BK1.out 1;have hfz22_2:=blk_frozen BK1.out 2;have hfz22_3:=blk_frozen BK1.out 3;have hfz22_4:=blk_frozen BK1.out 4;have hfz22_5:=blk_frozen BK1.out 5)|(go_at_call 50;(with_reducible refine (r10_Find.calls k _ _ l0 a1_1 t2 _ ?side1 ?side2 A3.out).mono ?_);(case side1=>exact zc_ (Kd.C_below HR0.out HB.out));(case side2=>exact HC0.out);rintro e w' ⟨rfl,⟨nd,rfl⟩⟩;(try first|exact ⟨rfl,_,World.drewN_drewN _ _ _⟩|exact ⟨rfl,_,Eq.trans (World.drewN_drewN _ _ _) (congrArg (World.drewN _) (Nat.add_assoc _ _ _))⟩))))
   go_ret
   exact ⟨by first|rfl|(simp [errW_none,errW_some]<;>rfl)|(simp [*,errW_none,errW_some]<;>rfl),zl1_ HB GE1⟩
  rw [if_pos c16] at H
  have c16b0:decide (0≤t2)=true:=decide_eq_true c16
  clear c16
  by_cases c17:0≤t2
  rotate_left
  ·rw [if_neg c17] at H
   exact absurd H (by simp)
  rw [if_pos c17] at H
  have c17b0:decide (0≤t2)=true:=decide_eq_true c17
  clear c17
  by_cases c18:t2<(l0.length:Int)
  rotate_left
  ·rw [if_neg c18] at H
   exact absurd H (by simp)
  rw [if_pos c18] at H
  have c18b0:decide (t2<(l0.length:Int))=true:=decide_eq_true c18
  clear c18
  obtain rfl:=Option.some.inj H
  go_enter Try.func53,Try.ntmps53
  go_wp2_with (first|((with_reducible refine gate_dst (N:=3) rfl ?_);refine bx_ (N:=3) (cs:=#[.int .i64 a1_0, .string a1_1, .string a1_2, .int .i64 a1_3, .int .i64 a1_4, .int .i64 a1_5]) (t:=58) ?_;intro gb1 hg w19 hbox hb;have BK1:=am_ (hbox);have GW1:=am_ ((zg0_ HB hg:w.heap.size≤gb1));have GE1:=am_ ((zg0_ HB hg:w.heap.size≤gb1));replace HB:=am_ (below_step (zl0_ HB) hb);clear hb hbox hg;obtain ⟨hcz20_0,hcz20_1,hcz20_2,hcz20_3,hcz20_4,hcz20_5⟩:=x6_ BK1;have hfz20_0:=blk_frozen BK1.out 0;have hfz20_1:=blk_frozen BK1.out 1;have hfz20_2:=blk_frozen BK1.out 2;have hfz20_3:=blk_frozen BK1.out 3;have hfz20_4:=blk_frozen BK1.out 4;have hfz20_5:=blk_frozen BK1.out 5)|(go_at_call 50;(with_reducible refine (r10_Find.calls k _ _ l0 a1_1 t2 _ ?side1 ?side2 A3.out).mono ?_);(case side1=>exact zc_ (Kd.C_below HR0.out HB.out));(case side2=>exact HC0.out);rintro e w' ⟨rfl,⟨nd,rfl⟩⟩;(try first|exact ⟨rfl,_,World.drewN_drewN _ _ _⟩|exact ⟨rfl,_,Eq.trans (World.drewN_drewN _ _ _) (congrArg (World.drewN _) (Nat.add_assoc _ _ _))⟩);have p5:0≤(t2:Int):=of_decide_eq_true zq_;have q5:t2<(l0.length:Int):=of_decide_eq_true zq_;obtain ⟨ad5,e5,hx5_0,hx5_1,hx5_2,hx5_3,hx5_4,hx5_5,hx5_6,hx5_7,hx5_8,hx5_9,hx5_10,hx5_11⟩:=at_T31 HR0.out t2 p5 q5;cases e5;replace hx5_0:=zx_ HB hx5_0;replace hx5_1:=zx_ HB hx5_1;replace hx5_2:=zx_ HB hx5_2;replace hx5_3:=zx_ HB hx5_3;replace hx5_4:=zx_ HB hx5_4;replace hx5_5:=zx_ HB hx5_5;replace hx5_6:=zx_ HB hx5_6;replace hx5_7:=zx_ HB hx5_7;replace hx5_8:=zx_ HB hx5_8;replace hx5_9:=zx_ HB hx5_9;replace hx5_10:=zx_ HB hx5_10;replace hx5_11:=zx_ HB hx5_11;replace p5:=eq_true p5;replace q5:=eq_true q5))
  repeat (go_quiet (first|((with_reducible refine gate_dst (N:=3) rfl ?_);refine bx_ (N:=3) (cs:=#[.int .i64 a1_0, .string a1_1, .string a1_2, .int .i64 a1_3, .int .i64 a1_4, .int .i64 a1_5]) (t:=58) ?_;intro gb1 hg w19 hbox hb;have BK1:=am_ (hbox);have GW1:=am_ ((zg0_ HB hg:w.heap.size≤gb1));have GE1:=am_ ((zg0_ HB hg:w.heap.size≤gb1));replace HB:=am_ (below_step (zl0_ HB) hb);clear hb hbox hg;obtain ⟨hcz20_0,hcz20_1,hcz20_2,hcz20_3,hcz20_4,hcz20_5⟩:=x6_ BK1;have hfz20_0:=blk_frozen BK1.out 0;have hfz20_1:=blk_frozen BK1.out 1;have hfz20_2:=blk_frozen BK1.out 2;have hfz20_3:=blk_frozen BK1.out 3;have hfz20_4:=blk_frozen BK1.out 4;have hfz20_5:=blk_frozen BK1.out 5)|(go_at_call 50;(with_reducible refine (r10_Find.calls k _ _ l0 a1_1 t2 _ ?side1 ?side2 A3.out).mono ?_);(case side1=>exact zc_ (Kd.C_below HR0.out HB.out));(case side2=>exact HC0.out);rintro e w' ⟨rfl,⟨nd,rfl⟩⟩;(try first|exact ⟨rfl,_,World.drewN_drewN _ _ _⟩|exact ⟨rfl,_,Eq.trans (World.drewN_drewN _ _ _) (congrArg (World.drewN _) (Nat.add_assoc _ _ _))⟩);have p5:0≤(t2:Int):=of_decide_eq_true zq_;have q5:t2<(l0.length:Int):=of_decide_eq_true zq_;obtain ⟨ad5,e5,hx5_0,hx5_1,hx5_2,hx5_3,hx5_4,hx5_5,hx5_6,hx5_7,hx5_8,hx5_9,hx5_10,hx5_11⟩:=at_T31 HR0.out t2 p5 q5;cases e5;replace hx5_0:=zx_ HB hx5_0;replace hx5_1:=zx_ HB hx5_1;replace hx5_2:=zx_ HB hx5_2;replace hx5_3:=zx_ HB hx5_3;replace hx5_4:=zx_ HB hx5_4;replace hx5_5:=zx_ HB hx5_5;replace hx5_6:=zx_ HB hx5_6;replace hx5_7:=zx_ HB hx5_7;replace hx5_8:=zx_ HB hx5_8;replace hx5_9:=zx_ HB hx5_9;replace hx5_10:=zx_ HB hx5_10;replace hx5_11:=zx_ HB hx5_11;replace p5:=eq_true p5;replace q5:=eq_true q5));try go_wp2_with (first|((with_reducible refine gate_dst (N:=3) rfl ?_);refine bx_ (N:=3) (cs:=#[.int .i64 a1_0, .string a1_1, .string a1_2, .int .i64 a1_3, .int .i64 a1_4, .int .i64 a1_5]) (t:=58) ?_;intro gb1 hg w19 hbox hb;have BK1:=am_ (hbox);have GW1:=am_ ((zg0_ HB hg:w.heap.size≤gb1));have GE1:=am_ ((zg0_ HB hg:w.heap.size≤gb1));replace HB:=am_ (below_step (zl0_ HB) hb);clear hb hbox hg;obtain ⟨hcz20_0,hcz20_1,hcz20_2,hcz20_3,hcz20_4,hcz20_5⟩:=x6_ BK1;have hfz20_0:=blk_frozen BK1.out 0;have hfz20_1:=blk_frozen BK1.out 1;have hfz20_2:=blk_frozen BK1.out 2;have hfz20_3:=blk_frozen BK1.out 3;have hfz20_4:=blk_frozen BK1.out 4;have hfz20_5:=blk_frozen BK1.out 5)|(go_at_call 50;(with_reducible refine (r10_Find.calls k _ _ l0 a1_1 t2 _ ?side1 ?side2 A3.out).mono ?_);(case side1=>exact zc_ (Kd.C_below HR0.out HB.out));(case side2=>exact HC0.out);rintro e w' ⟨rfl,⟨nd,rfl⟩⟩;(try first|exact ⟨rfl,_,World.drewN_drewN _ _ _⟩|exact ⟨rfl,_,Eq.trans (World.drewN_drewN _ _ _) (congrArg (World.drewN _) (Nat.add_assoc _ _ _))⟩);have p5:0≤(t2:Int):=of_decide_eq_true zq_;have q5:t2<(l0.length:Int):=of_decide_eq_true zq_;obtain ⟨ad5,e5,hx5_0,hx5_1,hx5_2,hx5_3,hx5_4,hx5_5,hx5_6,hx5_7,hx5_8,hx5_9,hx5_10,hx5_11⟩:=at_T31 HR0.out t2 p5 q5;cases e5;replace hx5_0:=zx_ HB hx5_0;replace hx5_1:=zx_ HB hx5_1;replace hx5_2:=zx_ HB hx5_2;replace hx5_3:=zx_ HB hx5_3;replace hx5_4:=zx_ HB hx5_4;replace hx5_5:=zx_ HB hx5_5;replace hx5_6:=zx_ HB hx5_6;replace hx5_7:=zx_ HB hx5_7;replace hx5_8:=zx_ HB hx5_8;replace hx5_9:=zx_ HB hx5_9;replace hx5_10:=zx_ HB hx5_10;replace hx5_11:=zx_ HB hx5_11;replace p5:=eq_true p5;replace q5:=eq_true q5)))
  go_ret
  exact ⟨by first|rfl|(simp [errW_none,errW_some]<;>rfl)|(simp [*,errW_none,errW_some]<;>rfl),zl1_ HB GE1⟩
 rw [if_neg c15] at H
 have c15b0:(a1_0==2)=false:=beq_eq_false_iff_ne.mpr c15
 have c15b1:(a1_0 !=2)=true:=bne_iff_ne.mpr c15
 by_cases c23:a1_0=3
 rotate_left
 ·rw [if_neg c23] at H
  have c23b0:(a1_0==3)=false:=beq_eq_false_iff_ne.mpr c23
  have c23b1:(a1_0 !=3)=true:=bne_iff_ne.mpr c23
  by_cases c31:a1_0=4
  ·rw [if_pos c31] at H
   have c31b0:(a1_0==4)=true:=beq_iff_eq.mpr c31
   have c31b1:(a1_0 !=4)=false:=bne_eq_false_iff_eq.mpr c31
   clear c31
   obtain rfl:=Option.some.inj H
   go_enter Try.func53,Try.ntmps53
   go_wp2_with (first|((with_reducible refine gate_dst (N:=3) rfl ?_);refine bx_ (N:=3) (cs:=#[.int .i64 a1_0, .string a1_1, .string a1_2, .int .i64 a1_3, .int .i64 a1_4, .int .i64 a1_5]) (t:=58) ?_;intro gb1 hg w32 hbox hb;have BK1:=am_ (hbox);have GW1:=am_ ((zg0_ HB hg:w.heap.size≤gb1));have GE1:=am_ ((zg0_ HB hg:w.heap.size≤gb1));replace HB:=am_ (below_step (zl0_ HB) hb);clear hb hbox hg;obtain ⟨hcz33_0,hcz33_1,hcz33_2,hcz33_3,hcz33_4,hcz33_5⟩:=x6_ BK1;have hfz33_0:=blk_frozen BK1.out 0;have hfz33_1:=blk_frozen BK1.out 1;have hfz33_2:=blk_frozen BK1.out 2;have hfz33_3:=blk_frozen BK1.out 3;have hfz33_4:=blk_frozen BK1.out 4;have hfz33_5:=blk_frozen BK1.out 5)|(go_at_call 50;(with_reducible refine (r10_Find.calls k _ _ l0 a1_1 t2 _ ?side1 ?side2 A3.out).mono ?_);(case side1=>exact zc_ (Kd.C_below HR0.out HB.out));(case side2=>exact HC0.out);rintro e w' ⟨rfl,⟨nd,rfl⟩⟩;(try first|exact ⟨rfl,_,World.drewN_drewN _ _ _⟩|exact ⟨rfl,_,Eq.trans (World.drewN_drewN _ _ _) (congrArg (World.drewN _) (Nat.add_assoc _ _ _))⟩)))
   repeat (go_quiet (first|((with_reducible refine gate_dst (N:=3) rfl ?_);refine bx_ (N:=3) (cs:=#[.int .i64 a1_0, .string a1_1, .string a1_2, .int .i64 a1_3, .int .i64 a1_4, .int .i64 a1_5]) (t:=58) ?_;intro gb1 hg w32 hbox hb;have BK1:=am_ (hbox);have GW1:=am_ ((zg0_ HB hg:w.heap.size≤gb1));have GE1:=am_ ((zg0_ HB hg:w.heap.size≤gb1));replace HB:=am_ (below_step (zl0_ HB) hb);clear hb hbox hg;obtain ⟨hcz33_0,hcz33_1,hcz33_2,hcz33_3,hcz33_4,hcz33_5⟩:=x6_ BK1;have hfz33_0:=blk_frozen BK1.out 0;have hfz33_1:=blk_frozen BK1.out 1;have hfz33_2:=blk_frozen BK1.out 2;have hfz33_3:=blk_frozen BK1.out 3;have hfz33_4:=blk_frozen BK1.out 4;have hfz33_5:=blk_frozen BK1.out 5)|(go_at_call 50;(with_reducible refine (r10_Find.calls k _ _ l0 a1_1 t2 _ ?side1 ?side2 A3.out).mono ?_);(case side1=>exact zc_ (Kd.C_below HR0.out HB.out));(case side2=>exact HC0.out);rintro e w' ⟨rfl,⟨nd,rfl⟩⟩;(try first|exact ⟨rfl,_,World.drewN_drewN _ _ _⟩|exact ⟨rfl,_,Eq.trans (World.drewN_drewN _ _ _) (congrArg (World.drewN _) (Nat.add_assoc _ _ _))⟩)));try go_wp2_with (first|((with_reducible refine gate_dst (N:=3) rfl ?_);refine bx_ (N:=3) (cs:=#[.int .i64 a1_0, .string a1_1, .string a1_2, .int .i64 a1_3, .int .i64 a1_4, .int .i64 a1_5]) (t:=58) ?_;intro gb1 hg w32 hbox hb;have BK1:=am_ (hbox);have GW1:=am_ ((zg0_ HB hg:w.heap.size≤gb1));have GE1:=am_ ((zg0_ HB hg:w.heap.size≤gb1));replace HB:=am_ (below_step (zl0_ HB) hb);clear hb hbox hg;obtain ⟨hcz33_0,hcz33_1,hcz33_2,hcz33_3,hcz33_4,hcz33_5⟩:=x6_ BK1;have hfz33_0:=blk_frozen BK1.out 0;have hfz33_1:=blk_frozen BK1.out 1;have hfz33_2:=blk_frozen BK1.out 2;have hfz33_3:=blk_frozen BK1.out 3;have hfz33_4:=blk_frozen BK1.out 4;have hfz33_5:=blk_frozen BK1.out 5)|(go_at_call 50;(with_reducible refine (r10_Find.calls k _ _ l0 a1_1 t2 _ ?side1 ?side2 A3.out).mono ?_);(case side1=>exact zc_ (Kd.C_below HR0.out HB.out));(case side2=>exact HC0.out);rintro e w' ⟨rfl,⟨nd,rfl⟩⟩;(try first|exact ⟨rfl,_,World.drewN_drewN _ _ _⟩|exact ⟨rfl,_,Eq.trans (World.drewN_drewN _ _ _) (congrArg (World.drewN _) (Nat.add_assoc _ _ _))⟩))))
   go_ret
   exact ⟨by first|rfl|(simp [errW_none,errW_some]<;>rfl)|(simp [*,errW_none,errW_some]<;>rfl),zl1_ HB GE1⟩
  rw [if_neg c31] at H
  have c31b0:(a1_0==4)=false:=beq_eq_false_iff_ne.mpr c31
  have c31b1:(a1_0 !=4)=true:=bne_iff_ne.mpr c31
  obtain rfl:=Option.some.inj H
  go_enter Try.func53,Try.ntmps53
  go_wp2_with (first|((with_reducible refine gate_dst (N:=3) rfl ?_);refine bx_ (N:=3) (cs:=#[.int .i64 a1_0, .string a1_1, .string a1_2, .int .i64 a1_3, .int .i64 a1_4, .int .i64 a1_5]) (t:=58) ?_;intro gb1 hg w34 hbox hb;have BK1:=am_ (hbox);have GW1:=am_ ((zg0_ HB hg:w.heap.size≤gb1));have GE1:=am_ ((zg0_ HB hg:w.heap.size≤gb1));replace HB:=am_ (below_step (zl0_ HB) hb);clear hb hbox hg;obtain ⟨hcz35_0,hcz35_1,hcz35_2,hcz35_3,hcz35_4,hcz35_5⟩:=x6_ BK1;have hfz35_0:=blk_frozen BK1.out 0;have hfz35_1:=blk_frozen BK1.out 1;have hfz35_2:=blk_frozen BK1.out 2;have hfz35_3:=blk_frozen BK1.out 3;have hfz35_4:=blk_frozen BK1.out 4;have hfz35_5:=blk_frozen BK1.out 5)|(go_at_call 50;(with_reducible refine (r10_Find.calls k _ _ l0 a1_1 t2 _ ?side1 ?side2 A3.out).mono ?_);(case side1=>exact zc_ (Kd.C_below HR0.out HB.out));(case side2=>exact HC0.out);rintro e w' ⟨rfl,⟨nd,rfl⟩⟩;(try first|exact ⟨rfl,_,World.drewN_drewN _ _ _⟩|exact ⟨rfl,_,Eq.trans (World.drewN_drewN _ _ _) (congrArg (World.drewN _) (Nat.add_assoc _ _ _))⟩)))
  repeat (go_quiet (first|((with_reducible refine gate_dst (N:=3) rfl ?_);refine bx_ (N:=3) (cs:=#[.int .i64 a1_0, .string a1_1, .string a1_2, .int .i64 a1_3, .int .i64 a1_4, .int .i64 a1_5]) (t:=58) ?_;intro gb1 hg w34 hbox hb;have BK1:=am_ (hbox);have GW1:=am_ ((zg0_ HB hg:w.heap.size≤gb1));have GE1:=am_ ((zg0_ HB hg:w.heap.size≤gb1));replace HB:=am_ (below_step (zl0_ HB) hb);clear hb hbox hg;obtain ⟨hcz35_0,hcz35_1,hcz35_2,hcz35_3,hcz35_4,hcz35_5⟩:=x6_ BK1;have hfz35_0:=blk_frozen BK1.out 0;have hfz35_1:=blk_frozen BK1.out 1;have hfz35_2:=blk_frozen BK1.out 2;have hfz35_3:=blk_frozen BK1.out 3;have hfz35_4:=blk_frozen BK1.out 4;have hfz35_5:=blk_frozen BK1.out 5)|(go_at_call 50;(with_reducible refine (r10_Find.calls k _ _ l0 a1_1 t2 _ ?side1 ?side2 A3.out).mono ?_);(case side1=>exact zc_ (Kd.C_below HR0.out HB.out));(case side2=>exact HC0.out);rintro e w' ⟨rfl,⟨nd,rfl⟩⟩;(try first|exact ⟨rfl,_,World.drewN_drewN _ _ _⟩|exact ⟨rfl,_,Eq.trans (World.drewN_drewN _ _ _) (congrArg (World.drewN _) (Nat.add_assoc _ _ _))⟩)));try go_wp2_with (first|((with_reducible refine gate_dst (N:=3) rfl ?_);refine bx_ (N:=3) (cs:=#[.int .i64 a1_0, .string a1_1, .string a1_2, .int .i64 a1_3, .int .i64 a1_4, .int .i64 a1_5]) (t:=58) ?_;intro gb1 hg w34 hbox hb;have BK1:=am_ (hbox);have GW1:=am_ ((zg0_ HB hg:w.heap.size≤gb1));have GE1:=am_ ((zg0_ HB hg:w.heap.size≤gb1));replace HB:=am_ (below_step (zl0_ HB) hb);clear hb hbox hg;obtain ⟨hcz35_0,hcz35_1,hcz35_2,hcz35_3,hcz35_4,hcz35_5⟩:=x6_ BK1;have hfz35_0:=blk_frozen BK1.out 0;have hfz35_1:=blk_frozen BK1.out 1;have hfz35_2:=blk_frozen BK1.out 2;have hfz35_3:=blk_frozen BK1.out 3;have hfz35_4:=blk_frozen BK1.out 4;have hfz35_5:=blk_frozen BK1.out 5)|(go_at_call 50;(with_reducible refine (r10_Find.calls k _ _ l0 a1_1 t2 _ ?side1 ?side2 A3.out).mono ?_);(case side1=>exact zc_ (Kd.C_below HR0.out HB.out));(case side2=>exact HC0.out);rintro e w' ⟨rfl,⟨nd,rfl⟩⟩;(try first|exact ⟨rfl,_,World.drewN_drewN _ _ _⟩|exact ⟨rfl,_,Eq.trans (World.drewN_drewN _ _ _) (congrArg (World.drewN _) (Nat.add_assoc _ _ _))⟩))))
  go_ret
  exact ⟨by first|rfl|(simp [errW_none,errW_some]<;>rfl)|(simp [*,errW_none,errW_some]<;>rfl),zl1_ HB GE1⟩

 rw [if_pos c23] at H
 have c23b0:(a1_0==3)=true:=beq_iff_eq.mpr c23
 have c23b1:(a1_0 !=3)=false:=bne_eq_false_iff_eq.mpr c23
 clear c23
 by_cases c24:t2≥0
 rotate_left
 ·rw [if_neg c24] at H
  have c24b0:decide (0≤t2)=false:=decide_eq_false c24
  clear c24
  obtain rfl:=Option.some.inj H
  go_enter Try.func53,Try.ntmps53
  go_wp2_with (first|((with_reducible refine gate_dst (N:=3) rfl ?_);refine bx_ (N:=3) (cs:=#[.int .i64 a1_0, .string a1_1, .string a1_2, .int .i64 a1_3, .int .i64 a1_4, .int .i64 a1_5]) (t:=58) ?_;intro gb1 hg w29 hbox hb;have BK1:=am_ (hbox);have GW1:=am_ ((zg0_ HB hg:w.heap.size≤gb1));have GE1:=am_ ((zg0_ HB hg:w.heap.size≤gb1));replace HB:=am_ (below_step (zl0_ HB) hb);clear hb hbox hg;obtain ⟨hcz30_0,hcz30_1,hcz30_2,hcz30_3,hcz30_4,hcz30_5⟩:=x6_ BK1;have hfz30_0:=blk_frozen BK1.out 0;have hfz30_1:=blk_frozen BK1.out 1;have hfz30_2:=blk_frozen BK1.out 2;have hfz30_3:=blk_frozen BK1.out 3;have hfz30_4:=blk_frozen BK1.out 4;have hfz30_5:=blk_frozen BK1.out 5)|(go_at_call 50;(with_reducible refine (r10_Find.calls k _ _ l0 a1_1 t2 _ ?side1 ?side2 A3.out).mono ?_);(case side1=>exact zc_ (Kd.C_below HR0.out HB.out));(case side2=>exact HC0.out);rintro e w' ⟨rfl,⟨nd,rfl⟩⟩;(try first|exact ⟨rfl,_,World.drewN_drewN _ _ _⟩|exact ⟨rfl,_,Eq.trans (World.drewN_drewN _ _ _) (congrArg (World.drewN _) (Nat.add_assoc _ _ _))⟩)))
  repeat (go_quiet (first|((with_reducible refine gate_dst (N:=3) rfl ?_);refine bx_ (N:=3) (cs:=#[.int .i64 a1_0, .string a1_1, .string a1_2, .int .i64 a1_3, .int .i64 a1_4, .int .i64 a1_5]) (t:=58) ?_;intro gb1 hg w29 hbox hb;have BK1:=am_ (hbox);have GW1:=am_ ((zg0_ HB hg:w.heap.size≤gb1));have GE1:=am_ ((zg0_ HB hg:w.heap.size≤gb1));replace HB:=am_ (below_step (zl0_ HB) hb);clear hb hbox hg;obtain ⟨hcz30_0,hcz30_1,hcz30_2,hcz30_3,hcz30_4,hcz30_5⟩:=x6_ BK1;have hfz30_0:=blk_frozen BK1.out 0;have hfz30_1:=blk_frozen BK1.out 1;have hfz30_2:=blk_frozen BK1.out 2;have hfz30_3:=blk_frozen BK1.out 3;have hfz30_4:=blk_frozen BK1.out 4;have hfz30_5:=blk_frozen BK1.out 5)|(go_at_call 50;(with_reducible refine (r10_Find.calls k _ _ l0 a1_1 t2 _ ?side1 ?side2 A3.out).mono ?_);(case side1=>exact zc_ (Kd.C_below HR0.out HB.out));(case side2=>exact HC0.out);rintro e w' ⟨rfl,⟨nd,rfl⟩⟩;(try first|exact ⟨rfl,_,World.drewN_drewN _ _ _⟩|exact ⟨rfl,_,Eq.trans (World.drewN_drewN _ _ _) (congrArg (World.drewN _) (Nat.add_assoc _ _ _))⟩)));try go_wp2_with (first|((with_reducible refine gate_dst (N:=3) rfl ?_);refine bx_ (N:=3) (cs:=#[.int .i64 a1_0, .string a1_1, .string a1_2, .int .i64 a1_3, .int .i64 a1_4, .int .i64 a1_5]) (t:=58) ?_;intro gb1 hg w29 hbox hb;have BK1:=am_ (hbox);have GW1:=am_ ((zg0_ HB hg:w.heap.size≤gb1));have GE1:=am_ ((zg0_ HB hg:w.heap.size≤gb1));replace HB:=am_ (below_step (zl0_ HB) hb);clear hb hbox hg;obtain ⟨hcz30_0,hcz30_1,hcz30_2,hcz30_3,hcz30_4,hcz30_5⟩:=x6_ BK1;have hfz30_0:=blk_frozen BK1.out 0;have hfz30_1:=blk_frozen BK1.out 1;have hfz30_2:=blk_frozen BK1.out 2;have hfz30_3:=blk_frozen BK1.out 3;have hfz30_4:=blk_frozen BK1.out 4;have hfz30_5:=blk_frozen BK1.out 5)|(go_at_call 50;(with_reducible refine (r10_Find.calls k _ _ l0 a1_1 t2 _ ?side1 ?side2 A3.out).mono ?_);(case side1=>exact zc_ (Kd.C_below HR0.out HB.out));(case side2=>exact HC0.out);rintro e w' ⟨rfl,⟨nd,rfl⟩⟩;(try first|exact ⟨rfl,_,World.drewN_drewN _ _ _⟩|exact ⟨rfl,_,Eq.trans (World.drewN_drewN _ _ _) (congrArg (World.drewN _) (Nat.add_assoc _ _ _))⟩))))
  go_ret
  exact ⟨by first|rfl|(simp [errW_none,errW_some]<;>rfl)|(simp [*,errW_none,errW_some]<;>rfl),zl1_ HB GE1⟩
 rw [if_pos c24] at H
 have c24b0:decide (0≤t2)=true:=decide_eq_true c24
 clear c24
 by_cases c25:0≤t2
 rotate_left
 ·rw [if_neg c25] at H
  exact absurd H (by simp)
 rw [if_pos c25] at H
 have c25b0:decide (0≤t2)=true:=decide_eq_true c25
 clear c25
 by_cases c26:t2<(l0.length:Int)
 rotate_left
 ·rw [if_neg c26] at H
  exact absurd H (by simp)
 rw [if_pos c26] at H
 have c26b0:decide (t2<(l0.length:Int))=true:=decide_eq_true c26
 clear c26
 obtain rfl:=Option.some.inj H
 go_enter Try.func53,Try.ntmps53
 go_wp2_with (first|((with_reducible refine gate_dst (N:=3) rfl ?_);refine bx_ (N:=3) (cs:=#[.int .i64 a1_0, .string a1_1, .string a1_2, .int .i64 a1_3, .int .i64 a1_4, .int .i64 a1_5]) (t:=58) ?_;intro gb1 hg w27 hbox hb;have BK1:=am_ (hbox);have GW1:=am_ ((zg0_ HB hg:w.heap.size≤gb1));have GE1:=am_ ((zg0_ HB hg:w.heap.size≤gb1));replace HB:=am_ (below_step (zl0_ HB) hb);clear hb hbox hg;obtain ⟨hcz28_0,hcz28_1,hcz28_2,hcz28_3,hcz28_4,hcz28_5⟩:=x6_ BK1;have hfz28_0:=blk_frozen BK1.out 0;have hfz28_1:=blk_frozen BK1.out 1;have hfz28_2:=blk_frozen BK1.out 2;have hfz28_3:=blk_frozen BK1.out 3;have hfz28_4:=blk_frozen BK1.out 4;have hfz28_5:=blk_frozen BK1.out 5)|(go_at_call 50;(with_reducible refine (r10_Find.calls k _ _ l0 a1_1 t2 _ ?side1 ?side2 A3.out).mono ?_);(case side1=>exact zc_ (Kd.C_below HR0.out HB.out));(case side2=>exact HC0.out);rintro e w' ⟨rfl,⟨nd,rfl⟩⟩;(try first|exact ⟨rfl,_,World.drewN_drewN _ _ _⟩|exact ⟨rfl,_,Eq.trans (World.drewN_drewN _ _ _) (congrArg (World.drewN _) (Nat.add_assoc _ _ _))⟩);have p6:0≤(t2:Int):=of_decide_eq_true zq_;have q6:t2<(l0.length:Int):=of_decide_eq_true zq_;obtain ⟨ad6,e6,hx6_0,hx6_1,hx6_2,hx6_3,hx6_4,hx6_5,hx6_6,hx6_7,hx6_8,hx6_9,hx6_10,hx6_11⟩:=at_T31 HR0.out t2 p6 q6;cases e6;replace hx6_0:=zx_ HB hx6_0;replace hx6_1:=zx_ HB hx6_1;replace hx6_2:=zx_ HB hx6_2;replace hx6_3:=zx_ HB hx6_3;replace hx6_4:=zx_ HB hx6_4;replace hx6_5:=zx_ HB hx6_5;replace hx6_6:=zx_ HB hx6_6;replace hx6_7:=zx_ HB hx6_7;replace hx6_8:=zx_ HB hx6_8;replace hx6_9:=zx_ HB hx6_9;replace hx6_10:=zx_ HB hx6_10;replace hx6_11:=zx_ HB hx6_11;replace p6:=eq_true p6;replace q6:=eq_true q6))
 repeat (go_quiet (first|((with_reducible refine gate_dst (N:=3) rfl ?_);refine bx_ (N:=3) (cs:=#[.int .i64 a1_0, .string a1_1, .string a1_2, .int .i64 a1_3, .int .i64 a1_4, .int .i64 a1_5]) (t:=58) ?_;intro gb1 hg w27 hbox hb;have BK1:=am_ (hbox);have GW1:=am_ ((zg0_ HB hg:w.heap.size≤gb1));have GE1:=am_ ((zg0_ HB hg:w.heap.size≤gb1));replace HB:=am_ (below_step (zl0_ HB) hb);clear hb hbox hg;obtain ⟨hcz28_0,hcz28_1,hcz28_2,hcz28_3,hcz28_4,hcz28_5⟩:=x6_ BK1;have hfz28_0:=blk_frozen BK1.out 0;have hfz28_1:=blk_frozen BK1.out 1;have hfz28_2:=blk_frozen BK1.out 2;have hfz28_3:=blk_frozen BK1.out 3;have hfz28_4:=blk_frozen BK1.out 4;have hfz28_5:=blk_frozen BK1.out 5)|(go_at_call 50;(with_reducible refine (r10_Find.calls k _ _ l0 a1_1 t2 _ ?side1 ?side2 A3.out).mono ?_);(case side1=>exact zc_ (Kd.C_below HR0.out HB.out));(case side2=>exact HC0.out);rintro e w' ⟨rfl,⟨nd,rfl⟩⟩;(try first|exact ⟨rfl,_,World.drewN_drewN _ _ _⟩|exact ⟨rfl,_,Eq.trans (World.drewN_drewN _ _ _) (congrArg (World.drewN _) (Nat.add_assoc _ _ _))⟩);have p6:0≤(t2:Int):=of_decide_eq_true zq_;have q6:t2<(l0.length:Int):=of_decide_eq_true zq_;obtain ⟨ad6,e6,hx6_0,hx6_1,hx6_2,hx6_3,hx6_4,hx6_5,hx6_6,hx6_7,hx6_8,hx6_9,hx6_10,hx6_11⟩:=at_T31 HR0.out t2 p6 q6;cases e6;replace hx6_0:=zx_ HB hx6_0;replace hx6_1:=zx_ HB hx6_1;replace hx6_2:=zx_ HB hx6_2;replace hx6_3:=zx_ HB hx6_3;replace hx6_4:=zx_ HB hx6_4;replace hx6_5:=zx_ HB hx6_5;replace hx6_6:=zx_ HB hx6_6;replace hx6_7:=zx_ HB hx6_7;replace hx6_8:=zx_ HB hx6_8;replace hx6_9:=zx_ HB hx6_9;replace hx6_10:=zx_ HB hx6_10;replace hx6_11:=zx_ HB hx6_11;replace p6:=eq_true p6;replace q6:=eq_true q6));try go_wp2_with (first|((with_reducible refine gate_dst (N:=3) rfl ?_);refine bx_ (N:=3) (cs:=#[.int .i64 a1_0, .string a1_1, .string a1_2, .int .i64 a1_3, .int .i64 a1_4, .int .i64 a1_5]) (t:=58) ?_;intro gb1 hg w27 hbox hb;have BK1:=am_ (hbox);have GW1:=am_ ((zg0_ HB hg:w.heap.size≤gb1));have GE1:=am_ ((zg0_ HB hg:w.heap.size≤gb1));replace HB:=am_ (below_step (zl0_ HB) hb);clear hb hbox hg;obtain ⟨hcz28_0,hcz28_1,hcz28_2,hcz28_3,hcz28_4,hcz28_5⟩:=x6_ BK1;have hfz28_0:=blk_frozen BK1.out 0;have hfz28_1:=blk_frozen BK1.out 1;have hfz28_2:=blk_frozen BK1.out 2;have hfz28_3:=blk_frozen BK1.out 3;have hfz28_4:=blk_frozen BK1.out 4;have hfz28_5:=blk_frozen BK1.out 5)|(go_at_call 50;(with_reducible refine (r10_Find.calls k _ _ l0 a1_1 t2 _ ?side1 ?side2 A3.out).mono ?_);(case side1=>exact zc_ (Kd.C_below HR0.out HB.out));(case side2=>exact HC0.out);rintro e w' ⟨rfl,⟨nd,rfl⟩⟩;(try first|exact ⟨rfl,_,World.drewN_drewN _ _ _⟩|exact ⟨rfl,_,Eq.trans (World.drewN_drewN _ _ _) (congrArg (World.drewN _) (Nat.add_assoc _ _ _))⟩);have p6:0≤(t2:Int):=of_decide_eq_true zq_;have q6:t2<(l0.length:Int):=of_decide_eq_true zq_;obtain ⟨ad6,e6,hx6_0,hx6_1,hx6_2,hx6_3,hx6_4,hx6_5,hx6_6,hx6_7,hx6_8,hx6_9,hx6_10,hx6_11⟩:=at_T31 HR0.out t2 p6 q6;cases e6;replace hx6_0:=zx_ HB hx6_0;replace hx6_1:=zx_ HB hx6_1;replace hx6_2:=zx_ HB hx6_2;replace hx6_3:=zx_ HB hx6_3;replace hx6_4:=zx_ HB hx6_4;replace hx6_5:=zx_ HB hx6_5;replace hx6_6:=zx_ HB hx6_6;replace hx6_7:=zx_ HB hx6_7;replace hx6_8:=zx_ HB hx6_8;replace hx6_9:=zx_ HB hx6_9;replace hx6_10:=zx_ HB hx6_10;replace hx6_11:=zx_ HB hx6_11;replace p6:=eq_true p6;replace q6:=eq_true q6)))
 go_ret
 exact ⟨by first|rfl|(simp [errW_none,errW_some]<;>rfl)|(simp [*,errW_none,errW_some]<;>rfl),zl1_ HB GE1⟩
def slices_Clone_Mark.f (l0:List (S54)):Option (List (S54)):=if l0.length<2199023255552 then some l0 else none
set_option maxHeartbeats 8000000 in
set_option maxRecDepth 100000 in
theorem slices_Clone_Mark.calls (A0:Option Addr) (c0:Nat) (l0:List (S54)) (r:List (S54)) (w:World) (hr0:Kd.C k54 w A0 l0.length l0) (hc0:l0.length≤c0) (h:slices_Clone_Mark.f l0=some r):
    Calls Try.prog 112 #[.slice A0 l0.length c0] w fun e w'=> ∃v0_:Value,e= .returned (v0_)∧Kd.R k54 54 w' w.heap.size (fun _=>True) v0_ r∧Below w.heap.size w w':=by
  have hlim:l0.length<2199023255552∧l0=r:=by
    unfold slices_Clone_Mark.f at h
    split at h
    · exact ⟨by assumption,Option.some.inj h⟩
    cases h
  obtain ⟨hlim,rfl⟩:=hlim
  have hnil:=fun (W:World) (n c:Nat)=>Lib.run_eql_slice_nil (P:=Try.prog) W 35 54 A0 n c 0 0 Try.underlying35
  cases A0 with
  | none =>
    have hl:l0=[]:=by
      cases l0 with
      |nil=>rfl
      |cons x l=>exact absurd (hr0.2.2 (by simp)) (by simp)
    subst hl
    clear hr0
    go_enter Try.func112,Try.ntmps112
    go_wp2
    go_ret
    exact ⟨_,rfl,Kd.R_nil _ _ _ _ _,Below.refl _ _⟩
  | some ad =>
    have HR0:=Aside0.mk hr0
    have HC0:=Aside0.mk hc0
    have LM:=Aside0.mk hlim
    clear hr0 hc0 hlim h
    have HB:=am_ (Below.refl w.heap.size w)
    go_enter Try.func112,Try.ntmps112
    go_wp2_with (first|((with_reducible refine gate_dst (N:=5) rfl ?_);refine Kd.R_lit k54 _ 54 ?hg (N:=5) ?hd (xs:=([]:List (S54))) (inner:=[]) (ok:=fun _=>True) (okp:=fun _=>True) ?hr ?hp (fun _ hk=>hk) trivial (Below.refl _ _) (Nat.le_refl _) (by simp) ?_;(case hd=>rfl);(case hg=>rfl);(case hr=>first|(go_simp;done)|(go_simp;rfl));(case hp=>exact (Reps.none _ _));intro v2 w3 ho4 hb hg_ hnew_;clear hg_ hnew_;have HO3:=am_ (Kd.R_lower ho4 (below_size HB.out));replace HB:=am_ (below_step HB.out hb);clear hb ho4)|((with_reducible refine gate_builtin (b:= .append) (xs:=#[.tmp 5, .tmp 6]) rfl ?_);at_builtin;refine Kd.R_append_rows k54 (w0:=w) w.heap.size rfl (.tmp 5) (.tmp 6) 35 54 (.agg #[(.string ⟨#[]⟩),(.string ⟨#[]⟩),(.int .i64 0),(.int .i64 0),(.int .i64 0),(.int .i64 0)]) 64 rfl Try.underlying35 info54 rfl (by decide) (by omega) v2 [] l0 _ _ _ (fun _=>True) (fun _=>False) rfl rfl ?aO ?aR (fun _ _ h=>h) (fun _ h=>h.elim) ?aF ?aB ?aS ?aL ?_;(case aR=>exact (Kd.C_below HR0.out HB.out));(case aB=>exact HB.out);(case aF=>exact (fun _ _=>trivial));(case aO=>exact HO3.out);(case aS=>exact (below_size HB.out));(case aL=>have:=LM.out;simp;omega);intro v5 w5 ho hb hg hat;have n0_:=am_ (hb);have n1_:=am_ (ho);clear HB;clear HO3;have HB:=n0_;have HO6:=n1_;clear n0_ n1_;clear ho hb hg hat))
    go_ret
    exact ⟨_,rfl,HO6.out,HB.out⟩


end Go.Proofs.Ytcgefpklljclgaa.Print

namespace Go.Proofs.Ytcgefpklljclgaa.Print
open Go.RowKit Go.Proofs.YtcgefpklljclgaaW.PrintWords Go.Proofs.YtcgefpklljclgaaW.PrintLast Go.Proofs.YtcgefpklljclgaaW.PrintMore
theorem eff_own {α:Type} {d:Kd α} {e base:Nat} {ok:Nat→Prop} {w:World} {v:Value} {xs:List α} (h:d.R e w base ok v xs) (k:Nat) (hk:v.ownBlock=some k):base≤k∧k<w.heap.size:=⟨((Kd.R_bound h).1 k hk).2.1,((Kd.R_bound h).1 k hk).2.2.1⟩
theorem eff_old {α:Type} {d:Kd α} {e base:Nat} {ok:Nat→Prop} {w:World} {v:Value} {xs:List α} (h:d.R e w base ok v xs):d.R e w base (fun k=>k<w.heap.size) v xs:=Kd.R_mono (Kd.R_bound h) (fun k hk=>hk.2.2.1)
theorem eff_put_old {α:Type} {d:Kd α} {e base g:Nat} {w w1:World} {v:Value} {xs:List α} (h:d.R e w base (fun k=>k<g) v xs) (hg:w.grownBy w1 (some g)):d.R e w1 base (fun k=>k<g) v xs:=Kd.R_grown h hg (fun k hk e=>by cases e;exact absurd hk (Nat.lt_irrefl _))
theorem eff_ne_old {α:Type} {d:Kd α} {e base g:Nat} {w:World} {v:Value} {xs:List α} (h:d.R e w base (fun k=>k<g) v xs):some g≠v.ownBlock:=fun e=>absurd (h.1 g e.symm) (Nat.lt_irrefl g)
def Keep2 (W w:World) (o i:Nat) (row:Option Nat):Prop:=W.heap.size≤w.heap.size∧ ∀g,g<W.heap.size→g≠o→g≠i→some g≠row→w.heap[g]?=W.heap[g]?
set_option maxHeartbeats 4000000 in
set_option maxRecDepth 100000 in
theorem effPut_calls (W:World) (b0 bo bs bf bi base nl:Nat) (A:Option Addr) (c:Nat) (v:Value) (x:Bool) (out:List S54) (s0 s3 s4 s5:Int) (s1 s2:ByteArray) (f1 f2:ByteArray) (f3 f4 f5 f6 f7 f8 f9 f10 f11 f12:Int) (f13:Bool)
    (ho:W.heap[bo]?=some (.cells #[v] 35 (0,0))) (hs:W.heap[bs]?=some (.cells #[.int .i64 s0, .string s1, .string s2, .int .i64 s3, .int .i64 s4, .int .i64 s5] 58 (0,0))) (hf:W.heap[bf]?=some (.cells #[.slice A nl c, .string f1, .string f2, .int .i64 f3, .int .i64 f4, .int .i64 f5, .int .i64 f6, .int .i64 f7, .int .i64 f8, .int .i64 f9, .int .i64 f10, .int .i64 f11, .int .i64 f12, .bool f13] 142 (0,0))) (hi:W.heap[bi]?=some (.cells #[.bool x] 4 (0,0)))
    (h0:b0≤bo) (h1:bo<bi) (h2:bi<base) (h3:base≤W.heap.size) (hr:Kd.R k54 54 W base (fun _=>True) v out) (hl:out.length<1000000000):
    Calls Try.prog 111 #[.pointer (some ⟨bo,0,none⟩), .pointer (some ⟨bs,0,none⟩), .pointer (some ⟨bf,0,none⟩), .pointer (some ⟨bi,0,none⟩)] W fun e w'=>e= .returned (.tuple #[])∧ ∃v',w'.heap[bo]?=some (.cells #[v'] 35 (0,0))∧w'.heap[bi]?=some (.cells #[.bool true] 4 (0,0))∧
      Kd.R k54 54 w' base (fun _=>True) v' (out++ [⟨s1,f2,⟨f3,f4,f5⟩,f12⟩])∧Keep2 W w' bo bi v.ownBlock∧Below b0 W w':=by
  have hu142:=Try.underlying142
  have hu140:=Try.underlying140
  have hu31:=Try.underlying31
  have hu54:=Try.underlying54
  have hu58:=Try.underlying58
  have co:=(blk_cell ho 0).trans rfl
  have cs1:=(blk_cell hs 1).trans rfl
  have cf2:=(blk_cell hf 2).trans rfl
  have cf3:=(blk_cell hf 3).trans rfl
  have cf4:=(blk_cell hf 4).trans rfl
  have cf5:=(blk_cell hf 5).trans rfl
  have cf12:=(blk_cell hf 12).trans rfl
  have HOT:=am_ (blk_lt ho)
  have HIT:=am_ (blk_lt hi)
  have HO:=Aside0.mk hr
  have BO:=Aside0.mk ho
  have BI:=Aside0.mk hi
  have HL:=Aside0.mk hl
  have HOWN:=am_ (eff_own hr)
  have H0:=Aside0.mk h0
  have H1:=Aside0.mk h1
  have H2:=Aside0.mk h2
  have H3:=Aside0.mk h3
  have NBI:=am_ (show bi≠bo by omega)
  obtain ⟨Au,cu,eu⟩:=Kd.R_slice hr
  subst eu
  clear ho hs hf hi hr hl h0 h1 h2 h3
  go_enter Try.func111,Try.ntmps111
  go_wp2_with (first|((with_reducible refine gate_builtin (b:= .append) (xs:=#[.tmp 4, .tmp 17]) rfl ?_);at_builtin;refine Kd.R_append k54 (w0:=W) base rfl (.tmp 4) (.tmp 17) 35 54 (.agg #[(.string ⟨#[]⟩),(.string ⟨#[]⟩),(.int .i64 0),(.int .i64 0),(.int .i64 0),(.int .i64 0)]) 64 rfl Try.underlying35 info54 rfl (by decide) (by omega) _ out ⟨s1,f2,⟨f3,f4,f5⟩,f12⟩ [.string s1, .string f2, .int .i64 f3, .int .i64 f4, .int .i64 f5, .int .i64 f12] (fun _=>True) (fun _=>False) rfl (by first|(go_simp;done)|(go_simp;rfl)) ?aP (fun _ hk=>hk.elim) ?aF ?aO ?aB ?aS ?aL ?_;(case aP=>exact k54_mkM _ _ _ (⟨s1,f2,⟨f3,f4,f5⟩,f12⟩:S54));(case aF=>exact fun _ _=>trivial);(case aO=>exact HO.out);(case aB=>exact Below.refl _ _);(case aS=>exact H3.out);(case aL=>have:=HL.out;omega);intro v5 w8 ho hb hg hat;have HO8:=Aside0.mk ho;have HG8:=Aside0.mk hg;have HAT:=Aside0.mk hat;have hne:some bo≠_:=Kd.R_ne HO.out BO.out (by decide);have hni:some bi≠_:=Kd.R_ne HO.out BI.out (by decide);have BO8:=am_ (blk_grown BO.out hg hne);have BI8:=am_ (blk_grown BI.out hg hni);have zo:=blk_frozen BO8.out 0;have zi:=blk_frozen BI8.out 0;have do_:=(blk_cell BO8.out 0).trans rfl;have di:=(blk_cell BI8.out 0).trans rfl;clear ho hb hg hat hne hni;obtain ⟨Ao,co_,eo⟩:=Kd.R_slice HO8.out;subst eo)|((with_reducible refine gate_store (t:=35) (p:=0) (v:= .tmp 18) rfl ?_);refine store_all BO8.out 35 (.tmp 0) (.tmp 18) rfl rfl rfl _ [_] rfl rfl rfl (by kernel_rfl) rfl (by intro q hq;simp only [List.mem_cons,List.not_mem_nil,or_false] at hq;rcases hq with rfl;rfl) ?_;intro w9 hbk hg9;have BO9:=Aside0.mk hbk;have HG9:=Aside0.mk hg9;have BI9:=am_ (blk_put_other BI8.out hg9 NBI.out);have HO9:=am_ (R_put HO8.out BO8.out (by decide) hg9);clear hbk hg9)|((with_reducible refine gate_store (t:=4) (p:=3) (v:= .const (.bool true)) rfl ?_);refine store_all BI9.out 4 (.tmp 3) (.const (.bool true)) rfl rfl rfl (.bool true) [.bool true] rfl rfl rfl (by kernel_rfl) rfl (by intro q hq;simp only [List.mem_cons,List.not_mem_nil,or_false] at hq;rcases hq with rfl;rfl) ?_;intro w10 hbk hg10;have BI10:=Aside0.mk hbk;have HG10:=Aside0.mk hg10;have BO10:=am_ (blk_put_other BO9.out hg10 (fun e=>NBI.out e.symm));have HO10:=am_ (R_put HO9.out BI9.out (by decide) hg10);clear hbk hg10))
  (first|go_end0|((try simp only [Exit.inBlock,Exit.then]);refine bodyPost_ret (results_none rfl _ _ _) rfl ?_)|refine bodyPost_end (results_none rfl _ _ _) rfl ?_)
  refine ⟨rfl,_,BO10.out,BI10.out,(by first|exact HO10.out|(have q:=HO10.out;simp only [List.length_append,List.length_cons,List.length_nil,Nat.zero_add] at q ⊢;exact q)),⟨?_,fun g hg h4 h5 h6=> ?_⟩, ?_⟩
  · exact Nat.le_trans HG8.out.size (Nat.le_trans HG9.out.size HG10.out.size)
  · rw [HG10.out.block g (Nat.lt_of_lt_of_le hg (Nat.le_trans HG8.out.size HG9.out.size)) (fun e => h5 (Option.some.inj e)), HG9.out.block g (Nat.lt_of_lt_of_le hg HG8.out.size) (fun e => h4 (Option.some.inj e))]
    exact HG8.out.block g hg h6
  have hb0:b0≤bi:=by have:=H0.out;have:=H1.out;omega
  have hbs:b0≤W.heap.size:=by have:=H0.out;have:=HOT.out;omega
  have q8:Below b0 W w8:=pw_below_grown (Below.refl b0 W) _ hbs HG8.out (fun k e=>by have:=(HOWN.out k e).1;have:=H2.out;omega)
  exact below_put (below_put q8 (Nat.le_trans hbs HG8.out.size) HG9.out H0.out) (Nat.le_trans hbs (Nat.le_trans HG8.out.size HG9.out.size)) HG10.out hb0
end Go.Proofs.Ytcgefpklljclgaa.Print

namespace Go.Proofs.Ytcgefpklljclgaa.Print
open Go.RowKit Go.Proofs.YtcgefpklljclgaaW.PrintWords Go.Proofs.YtcgefpklljclgaaW.PrintLast Go.Proofs.YtcgefpklljclgaaW.PrintMore
attribute [local go_sem] max2_int min2_int max_two min_two max_three min_three max_four min_four

def effL (mk:S54) (n:ByteArray):Bool→List S54→List S54
 |b,[]=>if b=true then [] else [mk]
 |b,m::ms=>(if b=false∧Op.bytesLess m.f0.toList n.toList=false then [mk] else [])++((if m.f0.toList=n.toList then [] else [m])++effL mk n (if b=false∧Op.bytesLess m.f0.toList n.toList=false then true else b) ms)
theorem effL_len (mk:S54) (n:ByteArray): ∀(ms:List S54) (b:Bool),(effL mk n b ms).length≤2*ms.length+1
  |[],b=>by unfold effL;split<;>simp
  | m :: ms, b => by
    unfold effL
    have:=effL_len mk n ms (if b=false∧Op.bytesLess m.f0.toList n.toList=false then true else b)
    rw [List.length_append,List.length_append,List.length_cons]
    have h1:(if b=false∧Op.bytesLess m.f0.toList n.toList=false then [mk] else []).length≤1:=by split<;>simp
    have h2:(if m.f0.toList=n.toList then [] else [m]).length≤1:=by split<;>simp
    omega
def effect_Marks.f (l0:List (S54)) (l1:List (S31)) (s0:Int) (s1 s2:ByteArray) (s3 s4 s5:Int):Option (List (S54)):=if l0.length<400000000 then (effect_find.f l1 s1).bind fun q=>some (effL ⟨s1,q.2.1,⟨q.2.2.1,q.2.2.2.1,q.2.2.2.2.1⟩,q.2.2.2.2.2.2.2.2.2.2.2.1⟩ s1 (!q.2.2.2.2.2.2.2.2.2.2.2.2||s0==4) l0) else none
set_option maxHeartbeats 8000000 in
set_option maxRecDepth 100000 in
theorem effect_Marks.calls (A0:Option Addr) (c0:Nat) (l0:List (S54)) (A:Option Addr) (c:Nat) (l:List (S31)) (s0:Int) (s1 s2:ByteArray) (s3 s4 s5:Int) (r:List (S54)) (w:World) (hr0:Kd.C k54 w A0 l0.length l0) (hc0:l0.length≤c0) (hr1:Kd.C k31 w A l.length l) (hc1:l.length≤c) (h:effect_Marks.f l0 l s0 s1 s2 s3 s4 s5=some r):
    Calls Try.prog 54 #[.slice A0 l0.length c0, .slice A l.length c, .agg #[.int .i64 s0, .string s1, .string s2, .int .i64 s3, .int .i64 s4, .int .i64 s5]] w fun e w'=> ∃v0_:Value,e= .returned (v0_)∧Kd.R k54 54 w' w.heap.size (fun _=>True) v0_ r∧Below w.heap.size w w':=by
  have hu142:=Try.underlying142
  have hu140:=Try.underlying140
  have hu31:=Try.underlying31
  have hu54:=Try.underlying54
  have hu58:=Try.underlying58
  have hu27:=Try.underlying27
  unfold effect_Marks.f at h
  by_cases hlim:l0.length<400000000
  case neg=>rw [if_neg hlim] at h;cases h
  rw [if_pos hlim] at h
  obtain ⟨⟨r2,r3,r4,r5,r6,r7,r8,r9,r10,r11,r12,r13,r14⟩,hf,h⟩:=Option.bind_eq_some_iff.1 h
  have hrr:=(Option.some.inj h).symm
  dsimp only at hrr
  obtain ⟨mk,hmk⟩: ∃x:S54,x=⟨s1,r3,⟨r4,r5,r6⟩,r13⟩:=⟨_,rfl⟩
  rw [←hmk] at hrr
  have HMK:=Aside0.mk hmk
  have HRQ:=Aside0.mk hrr
  have HF:=Aside0.mk hf
  have HL:=Aside0.mk hlim
  have HR0:=Aside0.mk hr0
  have HR:=Aside0.mk hr1
  have HC:=Aside0.mk hc1
  have HB:=am_ (Below.refl w.heap.size w)
  clear hr0 hc0 hr1 hc1 hf h hrr hlim hmk
  go_enter Try.func54,Try.ntmps54
  go_wp2_with (first|((with_reducible refine gate_dst (N:=5) rfl ?_);refine bx_ (N:=5) (cs:=#[.int .i64 s0, .string s1, .string s2, .int .i64 s3, .int .i64 s4, .int .i64 s5]) (t:=58) ?_;intro gb5 hg w3 hbox hb;have BK5:=am_ (hbox);have GE5:=am_ ((by rw [hg];exact below_size HB.out:w.heap.size≤gb5));replace HB:=am_ (below_step HB.out hb);have EQ5:=am_ (hg);clear hb hbox hg;have cgb5_0:=(blk_cell BK5.out 0).trans rfl;have cgb5_1:=(blk_cell BK5.out 1).trans rfl;have cgb5_2:=(blk_cell BK5.out 2).trans rfl;have cgb5_3:=(blk_cell BK5.out 3).trans rfl;have cgb5_4:=(blk_cell BK5.out 4).trans rfl;have cgb5_5:=(blk_cell BK5.out 5).trans rfl))
  refine (effFind_calls A c l s1 r2 r3 r4 r5 r6 r7 r8 r9 r10 r11 r12 r13 r14 _ (Kd.C_below HR.out HB.out) HC.out HF.out).mono ?_
  rintro e w4 ⟨rfl,hb⟩
  have n0_:=am_ (blk_below BK5.out hb)
  have nB_:=am_ (below_step HB.out hb)
  clear BK5 HB hb cgb5_0 cgb5_1 cgb5_2 cgb5_3 cgb5_4 cgb5_5
  have BK5:=n0_
  have HB:=nB_
  clear nB_ n0_
  rcases Bool.eq_false_or_eq_true r14 with q14|q14
  subst q14
  focus (go_wp2_with (first|((with_reducible refine gate_dst (N:=7) rfl ?_);refine bx_ (N:=7) (cs:=#[.slice none 0 0, .string ⟨#[]⟩, .string ⟨#[]⟩, .int .i64 0, .int .i64 0, .int .i64 0, .int .i64 0, .int .i64 0, .int .i64 0, .int .i64 0, .int .i64 0, .int .i64 0, .int .i64 0, .bool false]) (t:=142) ?_;intro gb7 hg w5 hbox hb;have NE5_7:=am_ (show gb5≠gb7 from by have:=blk_lt BK5.out;rw [hg];exact Nat.ne_of_lt this);have LT5_7:=am_ (show gb5<gb7 from by have:=blk_lt BK5.out;rw [hg];exact this);replace BK5:=am_ (blk_below BK5.out hb);have BK7:=am_ (hbox);have GE7:=am_ ((by rw [hg];exact below_size HB.out:w.heap.size≤gb7));replace HB:=am_ (below_step HB.out hb);have EQ7:=am_ (hg);clear hb hbox hg;have cgb7_0:=(blk_cell BK7.out 0).trans rfl;have cgb7_1:=(blk_cell BK7.out 1).trans rfl;have cgb7_2:=(blk_cell BK7.out 2).trans rfl;have cgb7_3:=(blk_cell BK7.out 3).trans rfl;have cgb7_4:=(blk_cell BK7.out 4).trans rfl;have cgb7_5:=(blk_cell BK7.out 5).trans rfl;have cgb7_6:=(blk_cell BK7.out 6).trans rfl;have cgb7_7:=(blk_cell BK7.out 7).trans rfl;have cgb7_8:=(blk_cell BK7.out 8).trans rfl;have cgb7_9:=(blk_cell BK7.out 9).trans rfl;have cgb7_10:=(blk_cell BK7.out 10).trans rfl;have cgb7_11:=(blk_cell BK7.out 11).trans rfl;have cgb7_12:=(blk_cell BK7.out 12).trans rfl;have cgb7_13:=(blk_cell BK7.out 13).trans rfl)|((with_reducible refine gate_store (t:=142) (p:=7) (v:= .tmp 16) rfl ?_);refine store_all BK7.out 142 (.tmp 7) (.tmp 16) rfl rfl rfl (.agg #[.slice A l.length c, .string r2, .string r3, .int .i64 r4, .int .i64 r5, .int .i64 r6, .int .i64 r7, .int .i64 r8, .int .i64 r9, .int .i64 r10, .int .i64 r11, .int .i64 r12, .int .i64 r13, .bool true]) [.slice A l.length c, .string r2, .string r3, .int .i64 r4, .int .i64 r5, .int .i64 r6, .int .i64 r7, .int .i64 r8, .int .i64 r9, .int .i64 r10, .int .i64 r11, .int .i64 r12, .int .i64 r13, .bool true] rfl rfl rfl (by kernel_rfl) rfl (by intro q hq;simp only [List.mem_cons,List.not_mem_nil,or_false] at hq;rcases hq with rfl|rfl|rfl|rfl|rfl|rfl|rfl|rfl|rfl|rfl|rfl|rfl|rfl|rfl<;>rfl) ?_;intro w6 hbk hg;clear cgb7_0 cgb7_1 cgb7_2 cgb7_3 cgb7_4 cgb7_5 cgb7_6 cgb7_7 cgb7_8 cgb7_9 cgb7_10 cgb7_11 cgb7_12 cgb7_13;replace BK5:=am_ (blk_put_other BK5.out hg (NE5_7.out));replace HB:=am_ (below_put HB.out (below_size HB.out) hg GE7.out);replace BK7:=am_ (hbk);clear hbk hg;have cgb7_0:=(blk_cell BK7.out 0).trans rfl;have cgb7_1:=(blk_cell BK7.out 1).trans rfl;have cgb7_2:=(blk_cell BK7.out 2).trans rfl;have cgb7_3:=(blk_cell BK7.out 3).trans rfl;have cgb7_4:=(blk_cell BK7.out 4).trans rfl;have cgb7_5:=(blk_cell BK7.out 5).trans rfl;have cgb7_6:=(blk_cell BK7.out 6).trans rfl;have cgb7_7:=(blk_cell BK7.out 7).trans rfl;have cgb7_8:=(blk_cell BK7.out 8).trans rfl;have cgb7_9:=(blk_cell BK7.out 9).trans rfl;have cgb7_10:=(blk_cell BK7.out 10).trans rfl;have cgb7_11:=(blk_cell BK7.out 11).trans rfl;have cgb7_12:=(blk_cell BK7.out 12).trans rfl;have cgb7_13:=(blk_cell BK7.out 13).trans rfl;have cgb5_0:=(blk_cell BK5.out 0).trans rfl;have cgb5_1:=(blk_cell BK5.out 1).trans rfl;have cgb5_2:=(blk_cell BK5.out 2).trans rfl;have cgb5_3:=(blk_cell BK5.out 3).trans rfl;have cgb5_4:=(blk_cell BK5.out 4).trans rfl;have cgb5_5:=(blk_cell BK5.out 5).trans rfl)|((with_reducible refine gate_dst (N:=8) rfl ?_);refine bx_ (N:=8) (cs:=#[.slice none 0 0]) (t:=35) ?_;intro gb8 hg w7 hbox hb;have NE5_8:=am_ (show gb5≠gb8 from by have:=blk_lt BK5.out;rw [hg];exact Nat.ne_of_lt this);have LT5_8:=am_ (show gb5<gb8 from by have:=blk_lt BK5.out;rw [hg];exact this);have NE7_8:=am_ (show gb7≠gb8 from by have:=blk_lt BK7.out;rw [hg];exact Nat.ne_of_lt this);have LT7_8:=am_ (show gb7<gb8 from by have:=blk_lt BK7.out;rw [hg];exact this);replace BK5:=am_ (blk_below BK5.out hb);replace BK7:=am_ (blk_below BK7.out hb);have BK8:=am_ (hbox);have GE8:=am_ ((by rw [hg];exact below_size HB.out:w.heap.size≤gb8));replace HB:=am_ (below_step HB.out hb);have EQ8:=am_ (hg);clear hb hbox hg;have cgb8_0:=(blk_cell BK8.out 0).trans rfl;clear cgb5_0 cgb5_1 cgb5_2 cgb5_3 cgb5_4 cgb5_5 cgb7_0 cgb7_1 cgb7_2 cgb7_3 cgb7_4 cgb7_5 cgb7_6 cgb7_7 cgb7_8 cgb7_9 cgb7_10 cgb7_11 cgb7_12 cgb7_13;have cgb7_13:=(blk_cell BK7.out 13).trans rfl;have cgb5_0:=(blk_cell BK5.out 0).trans rfl;have cgb5_1:=(blk_cell BK5.out 1).trans rfl;have cgb5_2:=(blk_cell BK5.out 2).trans rfl;have cgb5_3:=(blk_cell BK5.out 3).trans rfl;have cgb5_4:=(blk_cell BK5.out 4).trans rfl;have cgb5_5:=(blk_cell BK5.out 5).trans rfl)|((with_reducible refine gate_dst (N:=9) rfl ?_);refine bx_ (N:=9) (cs:=#[.bool false]) (t:=4) ?_;intro gb9 hg w8 hbox hb;have NE5_9:=am_ (show gb5≠gb9 from by have:=blk_lt BK5.out;rw [hg];exact Nat.ne_of_lt this);have LT5_9:=am_ (show gb5<gb9 from by have:=blk_lt BK5.out;rw [hg];exact this);have NE7_9:=am_ (show gb7≠gb9 from by have:=blk_lt BK7.out;rw [hg];exact Nat.ne_of_lt this);have LT7_9:=am_ (show gb7<gb9 from by have:=blk_lt BK7.out;rw [hg];exact this);have NE8_9:=am_ (show gb8≠gb9 from by have:=blk_lt BK8.out;rw [hg];exact Nat.ne_of_lt this);have LT8_9:=am_ (show gb8<gb9 from by have:=blk_lt BK8.out;rw [hg];exact this);replace BK5:=am_ (blk_below BK5.out hb);replace BK7:=am_ (blk_below BK7.out hb);replace BK8:=am_ (blk_below BK8.out hb);have BK9:=am_ (hbox);have GE9:=am_ ((by rw [hg];exact below_size HB.out:w.heap.size≤gb9));replace HB:=am_ (below_step HB.out hb);have EQ9:=am_ (hg);clear hb hbox hg;have cgb9_0:=(blk_cell BK9.out 0).trans rfl)|((with_reducible refine gate_store (t:=4) (p:=9) (v:= .tmp 24) rfl ?_);refine store_all BK9.out 4 (.tmp 9) (.tmp 24) rfl rfl rfl (.bool (s0==4)) [.bool (s0==4)] rfl rfl rfl (by kernel_rfl) rfl (by intro q hq;simp only [List.mem_cons,List.not_mem_nil,or_false] at hq;rcases hq with rfl<;>rfl) ?_;intro w9 hbk hg;clear cgb9_0;replace BK5:=am_ (blk_put_other BK5.out hg (NE5_9.out));replace BK7:=am_ (blk_put_other BK7.out hg (NE7_9.out));replace BK8:=am_ (blk_put_other BK8.out hg (NE8_9.out));replace HB:=am_ (below_put HB.out (below_size HB.out) hg GE9.out);replace BK9:=am_ (hbk);clear hbk hg)))
  have HRR:=am_ (show r=effL mk s1 (s0==4) l0 from HRQ.out)
  obtain ⟨in0,hin0⟩: ∃b,b=(s0==4):=⟨_,rfl⟩
  rw [←hin0] at HRR BK9
  obtain ⟨b14,hb14⟩: ∃b,b=true:=⟨_,rfl⟩
  rw [←hb14] at BK7
  clear HRQ hin0 hb14
  rotate_left
  subst q14
  focus (go_wp2_with (first|((with_reducible refine gate_dst (N:=7) rfl ?_);refine bx_ (N:=7) (cs:=#[.slice none 0 0, .string ⟨#[]⟩, .string ⟨#[]⟩, .int .i64 0, .int .i64 0, .int .i64 0, .int .i64 0, .int .i64 0, .int .i64 0, .int .i64 0, .int .i64 0, .int .i64 0, .int .i64 0, .bool false]) (t:=142) ?_;intro gb7 hg w5 hbox hb;have NE5_7:=am_ (show gb5≠gb7 from by have:=blk_lt BK5.out;rw [hg];exact Nat.ne_of_lt this);have LT5_7:=am_ (show gb5<gb7 from by have:=blk_lt BK5.out;rw [hg];exact this);replace BK5:=am_ (blk_below BK5.out hb);have BK7:=am_ (hbox);have GE7:=am_ ((by rw [hg];exact below_size HB.out:w.heap.size≤gb7));replace HB:=am_ (below_step HB.out hb);have EQ7:=am_ (hg);clear hb hbox hg;have cgb7_0:=(blk_cell BK7.out 0).trans rfl;have cgb7_1:=(blk_cell BK7.out 1).trans rfl;have cgb7_2:=(blk_cell BK7.out 2).trans rfl;have cgb7_3:=(blk_cell BK7.out 3).trans rfl;have cgb7_4:=(blk_cell BK7.out 4).trans rfl;have cgb7_5:=(blk_cell BK7.out 5).trans rfl;have cgb7_6:=(blk_cell BK7.out 6).trans rfl;have cgb7_7:=(blk_cell BK7.out 7).trans rfl;have cgb7_8:=(blk_cell BK7.out 8).trans rfl;have cgb7_9:=(blk_cell BK7.out 9).trans rfl;have cgb7_10:=(blk_cell BK7.out 10).trans rfl;have cgb7_11:=(blk_cell BK7.out 11).trans rfl;have cgb7_12:=(blk_cell BK7.out 12).trans rfl;have cgb7_13:=(blk_cell BK7.out 13).trans rfl)|((with_reducible refine gate_store (t:=142) (p:=7) (v:= .tmp 16) rfl ?_);refine store_all BK7.out 142 (.tmp 7) (.tmp 16) rfl rfl rfl (.agg #[.slice A l.length c, .string r2, .string r3, .int .i64 r4, .int .i64 r5, .int .i64 r6, .int .i64 r7, .int .i64 r8, .int .i64 r9, .int .i64 r10, .int .i64 r11, .int .i64 r12, .int .i64 r13, .bool false]) [.slice A l.length c, .string r2, .string r3, .int .i64 r4, .int .i64 r5, .int .i64 r6, .int .i64 r7, .int .i64 r8, .int .i64 r9, .int .i64 r10, .int .i64 r11, .int .i64 r12, .int .i64 r13, .bool false] rfl rfl rfl (by kernel_rfl) rfl (by intro q hq;simp only [List.mem_cons,List.not_mem_nil,or_false] at hq;rcases hq with rfl|rfl|rfl|rfl|rfl|rfl|rfl|rfl|rfl|rfl|rfl|rfl|rfl|rfl<;>rfl) ?_;intro w6 hbk hg;clear cgb7_0 cgb7_1 cgb7_2 cgb7_3 cgb7_4 cgb7_5 cgb7_6 cgb7_7 cgb7_8 cgb7_9 cgb7_10 cgb7_11 cgb7_12 cgb7_13;replace BK5:=am_ (blk_put_other BK5.out hg (NE5_7.out));replace HB:=am_ (below_put HB.out (below_size HB.out) hg GE7.out);replace BK7:=am_ (hbk);clear hbk hg;have cgb7_0:=(blk_cell BK7.out 0).trans rfl;have cgb7_1:=(blk_cell BK7.out 1).trans rfl;have cgb7_2:=(blk_cell BK7.out 2).trans rfl;have cgb7_3:=(blk_cell BK7.out 3).trans rfl;have cgb7_4:=(blk_cell BK7.out 4).trans rfl;have cgb7_5:=(blk_cell BK7.out 5).trans rfl;have cgb7_6:=(blk_cell BK7.out 6).trans rfl;have cgb7_7:=(blk_cell BK7.out 7).trans rfl;have cgb7_8:=(blk_cell BK7.out 8).trans rfl;have cgb7_9:=(blk_cell BK7.out 9).trans rfl;have cgb7_10:=(blk_cell BK7.out 10).trans rfl;have cgb7_11:=(blk_cell BK7.out 11).trans rfl;have cgb7_12:=(blk_cell BK7.out 12).trans rfl;have cgb7_13:=(blk_cell BK7.out 13).trans rfl;have cgb5_0:=(blk_cell BK5.out 0).trans rfl;have cgb5_1:=(blk_cell BK5.out 1).trans rfl;have cgb5_2:=(blk_cell BK5.out 2).trans rfl;have cgb5_3:=(blk_cell BK5.out 3).trans rfl;have cgb5_4:=(blk_cell BK5.out 4).trans rfl;have cgb5_5:=(blk_cell BK5.out 5).trans rfl)|((with_reducible refine gate_dst (N:=8) rfl ?_);refine bx_ (N:=8) (cs:=#[.slice none 0 0]) (t:=35) ?_;intro gb8 hg w7 hbox hb;have NE5_8:=am_ (show gb5≠gb8 from by have:=blk_lt BK5.out;rw [hg];exact Nat.ne_of_lt this);have LT5_8:=am_ (show gb5<gb8 from by have:=blk_lt BK5.out;rw [hg];exact this);have NE7_8:=am_ (show gb7≠gb8 from by have:=blk_lt BK7.out;rw [hg];exact Nat.ne_of_lt this);have LT7_8:=am_ (show gb7<gb8 from by have:=blk_lt BK7.out;rw [hg];exact this);replace BK5:=am_ (blk_below BK5.out hb);replace BK7:=am_ (blk_below BK7.out hb);have BK8:=am_ (hbox);have GE8:=am_ ((by rw [hg];exact below_size HB.out:w.heap.size≤gb8));replace HB:=am_ (below_step HB.out hb);have EQ8:=am_ (hg);clear hb hbox hg;have cgb8_0:=(blk_cell BK8.out 0).trans rfl;clear cgb5_0 cgb5_1 cgb5_2 cgb5_3 cgb5_4 cgb5_5 cgb7_0 cgb7_1 cgb7_2 cgb7_3 cgb7_4 cgb7_5 cgb7_6 cgb7_7 cgb7_8 cgb7_9 cgb7_10 cgb7_11 cgb7_12 cgb7_13;have cgb7_13:=(blk_cell BK7.out 13).trans rfl;have cgb5_0:=(blk_cell BK5.out 0).trans rfl;have cgb5_1:=(blk_cell BK5.out 1).trans rfl;have cgb5_2:=(blk_cell BK5.out 2).trans rfl;have cgb5_3:=(blk_cell BK5.out 3).trans rfl;have cgb5_4:=(blk_cell BK5.out 4).trans rfl;have cgb5_5:=(blk_cell BK5.out 5).trans rfl)|((with_reducible refine gate_dst (N:=9) rfl ?_);refine bx_ (N:=9) (cs:=#[.bool false]) (t:=4) ?_;intro gb9 hg w8 hbox hb;have NE5_9:=am_ (show gb5≠gb9 from by have:=blk_lt BK5.out;rw [hg];exact Nat.ne_of_lt this);have LT5_9:=am_ (show gb5<gb9 from by have:=blk_lt BK5.out;rw [hg];exact this);have NE7_9:=am_ (show gb7≠gb9 from by have:=blk_lt BK7.out;rw [hg];exact Nat.ne_of_lt this);have LT7_9:=am_ (show gb7<gb9 from by have:=blk_lt BK7.out;rw [hg];exact this);have NE8_9:=am_ (show gb8≠gb9 from by have:=blk_lt BK8.out;rw [hg];exact Nat.ne_of_lt this);have LT8_9:=am_ (show gb8<gb9 from by have:=blk_lt BK8.out;rw [hg];exact this);replace BK5:=am_ (blk_below BK5.out hb);replace BK7:=am_ (blk_below BK7.out hb);replace BK8:=am_ (blk_below BK8.out hb);have BK9:=am_ (hbox);have GE9:=am_ ((by rw [hg];exact below_size HB.out:w.heap.size≤gb9));replace HB:=am_ (below_step HB.out hb);have EQ9:=am_ (hg);clear hb hbox hg;have cgb9_0:=(blk_cell BK9.out 0).trans rfl)|((with_reducible refine gate_store (t:=4) (p:=9) (v:= .tmp 24) rfl ?_);refine store_all BK9.out 4 (.tmp 9) (.tmp 24) rfl rfl rfl (.bool true) [.bool true] rfl rfl rfl (by kernel_rfl) rfl (by intro q hq;simp only [List.mem_cons,List.not_mem_nil,or_false] at hq;rcases hq with rfl<;>rfl) ?_;intro w9 hbk hg;clear cgb9_0;replace BK5:=am_ (blk_put_other BK5.out hg (NE5_9.out));replace BK7:=am_ (blk_put_other BK7.out hg (NE7_9.out));replace BK8:=am_ (blk_put_other BK8.out hg (NE8_9.out));replace HB:=am_ (below_put HB.out (below_size HB.out) hg GE9.out);replace BK9:=am_ (hbk);clear hbk hg)))
  have HRR:=am_ (show r=effL mk s1 true l0 from HRQ.out)
  obtain ⟨in0,hin0⟩: ∃b,b=true:=⟨_,rfl⟩
  rw [←hin0] at HRR BK9
  obtain ⟨b14,hb14⟩: ∃b,b=false:=⟨_,rfl⟩
  rw [←hb14] at BK7
  clear HRQ hin0 hb14
  rotate_left
  all_goals clear cgb8_0 cgb5_0 cgb5_1 cgb5_2 cgb5_3 cgb5_4 cgb5_5 cgb7_13
  all_goals (
    go_loopg [28] l0.length (fun kq v28 w'=> ∃(i:Nat) (acc:List S54) (u:Value) (inb:Bool),i≤l0.length∧l0.length - i≤kq∧v28= .int .i64 i∧Aside0 (r=acc++effL mk s1 inb (l0.drop i))∧Aside0 (acc.length≤2*i)∧Aside0 (Kd.R k54 54 w' (gb9+1) (fun _=>True) u acc)∧Aside0 (w'.heap[gb5]?=some (.cells #[.int .i64 s0, .string s1, .string s2, .int .i64 s3, .int .i64 s4, .int .i64 s5] 58 (0,0)))∧Aside0 (w'.heap[gb7]?=some (.cells #[.slice A l.length c, .string r2, .string r3, .int .i64 r4, .int .i64 r5, .int .i64 r6, .int .i64 r7, .int .i64 r8, .int .i64 r9, .int .i64 r10, .int .i64 r11, .int .i64 r12, .int .i64 r13, .bool b14] 142 (0,0)))∧Aside0 (w'.heap[gb8]?=some (.cells #[u] 35 (0,0)))∧Aside0 (w'.heap[gb9]?=some (.cells #[.bool inb] 4 (0,0)))∧Aside0 (Below w.heap.size w w'))
    case atStart=>exact ⟨0,[], .slice none 0 0,in0,Nat.zero_le _,Nat.le_refl _,(by first|rfl|(simp;done)|(simp [*];done)),⟨by rw [List.drop_zero,List.nil_append];exact HRR.out⟩,⟨Nat.le_refl _⟩,⟨Kd.R_nil _ _ _ _ _⟩,⟨by refine zk_ ?_;exact BK5.out⟩,⟨by refine zk_ ?_;exact BK7.out⟩,⟨by refine zk_ ?_;exact BK8.out⟩,⟨by refine zk_ ?_;exact BK9.out⟩,⟨zl0_ HB⟩⟩
    case round=>
      clear HRR BK5 BK7 BK8 BK9 HB
      obtain ⟨i,acc,u,inb,hi,hm,rfl,HE,HAC,HO,BK5,BK7,BK8,BK9,HB⟩:=hrel
      have HI:=Aside0.mk hi
      have HM:=Aside0.mk hm
      clear hi hm
      obtain ⟨Au,cu,eu⟩:=Kd.R_slice HO.out
      subst eu
      by_cases c1:i<l0.length
      · have c1b : decide ((i : Int) < (l0.length : Int)) = true := decide_eq_true (by omega)
        have hrd:(rd_T54 l0 (i:Int))=l0[i]:=by
          show l0.getD (i:Int).toNat _=_
          rw [Int.toNat_natCast,List.getD_eq_getElem?_getD,List.getElem?_eq_getElem c1,Option.getD_some]
        have hdr:=HE.out
        rw [List.drop_eq_getElem_cons c1,←hrd] at hdr
        unfold effL at hdr
        have HE:=Aside0.mk hdr
        have HC:=Aside0.mk c1
        have ei:wrap64 ((i:Int)+1)=((i+1:Nat):Int):=by have:=HL.out;rw [show wrap64 ((i:Int)+1)=(i:Int)+1 from by unfold wrap64;omega];rfl
        have p6:0≤((i:Nat):Int):=by omega
        have q6:((i:Nat):Int)<(l0.length:Int):=by omega
        clear hrd hdr c1
        obtain ⟨ad,e6,k0,k1_,k2,k3,k4,k5⟩:=at_T54 HR0.out (i:Int) p6 q6
        cases e6
        have k0:=zx_ HB k0
        have k1_:=zx_ HB k1_
        have k2:=zx_ HB k2
        have k3:=zx_ HB k3
        have k4:=zx_ HB k4
        have k5:=zx_ HB k5
        simp only [Int.toNat_natCast] at k0 k1_ k2 k3 k4 k5
        replace p6:=eq_true p6
        replace q6:=eq_true q6
        cases inb with
        | true =>
          by_cases c2:(rd_T54 l0 (i:Int)).f0.toList=s1.toList
          · have c2b : ((rd_T54 l0 (i : Int)).f0.toList != s1.toList) = false := bne_eq_false_iff_eq.mpr c2
            have c2a:((rd_T54 l0 (i:Int)).f0.toList==s1.toList)=true:=beq_iff_eq.mpr c2
            have HR2:=am_ (show r=acc++effL mk s1 true (l0.drop (i+1)) from by rw [HE.out,if_neg (show¬(true=false∧Op.bytesLess (rd_T54 l0 (i:Int)).f0.toList s1.toList=false) from fun q=>nomatch q.1),if_neg (show¬(true=false∧Op.bytesLess (rd_T54 l0 (i:Int)).f0.toList s1.toList=false) from fun q=>nomatch q.1),if_pos c2];simp only [List.nil_append,List.append_assoc])
            clear HE c2
            go_wp2_with (first|((with_reducible refine gate_dst (N:=12) rfl ?_);refine bx_ (N:=12) (cs:=#[.string ⟨#[]⟩, .string ⟨#[]⟩, .int .i64 0, .int .i64 0, .int .i64 0, .int .i64 0]) (t:=54) ?_;intro gb12 hg w10 hbox hb;have NE5_12:=am_ (show gb5≠gb12 from by have:=blk_lt BK5.out;rw [hg];exact Nat.ne_of_lt this);have LT5_12:=am_ (show gb5<gb12 from by have:=blk_lt BK5.out;rw [hg];exact this);have NE7_12:=am_ (show gb7≠gb12 from by have:=blk_lt BK7.out;rw [hg];exact Nat.ne_of_lt this);have LT7_12:=am_ (show gb7<gb12 from by have:=blk_lt BK7.out;rw [hg];exact this);have NE8_12:=am_ (show gb8≠gb12 from by have:=blk_lt BK8.out;rw [hg];exact Nat.ne_of_lt this);have LT8_12:=am_ (show gb8<gb12 from by have:=blk_lt BK8.out;rw [hg];exact this);have NE9_12:=am_ (show gb9≠gb12 from by have:=blk_lt BK9.out;rw [hg];exact Nat.ne_of_lt this);have LT9_12:=am_ (show gb9<gb12 from by have:=blk_lt BK9.out;rw [hg];exact this);have HOn:=am_ (show Kd.R k54 54 w10 (gb9+1) (fun k=>k<gb12) _ acc from by rw [hg];exact Kd.R_below (eff_old HO.out) hb);clear HO;have HO:=HOn;clear HOn;replace BK5:=am_ (blk_below BK5.out hb);replace BK7:=am_ (blk_below BK7.out hb);replace BK8:=am_ (blk_below BK8.out hb);replace BK9:=am_ (blk_below BK9.out hb);have BK12:=am_ (hbox);have GE12:=am_ ((by rw [hg];exact below_size HB.out:w.heap.size≤gb12));replace HB:=am_ (below_step HB.out hb);have EQ12:=am_ (hg);clear hb hbox hg;have cgb12_0:=(blk_cell BK12.out 0).trans rfl;have cgb12_1:=(blk_cell BK12.out 1).trans rfl;have cgb12_2:=(blk_cell BK12.out 2).trans rfl;have cgb12_3:=(blk_cell BK12.out 3).trans rfl;have cgb12_4:=(blk_cell BK12.out 4).trans rfl;have cgb12_5:=(blk_cell BK12.out 5).trans rfl)|((with_reducible refine gate_store (t:=54) (p:=12) (v:= .tmp 31) rfl ?_);refine store_all BK12.out 54 (.tmp 12) (.tmp 31) rfl rfl rfl (.agg #[.string (rd_T54 l0 (i:Int)).f0, .string (rd_T54 l0 (i:Int)).f1, .int .i64 (rd_T54 l0 (i:Int)).f2.f0, .int .i64 (rd_T54 l0 (i:Int)).f2.f1, .int .i64 (rd_T54 l0 (i:Int)).f2.f2, .int .i64 (rd_T54 l0 (i:Int)).f3]) [.string (rd_T54 l0 (i:Int)).f0, .string (rd_T54 l0 (i:Int)).f1, .int .i64 (rd_T54 l0 (i:Int)).f2.f0, .int .i64 (rd_T54 l0 (i:Int)).f2.f1, .int .i64 (rd_T54 l0 (i:Int)).f2.f2, .int .i64 (rd_T54 l0 (i:Int)).f3] rfl rfl rfl (by kernel_rfl) rfl (by intro q hq;simp only [List.mem_cons,List.not_mem_nil,or_false] at hq;rcases hq with rfl|rfl|rfl|rfl|rfl|rfl<;>rfl) ?_;intro w11 hbk hg;clear cgb12_0 cgb12_1 cgb12_2 cgb12_3 cgb12_4 cgb12_5;have HOn:=am_ (eff_put_old HO.out hg);clear HO;have HO:=HOn;clear HOn;replace BK5:=am_ (blk_put_other BK5.out hg (NE5_12.out));replace BK7:=am_ (blk_put_other BK7.out hg (NE7_12.out));replace BK8:=am_ (blk_put_other BK8.out hg (NE8_12.out));replace BK9:=am_ (blk_put_other BK9.out hg (NE9_12.out));replace HB:=am_ (below_put HB.out (below_size HB.out) hg GE12.out);replace BK12:=am_ (hbk);clear hbk hg;have cgb12_0:=(blk_cell BK12.out 0).trans rfl;have cgb12_1:=(blk_cell BK12.out 1).trans rfl;have cgb12_2:=(blk_cell BK12.out 2).trans rfl;have cgb12_3:=(blk_cell BK12.out 3).trans rfl;have cgb12_4:=(blk_cell BK12.out 4).trans rfl;have cgb12_5:=(blk_cell BK12.out 5).trans rfl;have cgb5_1:=(blk_cell BK5.out 1).trans rfl;have cgb8_0:=(blk_cell BK8.out 0).trans rfl;have cgb9_0:=(blk_cell BK9.out 0).trans rfl)|((with_reducible refine gate_builtin (b:= .append) (xs:=#[.tmp 48, .tmp 50]) rfl ?_);at_builtin;refine Kd.R_append k54 (w0:=w11) (gb9+1) rfl (.tmp 48) (.tmp 50) 35 54 (.agg #[(.string ⟨#[]⟩),(.string ⟨#[]⟩),(.int .i64 0),(.int .i64 0),(.int .i64 0),(.int .i64 0)]) 64 rfl Try.underlying35 info54 rfl (by decide) (by omega) _ acc (rd_T54 l0 (i:Int)) [.string (rd_T54 l0 (i:Int)).f0, .string (rd_T54 l0 (i:Int)).f1, .int .i64 (rd_T54 l0 (i:Int)).f2.f0, .int .i64 (rd_T54 l0 (i:Int)).f2.f1, .int .i64 (rd_T54 l0 (i:Int)).f2.f2, .int .i64 (rd_T54 l0 (i:Int)).f3] (fun _=>True) (fun _=>False) rfl (by first|(go_simp;done)|(go_simp;rfl)) ?aP (fun _ hk=>hk.elim) ?aF ?aO ?aB ?aS ?aL ?_;(case aP=>exact k54_mkM _ _ _ (rd_T54 l0 (i:Int)));(case aF=>exact fun _ _=>trivial);(case aO=>exact Kd.R_mono HO.out (fun _ _=>trivial));(case aB=>exact Below.refl _ _);(case aS=>exact Nat.succ_le_of_lt (blk_lt BK9.out));(case aL=>have:=HAC.out;have:=HI.out;have:=HL.out;(try simp only [List.length_append,List.length_singleton]);omega);intro v5 w13 ho hb hg hat;have HG8:=Aside0.mk hg;have ne5:some gb5≠_:=Kd.R_ne HO.out BK5.out (by decide);have ne7:some gb7≠_:=Kd.R_ne HO.out BK7.out (by decide);have ne8:some gb8≠_:=Kd.R_ne HO.out BK8.out (by decide);have ne9:some gb9≠_:=Kd.R_ne HO.out BK9.out (by decide);have n0_:=am_ (blk_grown BK5.out hg ne5);have n1_:=am_ (blk_grown BK7.out hg ne7);have n2_:=am_ (blk_grown BK8.out hg ne8);have n3_:=am_ (blk_grown BK9.out hg ne9);have n4_:=Aside0.mk ho;have n5_:=am_ (pw_below_grown HB.out _ (below_size HB.out) hg (fun k e=>by have:=(eff_own HO.out k e).1;have:=GE8.out;have:=LT8_9.out;omega));clear BK5 BK7 BK8 BK9 BK12 HO HB;have BK5:=n0_;have BK7:=n1_;have BK8:=n2_;have BK9:=n3_;have HO:=n4_;have HB:=n5_;clear n0_ n1_ n2_ n3_ n4_ n5_ ho hb hg hat ne5 ne7 ne8 ne9;obtain ⟨Ao,co_,eo⟩:=Kd.R_slice HO.out;subst eo)|((with_reducible refine gate_store (t:=35) (p:=8) (v:= .tmp 51) rfl ?_);refine store_all BK8.out 35 (.tmp 8) (.tmp 51) rfl rfl rfl _ [_] rfl rfl rfl (by kernel_rfl) rfl (by intro q hq;simp only [List.mem_cons,List.not_mem_nil,or_false] at hq;rcases hq with rfl;rfl) ?_;intro w14 hbk hg;have n0_:=am_ (blk_put_other BK5.out hg (by have:=LT5_8.out;omega));have n1_:=am_ (blk_put_other BK7.out hg (by have:=LT7_8.out;omega));have n2_:=am_ (blk_put_other BK9.out hg (by have:=LT8_9.out;omega));have n3_:=am_ (R_put HO.out BK8.out (by decide) hg);have n4_:=am_ (below_put HB.out (below_size HB.out) hg GE8.out);have n5_:=Aside0.mk hbk;clear BK5 BK7 BK8 BK9 HO HB hbk hg;have BK5:=n0_;have BK7:=n1_;have BK9:=n2_;have HO:=n3_;have HB:=n4_;have BK8:=n5_;clear n0_ n1_ n2_ n3_ n4_ n5_))
            go_roundg (l0.length - (i+1))
            case measure=>have:=HM.out;have:=HC.out;omega
            case rel=>exact ⟨i+1,_,_,_,(by have:=HC.out;omega),Nat.le_refl _,(by first|rfl|(rw [ei];done)|(simp [ei];done)|(simp [*];done)),HR2,⟨by have:=HAC.out;(try simp only [List.length_append,List.length_singleton]);omega⟩,⟨Kd.R_mono HO.out (fun _ _=>trivial)⟩,BK5,BK7,BK8,BK9,HB⟩
          · have c2b : ((rd_T54 l0 (i : Int)).f0.toList != s1.toList) = true := bne_iff_ne.mpr c2
            have c2a:((rd_T54 l0 (i:Int)).f0.toList==s1.toList)=false:=beq_eq_false_iff_ne.mpr c2
            have HR2:=am_ (show r=(acc++ [(rd_T54 l0 (i:Int))])++effL mk s1 true (l0.drop (i+1)) from by rw [HE.out,if_neg (show¬(true=false∧Op.bytesLess (rd_T54 l0 (i:Int)).f0.toList s1.toList=false) from fun q=>nomatch q.1),if_neg (show¬(true=false∧Op.bytesLess (rd_T54 l0 (i:Int)).f0.toList s1.toList=false) from fun q=>nomatch q.1),if_neg c2];simp only [List.nil_append,List.append_assoc])
            clear HE c2
            go_wp2_with (first|((with_reducible refine gate_dst (N:=12) rfl ?_);refine bx_ (N:=12) (cs:=#[.string ⟨#[]⟩, .string ⟨#[]⟩, .int .i64 0, .int .i64 0, .int .i64 0, .int .i64 0]) (t:=54) ?_;intro gb12 hg w10 hbox hb;have NE5_12:=am_ (show gb5≠gb12 from by have:=blk_lt BK5.out;rw [hg];exact Nat.ne_of_lt this);have LT5_12:=am_ (show gb5<gb12 from by have:=blk_lt BK5.out;rw [hg];exact this);have NE7_12:=am_ (show gb7≠gb12 from by have:=blk_lt BK7.out;rw [hg];exact Nat.ne_of_lt this);have LT7_12:=am_ (show gb7<gb12 from by have:=blk_lt BK7.out;rw [hg];exact this);have NE8_12:=am_ (show gb8≠gb12 from by have:=blk_lt BK8.out;rw [hg];exact Nat.ne_of_lt this);have LT8_12:=am_ (show gb8<gb12 from by have:=blk_lt BK8.out;rw [hg];exact this);have NE9_12:=am_ (show gb9≠gb12 from by have:=blk_lt BK9.out;rw [hg];exact Nat.ne_of_lt this);have LT9_12:=am_ (show gb9<gb12 from by have:=blk_lt BK9.out;rw [hg];exact this);have HOn:=am_ (show Kd.R k54 54 w10 (gb9+1) (fun k=>k<gb12) _ acc from by rw [hg];exact Kd.R_below (eff_old HO.out) hb);clear HO;have HO:=HOn;clear HOn;replace BK5:=am_ (blk_below BK5.out hb);replace BK7:=am_ (blk_below BK7.out hb);replace BK8:=am_ (blk_below BK8.out hb);replace BK9:=am_ (blk_below BK9.out hb);have BK12:=am_ (hbox);have GE12:=am_ ((by rw [hg];exact below_size HB.out:w.heap.size≤gb12));replace HB:=am_ (below_step HB.out hb);have EQ12:=am_ (hg);clear hb hbox hg;have cgb12_0:=(blk_cell BK12.out 0).trans rfl;have cgb12_1:=(blk_cell BK12.out 1).trans rfl;have cgb12_2:=(blk_cell BK12.out 2).trans rfl;have cgb12_3:=(blk_cell BK12.out 3).trans rfl;have cgb12_4:=(blk_cell BK12.out 4).trans rfl;have cgb12_5:=(blk_cell BK12.out 5).trans rfl)|((with_reducible refine gate_store (t:=54) (p:=12) (v:= .tmp 31) rfl ?_);refine store_all BK12.out 54 (.tmp 12) (.tmp 31) rfl rfl rfl (.agg #[.string (rd_T54 l0 (i:Int)).f0, .string (rd_T54 l0 (i:Int)).f1, .int .i64 (rd_T54 l0 (i:Int)).f2.f0, .int .i64 (rd_T54 l0 (i:Int)).f2.f1, .int .i64 (rd_T54 l0 (i:Int)).f2.f2, .int .i64 (rd_T54 l0 (i:Int)).f3]) [.string (rd_T54 l0 (i:Int)).f0, .string (rd_T54 l0 (i:Int)).f1, .int .i64 (rd_T54 l0 (i:Int)).f2.f0, .int .i64 (rd_T54 l0 (i:Int)).f2.f1, .int .i64 (rd_T54 l0 (i:Int)).f2.f2, .int .i64 (rd_T54 l0 (i:Int)).f3] rfl rfl rfl (by kernel_rfl) rfl (by intro q hq;simp only [List.mem_cons,List.not_mem_nil,or_false] at hq;rcases hq with rfl|rfl|rfl|rfl|rfl|rfl<;>rfl) ?_;intro w11 hbk hg;clear cgb12_0 cgb12_1 cgb12_2 cgb12_3 cgb12_4 cgb12_5;have HOn:=am_ (eff_put_old HO.out hg);clear HO;have HO:=HOn;clear HOn;replace BK5:=am_ (blk_put_other BK5.out hg (NE5_12.out));replace BK7:=am_ (blk_put_other BK7.out hg (NE7_12.out));replace BK8:=am_ (blk_put_other BK8.out hg (NE8_12.out));replace BK9:=am_ (blk_put_other BK9.out hg (NE9_12.out));replace HB:=am_ (below_put HB.out (below_size HB.out) hg GE12.out);replace BK12:=am_ (hbk);clear hbk hg;have cgb12_0:=(blk_cell BK12.out 0).trans rfl;have cgb12_1:=(blk_cell BK12.out 1).trans rfl;have cgb12_2:=(blk_cell BK12.out 2).trans rfl;have cgb12_3:=(blk_cell BK12.out 3).trans rfl;have cgb12_4:=(blk_cell BK12.out 4).trans rfl;have cgb12_5:=(blk_cell BK12.out 5).trans rfl;have cgb5_1:=(blk_cell BK5.out 1).trans rfl;have cgb8_0:=(blk_cell BK8.out 0).trans rfl;have cgb9_0:=(blk_cell BK9.out 0).trans rfl)|((with_reducible refine gate_builtin (b:= .append) (xs:=#[.tmp 48, .tmp 50]) rfl ?_);at_builtin;refine Kd.R_append k54 (w0:=w11) (gb9+1) rfl (.tmp 48) (.tmp 50) 35 54 (.agg #[(.string ⟨#[]⟩),(.string ⟨#[]⟩),(.int .i64 0),(.int .i64 0),(.int .i64 0),(.int .i64 0)]) 64 rfl Try.underlying35 info54 rfl (by decide) (by omega) _ acc (rd_T54 l0 (i:Int)) [.string (rd_T54 l0 (i:Int)).f0, .string (rd_T54 l0 (i:Int)).f1, .int .i64 (rd_T54 l0 (i:Int)).f2.f0, .int .i64 (rd_T54 l0 (i:Int)).f2.f1, .int .i64 (rd_T54 l0 (i:Int)).f2.f2, .int .i64 (rd_T54 l0 (i:Int)).f3] (fun _=>True) (fun _=>False) rfl (by first|(go_simp;done)|(go_simp;rfl)) ?aP (fun _ hk=>hk.elim) ?aF ?aO ?aB ?aS ?aL ?_;(case aP=>exact k54_mkM _ _ _ (rd_T54 l0 (i:Int)));(case aF=>exact fun _ _=>trivial);(case aO=>exact Kd.R_mono HO.out (fun _ _=>trivial));(case aB=>exact Below.refl _ _);(case aS=>exact Nat.succ_le_of_lt (blk_lt BK9.out));(case aL=>have:=HAC.out;have:=HI.out;have:=HL.out;(try simp only [List.length_append,List.length_singleton]);omega);intro v5 w13 ho hb hg hat;have HG8:=Aside0.mk hg;have ne5:some gb5≠_:=Kd.R_ne HO.out BK5.out (by decide);have ne7:some gb7≠_:=Kd.R_ne HO.out BK7.out (by decide);have ne8:some gb8≠_:=Kd.R_ne HO.out BK8.out (by decide);have ne9:some gb9≠_:=Kd.R_ne HO.out BK9.out (by decide);have n0_:=am_ (blk_grown BK5.out hg ne5);have n1_:=am_ (blk_grown BK7.out hg ne7);have n2_:=am_ (blk_grown BK8.out hg ne8);have n3_:=am_ (blk_grown BK9.out hg ne9);have n4_:=Aside0.mk ho;have n5_:=am_ (pw_below_grown HB.out _ (below_size HB.out) hg (fun k e=>by have:=(eff_own HO.out k e).1;have:=GE8.out;have:=LT8_9.out;omega));clear BK5 BK7 BK8 BK9 BK12 HO HB;have BK5:=n0_;have BK7:=n1_;have BK8:=n2_;have BK9:=n3_;have HO:=n4_;have HB:=n5_;clear n0_ n1_ n2_ n3_ n4_ n5_ ho hb hg hat ne5 ne7 ne8 ne9;obtain ⟨Ao,co_,eo⟩:=Kd.R_slice HO.out;subst eo)|((with_reducible refine gate_store (t:=35) (p:=8) (v:= .tmp 51) rfl ?_);refine store_all BK8.out 35 (.tmp 8) (.tmp 51) rfl rfl rfl _ [_] rfl rfl rfl (by kernel_rfl) rfl (by intro q hq;simp only [List.mem_cons,List.not_mem_nil,or_false] at hq;rcases hq with rfl;rfl) ?_;intro w14 hbk hg;have n0_:=am_ (blk_put_other BK5.out hg (by have:=LT5_8.out;omega));have n1_:=am_ (blk_put_other BK7.out hg (by have:=LT7_8.out;omega));have n2_:=am_ (blk_put_other BK9.out hg (by have:=LT8_9.out;omega));have n3_:=am_ (R_put HO.out BK8.out (by decide) hg);have n4_:=am_ (below_put HB.out (below_size HB.out) hg GE8.out);have n5_:=Aside0.mk hbk;clear BK5 BK7 BK8 BK9 HO HB hbk hg;have BK5:=n0_;have BK7:=n1_;have BK9:=n2_;have HO:=n3_;have HB:=n4_;have BK8:=n5_;clear n0_ n1_ n2_ n3_ n4_ n5_))
            go_roundg (l0.length - (i+1))
            case measure=>have:=HM.out;have:=HC.out;omega
            case rel=>exact ⟨i+1,_,_,_,(by have:=HC.out;omega),Nat.le_refl _,(by first|rfl|(rw [ei];done)|(simp [ei];done)|(simp [*];done)),HR2,⟨by have:=HAC.out;(try simp only [List.length_append,List.length_singleton]);omega⟩,⟨Kd.R_mono HO.out (fun _ _=>trivial)⟩,BK5,BK7,BK8,BK9,HB⟩
        | false =>
          by_cases cl:Op.bytesLess (rd_T54 l0 (i:Int)).f0.toList s1.toList=false
          · skip
            by_cases c2:(rd_T54 l0 (i:Int)).f0.toList=s1.toList
            · have c2b : ((rd_T54 l0 (i : Int)).f0.toList != s1.toList) = false := bne_eq_false_iff_eq.mpr c2
              have c2a:((rd_T54 l0 (i:Int)).f0.toList==s1.toList)=true:=beq_iff_eq.mpr c2
              have HR2:=am_ (show r=(acc++ [mk])++effL mk s1 true (l0.drop (i+1)) from by rw [HE.out,if_pos (show false=false∧Op.bytesLess (rd_T54 l0 (i:Int)).f0.toList s1.toList=false from ⟨rfl,cl⟩),if_pos (show false=false∧Op.bytesLess (rd_T54 l0 (i:Int)).f0.toList s1.toList=false from ⟨rfl,cl⟩),if_pos c2];simp only [List.nil_append,List.append_assoc])
              clear HE c2
              go_wp2_with (first|((with_reducible refine gate_dst (N:=12) rfl ?_);refine bx_ (N:=12) (cs:=#[.string ⟨#[]⟩, .string ⟨#[]⟩, .int .i64 0, .int .i64 0, .int .i64 0, .int .i64 0]) (t:=54) ?_;intro gb12 hg w10 hbox hb;have NE5_12:=am_ (show gb5≠gb12 from by have:=blk_lt BK5.out;rw [hg];exact Nat.ne_of_lt this);have LT5_12:=am_ (show gb5<gb12 from by have:=blk_lt BK5.out;rw [hg];exact this);have NE7_12:=am_ (show gb7≠gb12 from by have:=blk_lt BK7.out;rw [hg];exact Nat.ne_of_lt this);have LT7_12:=am_ (show gb7<gb12 from by have:=blk_lt BK7.out;rw [hg];exact this);have NE8_12:=am_ (show gb8≠gb12 from by have:=blk_lt BK8.out;rw [hg];exact Nat.ne_of_lt this);have LT8_12:=am_ (show gb8<gb12 from by have:=blk_lt BK8.out;rw [hg];exact this);have NE9_12:=am_ (show gb9≠gb12 from by have:=blk_lt BK9.out;rw [hg];exact Nat.ne_of_lt this);have LT9_12:=am_ (show gb9<gb12 from by have:=blk_lt BK9.out;rw [hg];exact this);have HOn:=am_ (show Kd.R k54 54 w10 (gb9+1) (fun k=>k<gb12) _ acc from by rw [hg];exact Kd.R_below (eff_old HO.out) hb);clear HO;have HO:=HOn;clear HOn;replace BK5:=am_ (blk_below BK5.out hb);replace BK7:=am_ (blk_below BK7.out hb);replace BK8:=am_ (blk_below BK8.out hb);replace BK9:=am_ (blk_below BK9.out hb);have BK12:=am_ (hbox);have GE12:=am_ ((by rw [hg];exact below_size HB.out:w.heap.size≤gb12));replace HB:=am_ (below_step HB.out hb);have EQ12:=am_ (hg);clear hb hbox hg;have cgb12_0:=(blk_cell BK12.out 0).trans rfl;have cgb12_1:=(blk_cell BK12.out 1).trans rfl;have cgb12_2:=(blk_cell BK12.out 2).trans rfl;have cgb12_3:=(blk_cell BK12.out 3).trans rfl;have cgb12_4:=(blk_cell BK12.out 4).trans rfl;have cgb12_5:=(blk_cell BK12.out 5).trans rfl)|((with_reducible refine gate_store (t:=54) (p:=12) (v:= .tmp 31) rfl ?_);refine store_all BK12.out 54 (.tmp 12) (.tmp 31) rfl rfl rfl (.agg #[.string (rd_T54 l0 (i:Int)).f0, .string (rd_T54 l0 (i:Int)).f1, .int .i64 (rd_T54 l0 (i:Int)).f2.f0, .int .i64 (rd_T54 l0 (i:Int)).f2.f1, .int .i64 (rd_T54 l0 (i:Int)).f2.f2, .int .i64 (rd_T54 l0 (i:Int)).f3]) [.string (rd_T54 l0 (i:Int)).f0, .string (rd_T54 l0 (i:Int)).f1, .int .i64 (rd_T54 l0 (i:Int)).f2.f0, .int .i64 (rd_T54 l0 (i:Int)).f2.f1, .int .i64 (rd_T54 l0 (i:Int)).f2.f2, .int .i64 (rd_T54 l0 (i:Int)).f3] rfl rfl rfl (by kernel_rfl) rfl (by intro q hq;simp only [List.mem_cons,List.not_mem_nil,or_false] at hq;rcases hq with rfl|rfl|rfl|rfl|rfl|rfl<;>rfl) ?_;intro w11 hbk hg;clear cgb12_0 cgb12_1 cgb12_2 cgb12_3 cgb12_4 cgb12_5;have HOn:=am_ (eff_put_old HO.out hg);clear HO;have HO:=HOn;clear HOn;replace BK5:=am_ (blk_put_other BK5.out hg (NE5_12.out));replace BK7:=am_ (blk_put_other BK7.out hg (NE7_12.out));replace BK8:=am_ (blk_put_other BK8.out hg (NE8_12.out));replace BK9:=am_ (blk_put_other BK9.out hg (NE9_12.out));replace HB:=am_ (below_put HB.out (below_size HB.out) hg GE12.out);replace BK12:=am_ (hbk);clear hbk hg;have cgb12_0:=(blk_cell BK12.out 0).trans rfl;have cgb12_1:=(blk_cell BK12.out 1).trans rfl;have cgb12_2:=(blk_cell BK12.out 2).trans rfl;have cgb12_3:=(blk_cell BK12.out 3).trans rfl;have cgb12_4:=(blk_cell BK12.out 4).trans rfl;have cgb12_5:=(blk_cell BK12.out 5).trans rfl;have cgb5_1:=(blk_cell BK5.out 1).trans rfl;have cgb8_0:=(blk_cell BK8.out 0).trans rfl;have cgb9_0:=(blk_cell BK9.out 0).trans rfl))
              refine (effPut_calls _ w.heap.size gb8 gb5 gb7 gb9 (gb9+1) l.length A c _ false acc s0 s3 s4 s5 s1 s2 r2 r3 r4 r5 r6 r7 r8 r9 r10 r11 r12 r13 b14 BK8.out BK5.out BK7.out BK9.out (by have:=GE8.out;omega) LT8_9.out (Nat.lt_succ_self _) (Nat.succ_le_of_lt (blk_lt BK9.out)) (Kd.R_mono HO.out (fun _ _=>trivial)) (by have:=HAC.out;have:=HI.out;have:=HL.out;omega)).mono ?_
              rintro e w12 ⟨rfl,v2,hbo,hbi,ho,hk,hb⟩
              rw [←HMK.out] at ho
              have n0_:=am_ ((hk.2 gb5 (blk_lt BK5.out) (by have:=LT5_8.out;omega) (by have:=LT5_9.out;omega) (Kd.R_ne HO.out BK5.out (by decide))).trans BK5.out)
              have n1_:=am_ ((hk.2 gb7 (blk_lt BK7.out) (by have:=LT7_8.out;omega) (by have:=LT7_9.out;omega) (Kd.R_ne HO.out BK7.out (by decide))).trans BK7.out)
              have n2_:=am_ ((hk.2 gb12 (blk_lt BK12.out) (by have:=LT8_12.out;omega) (by have:=LT9_12.out;omega) (eff_ne_old HO.out)).trans BK12.out)
              have n3_:=am_ (HB.out.trans hb)
              clear cgb5_1 cgb8_0 cgb9_0 cgb12_0 cgb12_1 cgb12_2 cgb12_3 cgb12_4 cgb12_5 BK5 BK7 BK8 BK9 BK12 HB HO
              have BK5:=n0_
              have BK7:=n1_
              have BK12:=n2_
              have HB:=n3_
              have BK8:=Aside0.mk hbo
              have BK9:=Aside0.mk hbi
              have HO:=Aside0.mk ho
              clear n0_ n1_ n2_ n3_ hbo hbi ho hk hb
              obtain ⟨Ap_,cp_,ep_⟩:=Kd.R_slice HO.out
              subst ep_
              simp only [List.length_append,List.length_cons,List.length_nil,Nat.zero_add] at HO BK8
              have cgb5_1:=(blk_cell BK5.out 1).trans rfl
              have cgb8_0:=(blk_cell BK8.out 0).trans rfl
              have cgb9_0:=(blk_cell BK9.out 0).trans rfl
              have cgb12_0:=(blk_cell BK12.out 0).trans rfl
              have cgb12_1:=(blk_cell BK12.out 1).trans rfl
              have cgb12_2:=(blk_cell BK12.out 2).trans rfl
              have cgb12_3:=(blk_cell BK12.out 3).trans rfl
              have cgb12_4:=(blk_cell BK12.out 4).trans rfl
              have cgb12_5:=(blk_cell BK12.out 5).trans rfl
              go_wp2_with (first|((with_reducible refine gate_builtin (b:= .append) (xs:=#[.tmp 48, .tmp 50]) rfl ?_);at_builtin;refine Kd.R_append k54 (w0:=w12) (gb9+1) rfl (.tmp 48) (.tmp 50) 35 54 (.agg #[(.string ⟨#[]⟩),(.string ⟨#[]⟩),(.int .i64 0),(.int .i64 0),(.int .i64 0),(.int .i64 0)]) 64 rfl Try.underlying35 info54 rfl (by decide) (by omega) _ (acc++ [mk]) (rd_T54 l0 (i:Int)) [.string (rd_T54 l0 (i:Int)).f0, .string (rd_T54 l0 (i:Int)).f1, .int .i64 (rd_T54 l0 (i:Int)).f2.f0, .int .i64 (rd_T54 l0 (i:Int)).f2.f1, .int .i64 (rd_T54 l0 (i:Int)).f2.f2, .int .i64 (rd_T54 l0 (i:Int)).f3] (fun _=>True) (fun _=>False) rfl (by first|(go_simp;done)|(go_simp;rfl)) ?aP (fun _ hk=>hk.elim) ?aF ?aO ?aB ?aS ?aL ?_;(case aP=>exact k54_mkM _ _ _ (rd_T54 l0 (i:Int)));(case aF=>exact fun _ _=>trivial);(case aO=>exact Kd.R_mono HO.out (fun _ _=>trivial));(case aB=>exact Below.refl _ _);(case aS=>exact Nat.succ_le_of_lt (blk_lt BK9.out));(case aL=>have:=HAC.out;have:=HI.out;have:=HL.out;(try simp only [List.length_append,List.length_singleton]);omega);intro v5 w13 ho hb hg hat;have HG8:=Aside0.mk hg;have ne5:some gb5≠_:=Kd.R_ne HO.out BK5.out (by decide);have ne7:some gb7≠_:=Kd.R_ne HO.out BK7.out (by decide);have ne8:some gb8≠_:=Kd.R_ne HO.out BK8.out (by decide);have ne9:some gb9≠_:=Kd.R_ne HO.out BK9.out (by decide);have n0_:=am_ (blk_grown BK5.out hg ne5);have n1_:=am_ (blk_grown BK7.out hg ne7);have n2_:=am_ (blk_grown BK8.out hg ne8);have n3_:=am_ (blk_grown BK9.out hg ne9);have n4_:=Aside0.mk ho;have n5_:=am_ (pw_below_grown HB.out _ (below_size HB.out) hg (fun k e=>by have:=(eff_own HO.out k e).1;have:=GE8.out;have:=LT8_9.out;omega));clear BK5 BK7 BK8 BK9 BK12 HO HB;have BK5:=n0_;have BK7:=n1_;have BK8:=n2_;have BK9:=n3_;have HO:=n4_;have HB:=n5_;clear n0_ n1_ n2_ n3_ n4_ n5_ ho hb hg hat ne5 ne7 ne8 ne9;obtain ⟨Ao,co_,eo⟩:=Kd.R_slice HO.out;subst eo)|((with_reducible refine gate_store (t:=35) (p:=8) (v:= .tmp 51) rfl ?_);refine store_all BK8.out 35 (.tmp 8) (.tmp 51) rfl rfl rfl _ [_] rfl rfl rfl (by kernel_rfl) rfl (by intro q hq;simp only [List.mem_cons,List.not_mem_nil,or_false] at hq;rcases hq with rfl;rfl) ?_;intro w14 hbk hg;have n0_:=am_ (blk_put_other BK5.out hg (by have:=LT5_8.out;omega));have n1_:=am_ (blk_put_other BK7.out hg (by have:=LT7_8.out;omega));have n2_:=am_ (blk_put_other BK9.out hg (by have:=LT8_9.out;omega));have n3_:=am_ (R_put HO.out BK8.out (by decide) hg);have n4_:=am_ (below_put HB.out (below_size HB.out) hg GE8.out);have n5_:=Aside0.mk hbk;clear BK5 BK7 BK8 BK9 HO HB hbk hg;have BK5:=n0_;have BK7:=n1_;have BK9:=n2_;have HO:=n3_;have HB:=n4_;have BK8:=n5_;clear n0_ n1_ n2_ n3_ n4_ n5_))
              go_roundg (l0.length - (i+1))
              case measure=>have:=HM.out;have:=HC.out;omega
              case rel=>exact ⟨i+1,_,_,_,(by have:=HC.out;omega),Nat.le_refl _,(by first|rfl|(rw [ei];done)|(simp [ei];done)|(simp [*];done)),HR2,⟨by have:=HAC.out;(try simp only [List.length_append,List.length_singleton]);omega⟩,⟨Kd.R_mono HO.out (fun _ _=>trivial)⟩,BK5,BK7,BK8,BK9,HB⟩
            · have c2b : ((rd_T54 l0 (i : Int)).f0.toList != s1.toList) = true := bne_iff_ne.mpr c2
              have c2a:((rd_T54 l0 (i:Int)).f0.toList==s1.toList)=false:=beq_eq_false_iff_ne.mpr c2
              have HR2:=am_ (show r=((acc++ [mk])++ [(rd_T54 l0 (i:Int))])++effL mk s1 true (l0.drop (i+1)) from by rw [HE.out,if_pos (show false=false∧Op.bytesLess (rd_T54 l0 (i:Int)).f0.toList s1.toList=false from ⟨rfl,cl⟩),if_pos (show false=false∧Op.bytesLess (rd_T54 l0 (i:Int)).f0.toList s1.toList=false from ⟨rfl,cl⟩),if_neg c2];simp only [List.nil_append,List.append_assoc])
              clear HE c2
              go_wp2_with (first|((with_reducible refine gate_dst (N:=12) rfl ?_);refine bx_ (N:=12) (cs:=#[.string ⟨#[]⟩, .string ⟨#[]⟩, .int .i64 0, .int .i64 0, .int .i64 0, .int .i64 0]) (t:=54) ?_;intro gb12 hg w10 hbox hb;have NE5_12:=am_ (show gb5≠gb12 from by have:=blk_lt BK5.out;rw [hg];exact Nat.ne_of_lt this);have LT5_12:=am_ (show gb5<gb12 from by have:=blk_lt BK5.out;rw [hg];exact this);have NE7_12:=am_ (show gb7≠gb12 from by have:=blk_lt BK7.out;rw [hg];exact Nat.ne_of_lt this);have LT7_12:=am_ (show gb7<gb12 from by have:=blk_lt BK7.out;rw [hg];exact this);have NE8_12:=am_ (show gb8≠gb12 from by have:=blk_lt BK8.out;rw [hg];exact Nat.ne_of_lt this);have LT8_12:=am_ (show gb8<gb12 from by have:=blk_lt BK8.out;rw [hg];exact this);have NE9_12:=am_ (show gb9≠gb12 from by have:=blk_lt BK9.out;rw [hg];exact Nat.ne_of_lt this);have LT9_12:=am_ (show gb9<gb12 from by have:=blk_lt BK9.out;rw [hg];exact this);have HOn:=am_ (show Kd.R k54 54 w10 (gb9+1) (fun k=>k<gb12) _ acc from by rw [hg];exact Kd.R_below (eff_old HO.out) hb);clear HO;have HO:=HOn;clear HOn;replace BK5:=am_ (blk_below BK5.out hb);replace BK7:=am_ (blk_below BK7.out hb);replace BK8:=am_ (blk_below BK8.out hb);replace BK9:=am_ (blk_below BK9.out hb);have BK12:=am_ (hbox);have GE12:=am_ ((by rw [hg];exact below_size HB.out:w.heap.size≤gb12));replace HB:=am_ (below_step HB.out hb);have EQ12:=am_ (hg);clear hb hbox hg;have cgb12_0:=(blk_cell BK12.out 0).trans rfl;have cgb12_1:=(blk_cell BK12.out 1).trans rfl;have cgb12_2:=(blk_cell BK12.out 2).trans rfl;have cgb12_3:=(blk_cell BK12.out 3).trans rfl;have cgb12_4:=(blk_cell BK12.out 4).trans rfl;have cgb12_5:=(blk_cell BK12.out 5).trans rfl)|((with_reducible refine gate_store (t:=54) (p:=12) (v:= .tmp 31) rfl ?_);refine store_all BK12.out 54 (.tmp 12) (.tmp 31) rfl rfl rfl (.agg #[.string (rd_T54 l0 (i:Int)).f0, .string (rd_T54 l0 (i:Int)).f1, .int .i64 (rd_T54 l0 (i:Int)).f2.f0, .int .i64 (rd_T54 l0 (i:Int)).f2.f1, .int .i64 (rd_T54 l0 (i:Int)).f2.f2, .int .i64 (rd_T54 l0 (i:Int)).f3]) [.string (rd_T54 l0 (i:Int)).f0, .string (rd_T54 l0 (i:Int)).f1, .int .i64 (rd_T54 l0 (i:Int)).f2.f0, .int .i64 (rd_T54 l0 (i:Int)).f2.f1, .int .i64 (rd_T54 l0 (i:Int)).f2.f2, .int .i64 (rd_T54 l0 (i:Int)).f3] rfl rfl rfl (by kernel_rfl) rfl (by intro q hq;simp only [List.mem_cons,List.not_mem_nil,or_false] at hq;rcases hq with rfl|rfl|rfl|rfl|rfl|rfl<;>rfl) ?_;intro w11 hbk hg;clear cgb12_0 cgb12_1 cgb12_2 cgb12_3 cgb12_4 cgb12_5;have HOn:=am_ (eff_put_old HO.out hg);clear HO;have HO:=HOn;clear HOn;replace BK5:=am_ (blk_put_other BK5.out hg (NE5_12.out));replace BK7:=am_ (blk_put_other BK7.out hg (NE7_12.out));replace BK8:=am_ (blk_put_other BK8.out hg (NE8_12.out));replace BK9:=am_ (blk_put_other BK9.out hg (NE9_12.out));replace HB:=am_ (below_put HB.out (below_size HB.out) hg GE12.out);replace BK12:=am_ (hbk);clear hbk hg;have cgb12_0:=(blk_cell BK12.out 0).trans rfl;have cgb12_1:=(blk_cell BK12.out 1).trans rfl;have cgb12_2:=(blk_cell BK12.out 2).trans rfl;have cgb12_3:=(blk_cell BK12.out 3).trans rfl;have cgb12_4:=(blk_cell BK12.out 4).trans rfl;have cgb12_5:=(blk_cell BK12.out 5).trans rfl;have cgb5_1:=(blk_cell BK5.out 1).trans rfl;have cgb8_0:=(blk_cell BK8.out 0).trans rfl;have cgb9_0:=(blk_cell BK9.out 0).trans rfl))
              refine (effPut_calls _ w.heap.size gb8 gb5 gb7 gb9 (gb9+1) l.length A c _ false acc s0 s3 s4 s5 s1 s2 r2 r3 r4 r5 r6 r7 r8 r9 r10 r11 r12 r13 b14 BK8.out BK5.out BK7.out BK9.out (by have:=GE8.out;omega) LT8_9.out (Nat.lt_succ_self _) (Nat.succ_le_of_lt (blk_lt BK9.out)) (Kd.R_mono HO.out (fun _ _=>trivial)) (by have:=HAC.out;have:=HI.out;have:=HL.out;omega)).mono ?_
              rintro e w12 ⟨rfl,v2,hbo,hbi,ho,hk,hb⟩
              rw [←HMK.out] at ho
              have n0_:=am_ ((hk.2 gb5 (blk_lt BK5.out) (by have:=LT5_8.out;omega) (by have:=LT5_9.out;omega) (Kd.R_ne HO.out BK5.out (by decide))).trans BK5.out)
              have n1_:=am_ ((hk.2 gb7 (blk_lt BK7.out) (by have:=LT7_8.out;omega) (by have:=LT7_9.out;omega) (Kd.R_ne HO.out BK7.out (by decide))).trans BK7.out)
              have n2_:=am_ ((hk.2 gb12 (blk_lt BK12.out) (by have:=LT8_12.out;omega) (by have:=LT9_12.out;omega) (eff_ne_old HO.out)).trans BK12.out)
              have n3_:=am_ (HB.out.trans hb)
              clear cgb5_1 cgb8_0 cgb9_0 cgb12_0 cgb12_1 cgb12_2 cgb12_3 cgb12_4 cgb12_5 BK5 BK7 BK8 BK9 BK12 HB HO
              have BK5:=n0_
              have BK7:=n1_
              have BK12:=n2_
              have HB:=n3_
              have BK8:=Aside0.mk hbo
              have BK9:=Aside0.mk hbi
              have HO:=Aside0.mk ho
              clear n0_ n1_ n2_ n3_ hbo hbi ho hk hb
              obtain ⟨Ap_,cp_,ep_⟩:=Kd.R_slice HO.out
              subst ep_
              simp only [List.length_append,List.length_cons,List.length_nil,Nat.zero_add] at HO BK8
              have cgb5_1:=(blk_cell BK5.out 1).trans rfl
              have cgb8_0:=(blk_cell BK8.out 0).trans rfl
              have cgb9_0:=(blk_cell BK9.out 0).trans rfl
              have cgb12_0:=(blk_cell BK12.out 0).trans rfl
              have cgb12_1:=(blk_cell BK12.out 1).trans rfl
              have cgb12_2:=(blk_cell BK12.out 2).trans rfl
              have cgb12_3:=(blk_cell BK12.out 3).trans rfl
              have cgb12_4:=(blk_cell BK12.out 4).trans rfl
              have cgb12_5:=(blk_cell BK12.out 5).trans rfl
              go_wp2_with (first|((with_reducible refine gate_builtin (b:= .append) (xs:=#[.tmp 48, .tmp 50]) rfl ?_);at_builtin;refine Kd.R_append k54 (w0:=w12) (gb9+1) rfl (.tmp 48) (.tmp 50) 35 54 (.agg #[(.string ⟨#[]⟩),(.string ⟨#[]⟩),(.int .i64 0),(.int .i64 0),(.int .i64 0),(.int .i64 0)]) 64 rfl Try.underlying35 info54 rfl (by decide) (by omega) _ (acc++ [mk]) (rd_T54 l0 (i:Int)) [.string (rd_T54 l0 (i:Int)).f0, .string (rd_T54 l0 (i:Int)).f1, .int .i64 (rd_T54 l0 (i:Int)).f2.f0, .int .i64 (rd_T54 l0 (i:Int)).f2.f1, .int .i64 (rd_T54 l0 (i:Int)).f2.f2, .int .i64 (rd_T54 l0 (i:Int)).f3] (fun _=>True) (fun _=>False) rfl (by first|(go_simp;done)|(go_simp;rfl)) ?aP (fun _ hk=>hk.elim) ?aF ?aO ?aB ?aS ?aL ?_;(case aP=>exact k54_mkM _ _ _ (rd_T54 l0 (i:Int)));(case aF=>exact fun _ _=>trivial);(case aO=>exact Kd.R_mono HO.out (fun _ _=>trivial));(case aB=>exact Below.refl _ _);(case aS=>exact Nat.succ_le_of_lt (blk_lt BK9.out));(case aL=>have:=HAC.out;have:=HI.out;have:=HL.out;(try simp only [List.length_append,List.length_singleton]);omega);intro v5 w13 ho hb hg hat;have HG8:=Aside0.mk hg;have ne5:some gb5≠_:=Kd.R_ne HO.out BK5.out (by decide);have ne7:some gb7≠_:=Kd.R_ne HO.out BK7.out (by decide);have ne8:some gb8≠_:=Kd.R_ne HO.out BK8.out (by decide);have ne9:some gb9≠_:=Kd.R_ne HO.out BK9.out (by decide);have n0_:=am_ (blk_grown BK5.out hg ne5);have n1_:=am_ (blk_grown BK7.out hg ne7);have n2_:=am_ (blk_grown BK8.out hg ne8);have n3_:=am_ (blk_grown BK9.out hg ne9);have n4_:=Aside0.mk ho;have n5_:=am_ (pw_below_grown HB.out _ (below_size HB.out) hg (fun k e=>by have:=(eff_own HO.out k e).1;have:=GE8.out;have:=LT8_9.out;omega));clear BK5 BK7 BK8 BK9 BK12 HO HB;have BK5:=n0_;have BK7:=n1_;have BK8:=n2_;have BK9:=n3_;have HO:=n4_;have HB:=n5_;clear n0_ n1_ n2_ n3_ n4_ n5_ ho hb hg hat ne5 ne7 ne8 ne9;obtain ⟨Ao,co_,eo⟩:=Kd.R_slice HO.out;subst eo)|((with_reducible refine gate_store (t:=35) (p:=8) (v:= .tmp 51) rfl ?_);refine store_all BK8.out 35 (.tmp 8) (.tmp 51) rfl rfl rfl _ [_] rfl rfl rfl (by kernel_rfl) rfl (by intro q hq;simp only [List.mem_cons,List.not_mem_nil,or_false] at hq;rcases hq with rfl;rfl) ?_;intro w14 hbk hg;have n0_:=am_ (blk_put_other BK5.out hg (by have:=LT5_8.out;omega));have n1_:=am_ (blk_put_other BK7.out hg (by have:=LT7_8.out;omega));have n2_:=am_ (blk_put_other BK9.out hg (by have:=LT8_9.out;omega));have n3_:=am_ (R_put HO.out BK8.out (by decide) hg);have n4_:=am_ (below_put HB.out (below_size HB.out) hg GE8.out);have n5_:=Aside0.mk hbk;clear BK5 BK7 BK8 BK9 HO HB hbk hg;have BK5:=n0_;have BK7:=n1_;have BK9:=n2_;have HO:=n3_;have HB:=n4_;have BK8:=n5_;clear n0_ n1_ n2_ n3_ n4_ n5_))
              go_roundg (l0.length - (i+1))
              case measure=>have:=HM.out;have:=HC.out;omega
              case rel=>exact ⟨i+1,_,_,_,(by have:=HC.out;omega),Nat.le_refl _,(by first|rfl|(rw [ei];done)|(simp [ei];done)|(simp [*];done)),HR2,⟨by have:=HAC.out;(try simp only [List.length_append,List.length_singleton]);omega⟩,⟨Kd.R_mono HO.out (fun _ _=>trivial)⟩,BK5,BK7,BK8,BK9,HB⟩
          · have cl : Op.bytesLess (rd_T54 l0 (i : Int)).f0.toList s1.toList = true := by simpa using cl
            by_cases c2:(rd_T54 l0 (i:Int)).f0.toList=s1.toList
            · have c2b : ((rd_T54 l0 (i : Int)).f0.toList != s1.toList) = false := bne_eq_false_iff_eq.mpr c2
              have c2a:((rd_T54 l0 (i:Int)).f0.toList==s1.toList)=true:=beq_iff_eq.mpr c2
              have HR2:=am_ (show r=acc++effL mk s1 false (l0.drop (i+1)) from by rw [HE.out,if_neg (show¬(false=false∧Op.bytesLess (rd_T54 l0 (i:Int)).f0.toList s1.toList=false) from fun q=>by rw [cl] at q;exact nomatch q.2),if_neg (show¬(false=false∧Op.bytesLess (rd_T54 l0 (i:Int)).f0.toList s1.toList=false) from fun q=>by rw [cl] at q;exact nomatch q.2),if_pos c2];simp only [List.nil_append,List.append_assoc])
              clear HE c2
              go_wp2_with (first|((with_reducible refine gate_dst (N:=12) rfl ?_);refine bx_ (N:=12) (cs:=#[.string ⟨#[]⟩, .string ⟨#[]⟩, .int .i64 0, .int .i64 0, .int .i64 0, .int .i64 0]) (t:=54) ?_;intro gb12 hg w10 hbox hb;have NE5_12:=am_ (show gb5≠gb12 from by have:=blk_lt BK5.out;rw [hg];exact Nat.ne_of_lt this);have LT5_12:=am_ (show gb5<gb12 from by have:=blk_lt BK5.out;rw [hg];exact this);have NE7_12:=am_ (show gb7≠gb12 from by have:=blk_lt BK7.out;rw [hg];exact Nat.ne_of_lt this);have LT7_12:=am_ (show gb7<gb12 from by have:=blk_lt BK7.out;rw [hg];exact this);have NE8_12:=am_ (show gb8≠gb12 from by have:=blk_lt BK8.out;rw [hg];exact Nat.ne_of_lt this);have LT8_12:=am_ (show gb8<gb12 from by have:=blk_lt BK8.out;rw [hg];exact this);have NE9_12:=am_ (show gb9≠gb12 from by have:=blk_lt BK9.out;rw [hg];exact Nat.ne_of_lt this);have LT9_12:=am_ (show gb9<gb12 from by have:=blk_lt BK9.out;rw [hg];exact this);have HOn:=am_ (show Kd.R k54 54 w10 (gb9+1) (fun k=>k<gb12) _ acc from by rw [hg];exact Kd.R_below (eff_old HO.out) hb);clear HO;have HO:=HOn;clear HOn;replace BK5:=am_ (blk_below BK5.out hb);replace BK7:=am_ (blk_below BK7.out hb);replace BK8:=am_ (blk_below BK8.out hb);replace BK9:=am_ (blk_below BK9.out hb);have BK12:=am_ (hbox);have GE12:=am_ ((by rw [hg];exact below_size HB.out:w.heap.size≤gb12));replace HB:=am_ (below_step HB.out hb);have EQ12:=am_ (hg);clear hb hbox hg;have cgb12_0:=(blk_cell BK12.out 0).trans rfl;have cgb12_1:=(blk_cell BK12.out 1).trans rfl;have cgb12_2:=(blk_cell BK12.out 2).trans rfl;have cgb12_3:=(blk_cell BK12.out 3).trans rfl;have cgb12_4:=(blk_cell BK12.out 4).trans rfl;have cgb12_5:=(blk_cell BK12.out 5).trans rfl)|((with_reducible refine gate_store (t:=54) (p:=12) (v:= .tmp 31) rfl ?_);refine store_all BK12.out 54 (.tmp 12) (.tmp 31) rfl rfl rfl (.agg #[.string (rd_T54 l0 (i:Int)).f0, .string (rd_T54 l0 (i:Int)).f1, .int .i64 (rd_T54 l0 (i:Int)).f2.f0, .int .i64 (rd_T54 l0 (i:Int)).f2.f1, .int .i64 (rd_T54 l0 (i:Int)).f2.f2, .int .i64 (rd_T54 l0 (i:Int)).f3]) [.string (rd_T54 l0 (i:Int)).f0, .string (rd_T54 l0 (i:Int)).f1, .int .i64 (rd_T54 l0 (i:Int)).f2.f0, .int .i64 (rd_T54 l0 (i:Int)).f2.f1, .int .i64 (rd_T54 l0 (i:Int)).f2.f2, .int .i64 (rd_T54 l0 (i:Int)).f3] rfl rfl rfl (by kernel_rfl) rfl (by intro q hq;simp only [List.mem_cons,List.not_mem_nil,or_false] at hq;rcases hq with rfl|rfl|rfl|rfl|rfl|rfl<;>rfl) ?_;intro w11 hbk hg;clear cgb12_0 cgb12_1 cgb12_2 cgb12_3 cgb12_4 cgb12_5;have HOn:=am_ (eff_put_old HO.out hg);clear HO;have HO:=HOn;clear HOn;replace BK5:=am_ (blk_put_other BK5.out hg (NE5_12.out));replace BK7:=am_ (blk_put_other BK7.out hg (NE7_12.out));replace BK8:=am_ (blk_put_other BK8.out hg (NE8_12.out));replace BK9:=am_ (blk_put_other BK9.out hg (NE9_12.out));replace HB:=am_ (below_put HB.out (below_size HB.out) hg GE12.out);replace BK12:=am_ (hbk);clear hbk hg;have cgb12_0:=(blk_cell BK12.out 0).trans rfl;have cgb12_1:=(blk_cell BK12.out 1).trans rfl;have cgb12_2:=(blk_cell BK12.out 2).trans rfl;have cgb12_3:=(blk_cell BK12.out 3).trans rfl;have cgb12_4:=(blk_cell BK12.out 4).trans rfl;have cgb12_5:=(blk_cell BK12.out 5).trans rfl;have cgb5_1:=(blk_cell BK5.out 1).trans rfl;have cgb8_0:=(blk_cell BK8.out 0).trans rfl;have cgb9_0:=(blk_cell BK9.out 0).trans rfl)|((with_reducible refine gate_builtin (b:= .append) (xs:=#[.tmp 48, .tmp 50]) rfl ?_);at_builtin;refine Kd.R_append k54 (w0:=w11) (gb9+1) rfl (.tmp 48) (.tmp 50) 35 54 (.agg #[(.string ⟨#[]⟩),(.string ⟨#[]⟩),(.int .i64 0),(.int .i64 0),(.int .i64 0),(.int .i64 0)]) 64 rfl Try.underlying35 info54 rfl (by decide) (by omega) _ acc (rd_T54 l0 (i:Int)) [.string (rd_T54 l0 (i:Int)).f0, .string (rd_T54 l0 (i:Int)).f1, .int .i64 (rd_T54 l0 (i:Int)).f2.f0, .int .i64 (rd_T54 l0 (i:Int)).f2.f1, .int .i64 (rd_T54 l0 (i:Int)).f2.f2, .int .i64 (rd_T54 l0 (i:Int)).f3] (fun _=>True) (fun _=>False) rfl (by first|(go_simp;done)|(go_simp;rfl)) ?aP (fun _ hk=>hk.elim) ?aF ?aO ?aB ?aS ?aL ?_;(case aP=>exact k54_mkM _ _ _ (rd_T54 l0 (i:Int)));(case aF=>exact fun _ _=>trivial);(case aO=>exact Kd.R_mono HO.out (fun _ _=>trivial));(case aB=>exact Below.refl _ _);(case aS=>exact Nat.succ_le_of_lt (blk_lt BK9.out));(case aL=>have:=HAC.out;have:=HI.out;have:=HL.out;(try simp only [List.length_append,List.length_singleton]);omega);intro v5 w13 ho hb hg hat;have HG8:=Aside0.mk hg;have ne5:some gb5≠_:=Kd.R_ne HO.out BK5.out (by decide);have ne7:some gb7≠_:=Kd.R_ne HO.out BK7.out (by decide);have ne8:some gb8≠_:=Kd.R_ne HO.out BK8.out (by decide);have ne9:some gb9≠_:=Kd.R_ne HO.out BK9.out (by decide);have n0_:=am_ (blk_grown BK5.out hg ne5);have n1_:=am_ (blk_grown BK7.out hg ne7);have n2_:=am_ (blk_grown BK8.out hg ne8);have n3_:=am_ (blk_grown BK9.out hg ne9);have n4_:=Aside0.mk ho;have n5_:=am_ (pw_below_grown HB.out _ (below_size HB.out) hg (fun k e=>by have:=(eff_own HO.out k e).1;have:=GE8.out;have:=LT8_9.out;omega));clear BK5 BK7 BK8 BK9 BK12 HO HB;have BK5:=n0_;have BK7:=n1_;have BK8:=n2_;have BK9:=n3_;have HO:=n4_;have HB:=n5_;clear n0_ n1_ n2_ n3_ n4_ n5_ ho hb hg hat ne5 ne7 ne8 ne9;obtain ⟨Ao,co_,eo⟩:=Kd.R_slice HO.out;subst eo)|((with_reducible refine gate_store (t:=35) (p:=8) (v:= .tmp 51) rfl ?_);refine store_all BK8.out 35 (.tmp 8) (.tmp 51) rfl rfl rfl _ [_] rfl rfl rfl (by kernel_rfl) rfl (by intro q hq;simp only [List.mem_cons,List.not_mem_nil,or_false] at hq;rcases hq with rfl;rfl) ?_;intro w14 hbk hg;have n0_:=am_ (blk_put_other BK5.out hg (by have:=LT5_8.out;omega));have n1_:=am_ (blk_put_other BK7.out hg (by have:=LT7_8.out;omega));have n2_:=am_ (blk_put_other BK9.out hg (by have:=LT8_9.out;omega));have n3_:=am_ (R_put HO.out BK8.out (by decide) hg);have n4_:=am_ (below_put HB.out (below_size HB.out) hg GE8.out);have n5_:=Aside0.mk hbk;clear BK5 BK7 BK8 BK9 HO HB hbk hg;have BK5:=n0_;have BK7:=n1_;have BK9:=n2_;have HO:=n3_;have HB:=n4_;have BK8:=n5_;clear n0_ n1_ n2_ n3_ n4_ n5_))
              go_roundg (l0.length - (i+1))
              case measure=>have:=HM.out;have:=HC.out;omega
              case rel=>exact ⟨i+1,_,_,_,(by have:=HC.out;omega),Nat.le_refl _,(by first|rfl|(rw [ei];done)|(simp [ei];done)|(simp [*];done)),HR2,⟨by have:=HAC.out;(try simp only [List.length_append,List.length_singleton]);omega⟩,⟨Kd.R_mono HO.out (fun _ _=>trivial)⟩,BK5,BK7,BK8,BK9,HB⟩
            · have c2b : ((rd_T54 l0 (i : Int)).f0.toList != s1.toList) = true := bne_iff_ne.mpr c2
              have c2a:((rd_T54 l0 (i:Int)).f0.toList==s1.toList)=false:=beq_eq_false_iff_ne.mpr c2
              have HR2:=am_ (show r=(acc++ [(rd_T54 l0 (i:Int))])++effL mk s1 false (l0.drop (i+1)) from by rw [HE.out,if_neg (show¬(false=false∧Op.bytesLess (rd_T54 l0 (i:Int)).f0.toList s1.toList=false) from fun q=>by rw [cl] at q;exact nomatch q.2),if_neg (show¬(false=false∧Op.bytesLess (rd_T54 l0 (i:Int)).f0.toList s1.toList=false) from fun q=>by rw [cl] at q;exact nomatch q.2),if_neg c2];simp only [List.nil_append,List.append_assoc])
              clear HE c2
              go_wp2_with (first|((with_reducible refine gate_dst (N:=12) rfl ?_);refine bx_ (N:=12) (cs:=#[.string ⟨#[]⟩, .string ⟨#[]⟩, .int .i64 0, .int .i64 0, .int .i64 0, .int .i64 0]) (t:=54) ?_;intro gb12 hg w10 hbox hb;have NE5_12:=am_ (show gb5≠gb12 from by have:=blk_lt BK5.out;rw [hg];exact Nat.ne_of_lt this);have LT5_12:=am_ (show gb5<gb12 from by have:=blk_lt BK5.out;rw [hg];exact this);have NE7_12:=am_ (show gb7≠gb12 from by have:=blk_lt BK7.out;rw [hg];exact Nat.ne_of_lt this);have LT7_12:=am_ (show gb7<gb12 from by have:=blk_lt BK7.out;rw [hg];exact this);have NE8_12:=am_ (show gb8≠gb12 from by have:=blk_lt BK8.out;rw [hg];exact Nat.ne_of_lt this);have LT8_12:=am_ (show gb8<gb12 from by have:=blk_lt BK8.out;rw [hg];exact this);have NE9_12:=am_ (show gb9≠gb12 from by have:=blk_lt BK9.out;rw [hg];exact Nat.ne_of_lt this);have LT9_12:=am_ (show gb9<gb12 from by have:=blk_lt BK9.out;rw [hg];exact this);have HOn:=am_ (show Kd.R k54 54 w10 (gb9+1) (fun k=>k<gb12) _ acc from by rw [hg];exact Kd.R_below (eff_old HO.out) hb);clear HO;have HO:=HOn;clear HOn;replace BK5:=am_ (blk_below BK5.out hb);replace BK7:=am_ (blk_below BK7.out hb);replace BK8:=am_ (blk_below BK8.out hb);replace BK9:=am_ (blk_below BK9.out hb);have BK12:=am_ (hbox);have GE12:=am_ ((by rw [hg];exact below_size HB.out:w.heap.size≤gb12));replace HB:=am_ (below_step HB.out hb);have EQ12:=am_ (hg);clear hb hbox hg;have cgb12_0:=(blk_cell BK12.out 0).trans rfl;have cgb12_1:=(blk_cell BK12.out 1).trans rfl;have cgb12_2:=(blk_cell BK12.out 2).trans rfl;have cgb12_3:=(blk_cell BK12.out 3).trans rfl;have cgb12_4:=(blk_cell BK12.out 4).trans rfl;have cgb12_5:=(blk_cell BK12.out 5).trans rfl)|((with_reducible refine gate_store (t:=54) (p:=12) (v:= .tmp 31) rfl ?_);refine store_all BK12.out 54 (.tmp 12) (.tmp 31) rfl rfl rfl (.agg #[.string (rd_T54 l0 (i:Int)).f0, .string (rd_T54 l0 (i:Int)).f1, .int .i64 (rd_T54 l0 (i:Int)).f2.f0, .int .i64 (rd_T54 l0 (i:Int)).f2.f1, .int .i64 (rd_T54 l0 (i:Int)).f2.f2, .int .i64 (rd_T54 l0 (i:Int)).f3]) [.string (rd_T54 l0 (i:Int)).f0, .string (rd_T54 l0 (i:Int)).f1, .int .i64 (rd_T54 l0 (i:Int)).f2.f0, .int .i64 (rd_T54 l0 (i:Int)).f2.f1, .int .i64 (rd_T54 l0 (i:Int)).f2.f2, .int .i64 (rd_T54 l0 (i:Int)).f3] rfl rfl rfl (by kernel_rfl) rfl (by intro q hq;simp only [List.mem_cons,List.not_mem_nil,or_false] at hq;rcases hq with rfl|rfl|rfl|rfl|rfl|rfl<;>rfl) ?_;intro w11 hbk hg;clear cgb12_0 cgb12_1 cgb12_2 cgb12_3 cgb12_4 cgb12_5;have HOn:=am_ (eff_put_old HO.out hg);clear HO;have HO:=HOn;clear HOn;replace BK5:=am_ (blk_put_other BK5.out hg (NE5_12.out));replace BK7:=am_ (blk_put_other BK7.out hg (NE7_12.out));replace BK8:=am_ (blk_put_other BK8.out hg (NE8_12.out));replace BK9:=am_ (blk_put_other BK9.out hg (NE9_12.out));replace HB:=am_ (below_put HB.out (below_size HB.out) hg GE12.out);replace BK12:=am_ (hbk);clear hbk hg;have cgb12_0:=(blk_cell BK12.out 0).trans rfl;have cgb12_1:=(blk_cell BK12.out 1).trans rfl;have cgb12_2:=(blk_cell BK12.out 2).trans rfl;have cgb12_3:=(blk_cell BK12.out 3).trans rfl;have cgb12_4:=(blk_cell BK12.out 4).trans rfl;have cgb12_5:=(blk_cell BK12.out 5).trans rfl;have cgb5_1:=(blk_cell BK5.out 1).trans rfl;have cgb8_0:=(blk_cell BK8.out 0).trans rfl;have cgb9_0:=(blk_cell BK9.out 0).trans rfl)|((with_reducible refine gate_builtin (b:= .append) (xs:=#[.tmp 48, .tmp 50]) rfl ?_);at_builtin;refine Kd.R_append k54 (w0:=w11) (gb9+1) rfl (.tmp 48) (.tmp 50) 35 54 (.agg #[(.string ⟨#[]⟩),(.string ⟨#[]⟩),(.int .i64 0),(.int .i64 0),(.int .i64 0),(.int .i64 0)]) 64 rfl Try.underlying35 info54 rfl (by decide) (by omega) _ acc (rd_T54 l0 (i:Int)) [.string (rd_T54 l0 (i:Int)).f0, .string (rd_T54 l0 (i:Int)).f1, .int .i64 (rd_T54 l0 (i:Int)).f2.f0, .int .i64 (rd_T54 l0 (i:Int)).f2.f1, .int .i64 (rd_T54 l0 (i:Int)).f2.f2, .int .i64 (rd_T54 l0 (i:Int)).f3] (fun _=>True) (fun _=>False) rfl (by first|(go_simp;done)|(go_simp;rfl)) ?aP (fun _ hk=>hk.elim) ?aF ?aO ?aB ?aS ?aL ?_;(case aP=>exact k54_mkM _ _ _ (rd_T54 l0 (i:Int)));(case aF=>exact fun _ _=>trivial);(case aO=>exact Kd.R_mono HO.out (fun _ _=>trivial));(case aB=>exact Below.refl _ _);(case aS=>exact Nat.succ_le_of_lt (blk_lt BK9.out));(case aL=>have:=HAC.out;have:=HI.out;have:=HL.out;(try simp only [List.length_append,List.length_singleton]);omega);intro v5 w13 ho hb hg hat;have HG8:=Aside0.mk hg;have ne5:some gb5≠_:=Kd.R_ne HO.out BK5.out (by decide);have ne7:some gb7≠_:=Kd.R_ne HO.out BK7.out (by decide);have ne8:some gb8≠_:=Kd.R_ne HO.out BK8.out (by decide);have ne9:some gb9≠_:=Kd.R_ne HO.out BK9.out (by decide);have n0_:=am_ (blk_grown BK5.out hg ne5);have n1_:=am_ (blk_grown BK7.out hg ne7);have n2_:=am_ (blk_grown BK8.out hg ne8);have n3_:=am_ (blk_grown BK9.out hg ne9);have n4_:=Aside0.mk ho;have n5_:=am_ (pw_below_grown HB.out _ (below_size HB.out) hg (fun k e=>by have:=(eff_own HO.out k e).1;have:=GE8.out;have:=LT8_9.out;omega));clear BK5 BK7 BK8 BK9 BK12 HO HB;have BK5:=n0_;have BK7:=n1_;have BK8:=n2_;have BK9:=n3_;have HO:=n4_;have HB:=n5_;clear n0_ n1_ n2_ n3_ n4_ n5_ ho hb hg hat ne5 ne7 ne8 ne9;obtain ⟨Ao,co_,eo⟩:=Kd.R_slice HO.out;subst eo)|((with_reducible refine gate_store (t:=35) (p:=8) (v:= .tmp 51) rfl ?_);refine store_all BK8.out 35 (.tmp 8) (.tmp 51) rfl rfl rfl _ [_] rfl rfl rfl (by kernel_rfl) rfl (by intro q hq;simp only [List.mem_cons,List.not_mem_nil,or_false] at hq;rcases hq with rfl;rfl) ?_;intro w14 hbk hg;have n0_:=am_ (blk_put_other BK5.out hg (by have:=LT5_8.out;omega));have n1_:=am_ (blk_put_other BK7.out hg (by have:=LT7_8.out;omega));have n2_:=am_ (blk_put_other BK9.out hg (by have:=LT8_9.out;omega));have n3_:=am_ (R_put HO.out BK8.out (by decide) hg);have n4_:=am_ (below_put HB.out (below_size HB.out) hg GE8.out);have n5_:=Aside0.mk hbk;clear BK5 BK7 BK8 BK9 HO HB hbk hg;have BK5:=n0_;have BK7:=n1_;have BK9:=n2_;have HO:=n3_;have HB:=n4_;have BK8:=n5_;clear n0_ n1_ n2_ n3_ n4_ n5_))
              go_roundg (l0.length - (i+1))
              case measure=>have:=HM.out;have:=HC.out;omega
              case rel=>exact ⟨i+1,_,_,_,(by have:=HC.out;omega),Nat.le_refl _,(by first|rfl|(rw [ei];done)|(simp [ei];done)|(simp [*];done)),HR2,⟨by have:=HAC.out;(try simp only [List.length_append,List.length_singleton]);omega⟩,⟨Kd.R_mono HO.out (fun _ _=>trivial)⟩,BK5,BK7,BK8,BK9,HB⟩
      · have c1b : decide ((i : Int) < (l0.length : Int)) = false := decide_eq_false (by omega)
        have c1c:decide (i<l0.length)=false:=decide_eq_false c1
        have c1d:(i<l0.length)=False:=eq_false c1
        have hh:=HE.out
        rw [List.drop_of_length_le (by omega)] at hh
        unfold effL at hh
        have HE:=Aside0.mk hh
        clear hh c1
        have cgb8_0:=(blk_cell BK8.out 0).trans rfl
        cases inb with
        | true =>
          have HR2:=am_ (show r=acc from by rw [HE.out,if_pos rfl,List.append_nil])
          have cgb9_0:=(blk_cell BK9.out 0).trans rfl
          go_wp2_with fail
          have hlen:acc.length<2199023255552:=by have:=HAC.out;have:=HI.out;have:=HL.out;(try simp only [List.length_append,List.length_singleton]);omega
          have hcf:slices_Clone_Mark.f acc=some acc:=by unfold slices_Clone_Mark.f;exact if_pos hlen
          have hcl:=slices_Clone_Mark.calls Au cu acc acc _ (Kd.R_reads' HO.out).2.2 (Kd.R_reads' HO.out).2.1 hcf
          (try simp only [List.length_append,List.length_cons,List.length_nil,Nat.zero_add] at hcl)
          refine hcl.mono ?_
          rintro e w15 ⟨v0_,rfl,ho,hb⟩
          have HOz:=am_ (Kd.R_lower ho (below_size HB.out))
          have HBz:=am_ (below_step HB.out hb)
          clear ho hb hcl hcf hlen
          go_wp2
          go_ret
          exact ⟨_,rfl,by rw [HR2.out];exact HOz.out,HBz.out⟩
        | false =>
          have HR2:=am_ (show r=acc++ [mk] from by rw [HE.out,if_neg (by simp)])
          have cgb9_0:=(blk_cell BK9.out 0).trans rfl
          go_wp2_with fail
          refine (effPut_calls _ w.heap.size gb8 gb5 gb7 gb9 (gb9+1) l.length A c _ false acc s0 s3 s4 s5 s1 s2 r2 r3 r4 r5 r6 r7 r8 r9 r10 r11 r12 r13 b14 BK8.out BK5.out BK7.out BK9.out (by have:=GE8.out;omega) LT8_9.out (Nat.lt_succ_self _) (Nat.succ_le_of_lt (blk_lt BK9.out)) HO.out (by have:=HAC.out;have:=HI.out;have:=HL.out;omega)).mono ?_
          rintro e w12 ⟨rfl,v2,hbo,hbi,ho,hk,hb⟩
          rw [←HMK.out] at ho
          have n3_:=am_ (HB.out.trans hb)
          clear cgb8_0 cgb9_0 BK8 BK9 HB HO
          have HB:=n3_
          have BK8:=Aside0.mk hbo
          have HO:=Aside0.mk ho
          clear n3_ hbo hbi ho hk hb
          obtain ⟨Ap_,cp_,ep_⟩:=Kd.R_slice HO.out
          subst ep_
          simp only [List.length_append,List.length_cons,List.length_nil,Nat.zero_add] at BK8
          have cgb8_0:=(blk_cell BK8.out 0).trans rfl
          go_wp2_with fail
          have hlen:(acc++ [mk]).length<2199023255552:=by have:=HAC.out;have:=HI.out;have:=HL.out;(try simp only [List.length_append,List.length_singleton]);omega
          have hcf:slices_Clone_Mark.f (acc++ [mk])=some (acc++ [mk]):=by unfold slices_Clone_Mark.f;exact if_pos hlen
          have hcl:=slices_Clone_Mark.calls Ap_ cp_ (acc++ [mk]) (acc++ [mk]) _ (Kd.R_reads' HO.out).2.2 (Kd.R_reads' HO.out).2.1 hcf
          (try simp only [List.length_append,List.length_cons,List.length_nil,Nat.zero_add] at hcl)
          refine hcl.mono ?_
          rintro e w15 ⟨v0_,rfl,ho,hb⟩
          have HOz:=am_ (Kd.R_lower ho (below_size HB.out))
          have HBz:=am_ (below_step HB.out hb)
          clear ho hb hcl hcf hlen
          go_wp2
          go_ret
          exact ⟨_,rfl,by rw [HR2.out];exact HOz.out,HBz.out⟩)


def r16_mark.f (a0_0:ByteArray) (a0_1:ByteArray) (a0_2:Int) (a0_3:Int) (a0_4:Int) (a0_5:Int) (a0_6:Int) (a0_7:Int) (a0_8:Int) (a0_9:Int) (a0_10:Int) (a0_11:Int):Option (ByteArray×ByteArray×Int×Int×Int×Int):=some (a0_0,a0_1,a0_2,a0_3,a0_4,a0_11)
set_option maxHeartbeats 8000000 in
set_option maxRecDepth 100000 in
theorem r16_mark.calls (a0_0:ByteArray) (a0_1:ByteArray) (a0_2:Int) (a0_3:Int) (a0_4:Int) (a0_5:Int) (a0_6:Int) (a0_7:Int) (a0_8:Int) (a0_9:Int) (a0_10:Int) (a0_11:Int) (r1:ByteArray) (r2:ByteArray) (r3:Int) (r4:Int) (r5:Int) (r6:Int) (w:World) (h:r16_mark.f a0_0 a0_1 a0_2 a0_3 a0_4 a0_5 a0_6 a0_7 a0_8 a0_9 a0_10 a0_11=some (r1,r2,r3,r4,r5,r6)):
  Calls Try.prog 109 #[.agg #[.string a0_0, .string a0_1, .int .i64 a0_2, .int .i64 a0_3, .int .i64 a0_4, .int .i64 a0_5, .int .i64 a0_6, .int .i64 a0_7, .int .i64 a0_8, .int .i64 a0_9, .int .i64 a0_10, .int .i64 a0_11]] w fun e w'=>e= .returned (.agg #[.string r1, .string r2, .int .i64 r3, .int .i64 r4, .int .i64 r5, .int .i64 r6])∧Below w.heap.size w w':=by
 have hu31:=Try.underlying31
 have hu54:=Try.underlying54
 have hu27:=Try.underlying27
 have HB:=am_ (Below.refl w.heap.size w)
 have H:(some (a0_0,a0_1,a0_2,a0_3,a0_4,a0_11))=some (r1,r2,r3,r4,r5,r6):=h
 clear h
 simp only [Option.some.injEq,Prod.mk.injEq] at H
 obtain ⟨rfl,rfl,rfl,rfl,rfl,rfl⟩:=H
 go_enter Try.func109,Try.ntmps109
 go_wp2_with (first|((with_reducible refine gate_dst (N:=1) rfl ?_);refine bx_ (N:=1) (cs:=#[.string a0_0, .string a0_1, .int .i64 a0_2, .int .i64 a0_3, .int .i64 a0_4, .int .i64 a0_5, .int .i64 a0_6, .int .i64 a0_7, .int .i64 a0_8, .int .i64 a0_9, .int .i64 a0_10, .int .i64 a0_11]) (t:=31) ?_;intro gb1 hg w2 hbox hb;have BK1:=am_ (hbox);have GW1:=am_ ((zg0_ HB hg:w.heap.size≤gb1));have GE1:=am_ ((zg0_ HB hg:w.heap.size≤gb1));replace HB:=am_ (below_step (zl0_ HB) hb);clear hb hbox hg)|((with_reducible refine gate_dst (N:=2) rfl ?_);refine bx_ (N:=2) (cs:=#[.string (⟨#[]⟩:ByteArray), .string (⟨#[]⟩:ByteArray), .int .i64 0, .int .i64 0, .int .i64 0, .int .i64 0]) (t:=54) ?_;intro gb2 hg w3 hbox hb;have BK2:=am_ (hbox);have GW2:=am_ ((zg1_ HB GE1 hg:w.heap.size≤gb2));have GE2:=am_ ((zg1_ HB GE1 hg:w.heap.size≤gb2));replace HB:=am_ (below_step (zl1_ HB GE1) hb);have NB1_2:=am_ ((zn_ BK1 hg:gb1≠gb2));have NB2_1:=am_ ((zm_ BK1 hg:gb2≠gb1));replace BK1:=am_ (blk_below (zb_ BK1) hb);clear hb hbox hg;have hnb4:=NB1_2.out;have hnc4:=NB2_1.out;obtain ⟨hcz5_0,hcz5_1,hcz5_2,hcz5_3,hcz5_4,hcz5_5,hcz5_6,hcz5_7,hcz5_8,hcz5_9,hcz5_10,hcz5_11,hfz5_0,hfz5_1,hfz5_2,hfz5_3,hfz5_4,hfz5_5,hfz5_6,hfz5_7,hfz5_8,hfz5_9,hfz5_10,hfz5_11⟩:=y12_ BK1;obtain ⟨hcz6_0,hcz6_1,hcz6_2,hcz6_3,hcz6_4,hcz6_5⟩:=x6_ BK2;have hfz6_0:=blk_frozen BK2.out 0;have hfz6_1:=blk_frozen BK2.out 1;have hfz6_2:=blk_frozen BK2.out 2;have hfz6_3:=blk_frozen BK2.out 3;have hfz6_4:=blk_frozen BK2.out 4;have hfz6_5:=blk_frozen BK2.out 5))
 refine bodyPost_ret (results_cell_row rfl _ _ gb2 54 #[.string a0_0, .string a0_1, .int .i64 a0_2, .int .i64 a0_3, .int .i64 a0_4, .int .i64 a0_11] (0,0) _ rfl (zw_ BK2) Try.underlying54 rfl (by kernel_rfl)) rfl ?_
 exact ⟨by first|rfl|(simp [errW_none,errW_some]<;>rfl)|(simp [*,errW_none,errW_some]<;>rfl),zl2_ HB GE1 GE2⟩

mutual
def r16_Marks.j0:Nat→List (S54)→List (S31)→List (S54)→Int→Bool→Int→ByteArray→ByteArray→Int→Int→Int→Option ((List (S54)))
 |0,_,_,_,_,_,_,_,_,_,_,_=>none
 |k+1,x0,x1,x7,x8,x9,x2000,x2001,x2002,x2003,x2004,x2005=>r16_Marks.l0 k x0 x1 x7 x8 x9 0 x2000 x2001 x2002 x2003 x2004 x2005
def r16_Marks.l0:Nat→List (S54)→List (S31)→List (S54)→Int→Bool→Int→Int→ByteArray→ByteArray→Int→Int→Int→Option ((List (S54)))
 |0,_,_,_,_,_,_,_,_,_,_,_,_=>none
 |k+1,x0,x1,x7,x8,x9,x10,x2000,x2001,x2002,x2003,x2004,x2005=>if x10<(x0.length:Int) then (if x9=true then (r16_Marks.j2 k x0 x1 x7 x8 x9 x10 false x2000 x2001 x2002 x2003 x2004 x2005) else (if 0≤x10 then (r16_Marks.j2 k x0 x1 x7 x8 x9 x10 (!(Op.bytesLess (((rd_T54 x0 x10).f0).toList) x2001.toList)) x2000 x2001 x2002 x2003 x2004 x2005) else (none))) else (if x9=true then (some x7) else (if 0≤x8 then (if x8<(x1.length:Int) then ((r16_mark.f ((rd_T31 x1 x8).f0) ((rd_T31 x1 x8).f1) ((rd_T31 x1 x8).f2.f0) ((rd_T31 x1 x8).f2.f1) ((rd_T31 x1 x8).f2.f2) ((rd_T31 x1 x8).f3.f0) ((rd_T31 x1 x8).f3.f1) ((rd_T31 x1 x8).f3.f2) ((rd_T31 x1 x8).f4.f0) ((rd_T31 x1 x8).f4.f1) ((rd_T31 x1 x8).f4.f2) ((rd_T31 x1 x8).f5)).bind fun bt4=>(if x7.length<2199023255552 then (some (x7++ [(⟨bt4.1,bt4.2.1,(⟨bt4.2.2.1,bt4.2.2.2.1,bt4.2.2.2.2.1⟩:S27),bt4.2.2.2.2.2⟩:S54)])) else (none))) else (none)) else (none)))
def r16_Marks.j2:Nat→List (S54)→List (S31)→List (S54)→Int→Bool→Int→Bool→Int→ByteArray→ByteArray→Int→Int→Int→Option ((List (S54)))
 |0,_,_,_,_,_,_,_,_,_,_,_,_,_=>none
 |k+1,x0,x1,x7,x8,x9,x10,x39,x2000,x2001,x2002,x2003,x2004,x2005=>if x39=true then (if 0≤x8 then (if x8<(x1.length:Int) then ((r16_mark.f ((rd_T31 x1 x8).f0) ((rd_T31 x1 x8).f1) ((rd_T31 x1 x8).f2.f0) ((rd_T31 x1 x8).f2.f1) ((rd_T31 x1 x8).f2.f2) ((rd_T31 x1 x8).f3.f0) ((rd_T31 x1 x8).f3.f1) ((rd_T31 x1 x8).f3.f2) ((rd_T31 x1 x8).f4.f0) ((rd_T31 x1 x8).f4.f1) ((rd_T31 x1 x8).f4.f2) ((rd_T31 x1 x8).f5)).bind fun bt15=>(if x7.length<2199023255552 then ((some (x7++ [(⟨bt15.1,bt15.2.1,(⟨bt15.2.2.1,bt15.2.2.2.1,bt15.2.2.2.2.1⟩:S27),bt15.2.2.2.2.2⟩:S54)]:List (S54))).bind fun y21=>(if 0≤x10 then (if x10<(x0.length:Int) then (if ((rd_T54 x0 x10).f0).toList=x2001.toList then (r16_Marks.l0 k x0 x1 y21 x8 true (wrap64 (x10+1)) x2000 x2001 x2002 x2003 x2004 x2005) else (if y21.length<2199023255552 then (r16_Marks.l0 k x0 x1 (y21++ [(⟨(rd_T54 x0 x10).f0,(rd_T54 x0 x10).f1,(⟨(rd_T54 x0 x10).f2.f0,(rd_T54 x0 x10).f2.f1,(rd_T54 x0 x10).f2.f2⟩:S27),(rd_T54 x0 x10).f3⟩:S54)]) x8 true (wrap64 (x10+1)) x2000 x2001 x2002 x2003 x2004 x2005) else (none))) else (none)) else (none))) else (none))) else (none)) else (none)) else (if 0≤x10 then (if x10<(x0.length:Int) then (if ((rd_T54 x0 x10).f0).toList=x2001.toList then (r16_Marks.l0 k x0 x1 x7 x8 x9 (wrap64 (x10+1)) x2000 x2001 x2002 x2003 x2004 x2005) else (if x7.length<2199023255552 then (r16_Marks.l0 k x0 x1 (x7++ [(⟨(rd_T54 x0 x10).f0,(rd_T54 x0 x10).f1,(⟨(rd_T54 x0 x10).f2.f0,(rd_T54 x0 x10).f2.f1,(rd_T54 x0 x10).f2.f2⟩:S27),(rd_T54 x0 x10).f3⟩:S54)]) x8 x9 (wrap64 (x10+1)) x2000 x2001 x2002 x2003 x2004 x2005) else (none))) else (none)) else (none))
end
def r16_Marks.f (k:Nat) (l0:List (S54)) (l1:List (S31)) (a2_0:Int) (a2_1:ByteArray) (a2_2:ByteArray) (a2_3:Int) (a2_4:Int) (a2_5:Int):Option ((List (S54))):=(r10_Find.f k l1 a2_1).bind fun t2=>(if t2<0 then (r16_Marks.j0 k l0 l1 ([]:List (S54)) t2 true a2_0 a2_1 a2_2 a2_3 a2_4 a2_5) else (r16_Marks.j0 k l0 l1 ([]:List (S54)) t2 (a2_0==4) a2_0 a2_1 a2_2 a2_3 a2_4 a2_5))
theorem r16_Marks.mono_l: ∀k,(∀y0 y1 y2 y3 y4 y5 y6 y7 y8 y9 y10,LeO (r16_Marks.j0 k y0 y1 y2 y3 y4 y5 y6 y7 y8 y9 y10) (r16_Marks.j0 (k+1) y0 y1 y2 y3 y4 y5 y6 y7 y8 y9 y10))∧(∀y0 y1 y2 y3 y4 y5 y6 y7 y8 y9 y10 y11,LeO (r16_Marks.l0 k y0 y1 y2 y3 y4 y5 y6 y7 y8 y9 y10 y11) (r16_Marks.l0 (k+1) y0 y1 y2 y3 y4 y5 y6 y7 y8 y9 y10 y11))∧(∀y0 y1 y2 y3 y4 y5 y6 y7 y8 y9 y10 y11 y12,LeO (r16_Marks.j2 k y0 y1 y2 y3 y4 y5 y6 y7 y8 y9 y10 y11 y12) (r16_Marks.j2 (k+1) y0 y1 y2 y3 y4 y5 y6 y7 y8 y9 y10 y11 y12))
 |0=>⟨fun _ _ _ _ _ _ _ _ _ _ _ r h=>by simp [r16_Marks.j0] at h,fun _ _ _ _ _ _ _ _ _ _ _ _ r h=>by simp [r16_Marks.l0] at h,fun _ _ _ _ _ _ _ _ _ _ _ _ _ r h=>by simp [r16_Marks.j2] at h⟩
 |k+1=>by
  obtain ⟨ih0,ih1,ih2⟩:=r16_Marks.mono_l k
  refine ⟨?_, ?_, ?_⟩
  ·intro y0 y1 y2 y3 y4 y5 y6 y7 y8 y9 y10
   unfold r16_Marks.j0
   repeat' first
   |(with_reducible exact ih0 _ _ _ _ _ _ _ _ _ _ _)
   |(with_reducible exact ih1 _ _ _ _ _ _ _ _ _ _ _ _)
   |(with_reducible exact ih2 _ _ _ _ _ _ _ _ _ _ _ _ _)
   |(with_reducible exact r10_Find.mono _ _ _)
   |(with_reducible exact LeO.refl _)
   |(with_reducible exact LeO.none _)
   |(with_reducible refine LeO.ite ?_ ?_)
   |(with_reducible refine LeO.bind ?_ (fun _=> ?_))
   |exact ih0 _ _ _ _ _ _ _ _ _ _ _
   |exact ih1 _ _ _ _ _ _ _ _ _ _ _ _
   |exact ih2 _ _ _ _ _ _ _ _ _ _ _ _ _
   |exact r10_Find.mono _ _ _
   |exact LeO.none _
   |refine LeO.ite ?_ ?_
   |refine LeO.bind ?_ (fun _=> ?_)
  ·intro y0 y1 y2 y3 y4 y5 y6 y7 y8 y9 y10 y11
   unfold r16_Marks.l0
   repeat' first
   |(with_reducible exact ih0 _ _ _ _ _ _ _ _ _ _ _)
   |(with_reducible exact ih1 _ _ _ _ _ _ _ _ _ _ _ _)
   |(with_reducible exact ih2 _ _ _ _ _ _ _ _ _ _ _ _ _)
   |(with_reducible exact r10_Find.mono _ _ _)
   |(with_reducible exact LeO.refl _)
   |(with_reducible exact LeO.none _)
   |(with_reducible refine LeO.ite ?_ ?_)
   |(with_reducible refine LeO.bind ?_ (fun _=> ?_))
   |exact ih0 _ _ _ _ _ _ _ _ _ _ _
   |exact ih1 _ _ _ _ _ _ _ _ _ _ _ _
   |exact ih2 _ _ _ _ _ _ _ _ _ _ _ _ _
   |exact r10_Find.mono _ _ _
   |exact LeO.none _
   |refine LeO.ite ?_ ?_
   |refine LeO.bind ?_ (fun _=> ?_)
  intro y0 y1 y2 y3 y4 y5 y6 y7 y8 y9 y10 y11 y12
  unfold r16_Marks.j2
  repeat' first
  |(with_reducible exact ih0 _ _ _ _ _ _ _ _ _ _ _)
  |(with_reducible exact ih1 _ _ _ _ _ _ _ _ _ _ _ _)
  |(with_reducible exact ih2 _ _ _ _ _ _ _ _ _ _ _ _ _)
  |(with_reducible exact r10_Find.mono _ _ _)
  |(with_reducible exact LeO.refl _)
  |(with_reducible exact LeO.none _)
  |(with_reducible refine LeO.ite ?_ ?_)
  |(with_reducible refine LeO.bind ?_ (fun _=> ?_))
  |exact ih0 _ _ _ _ _ _ _ _ _ _ _
  |exact ih1 _ _ _ _ _ _ _ _ _ _ _ _
  |exact ih2 _ _ _ _ _ _ _ _ _ _ _ _ _
  |exact r10_Find.mono _ _ _
  |exact LeO.none _
  |refine LeO.ite ?_ ?_
  |refine LeO.bind ?_ (fun _=> ?_)
theorem r16_Marks.mono: ∀a0 a1 a2 a3 a4 a5 a6 a7 k,LeO (r16_Marks.f k a0 a1 a2 a3 a4 a5 a6 a7) (r16_Marks.f (k+1) a0 a1 a2 a3 a4 a5 a6 a7):=by
 intro a0 a1 a2 a3 a4 a5 a6 a7 k
 obtain ⟨ih0,ih1,ih2⟩:=r16_Marks.mono_l k
 unfold r16_Marks.f
 repeat' first
  |(with_reducible exact ih0 _ _ _ _ _ _ _ _ _ _ _)
  |(with_reducible exact ih1 _ _ _ _ _ _ _ _ _ _ _ _)
  |(with_reducible exact ih2 _ _ _ _ _ _ _ _ _ _ _ _ _)
  |(with_reducible exact r10_Find.mono _ _ _)
  |(with_reducible exact LeO.refl _)
  |(with_reducible exact LeO.none _)
  |(with_reducible refine LeO.ite ?_ ?_)
  |(with_reducible refine LeO.bind ?_ (fun _=> ?_))
  |exact ih0 _ _ _ _ _ _ _ _ _ _ _
  |exact ih1 _ _ _ _ _ _ _ _ _ _ _ _
  |exact ih2 _ _ _ _ _ _ _ _ _ _ _ _ _
  |exact r10_Find.mono _ _ _
  |exact LeO.none _
  |refine LeO.ite ?_ ?_
  |refine LeO.bind ?_ (fun _=> ?_)
set_option maxHeartbeats 8000000 in
set_option maxRecDepth 100000 in
theorem r16_Marks.calls (k:Nat) (A0:Option Addr) (c0:Nat) (l0:List (S54)) (A1:Option Addr) (c1:Nat) (l1:List (S31)) (a2_0:Int) (a2_1:ByteArray) (a2_2:ByteArray) (a2_3:Int) (a2_4:Int) (a2_5:Int) (r:List (S54)) (w:World) (hr0:Kd.C k54 w A0 l0.length l0) (hc0:l0.length≤c0) (hr1:Kd.C k31 w A1 l1.length l1) (hc1:l1.length≤c1) (h:r16_Marks.f k l0 l1 a2_0 a2_1 a2_2 a2_3 a2_4 a2_5=some r):
  Calls Try.prog 55 #[.slice A0 l0.length c0, .slice A1 l1.length c1, .agg #[.int .i64 a2_0, .string a2_1, .string a2_2, .int .i64 a2_3, .int .i64 a2_4, .int .i64 a2_5]] w fun e w'=> ∃v0_:Value,e= .returned (v0_)∧Kd.R k54 54 w' w.heap.size (fun _=>True) v0_ r∧Below w.heap.size w w':=by
 have hu58:=Try.underlying58
 have hu31:=Try.underlying31
 have hu54:=Try.underlying54
 have HR0:=Aside0.mk hr0
 have HC0:=Aside0.mk hc0
 clear hr0 hc0
 have HR1:=Aside0.mk hr1
 have HC1:=Aside0.mk hc1
 clear hr1 hc1
 have HB:=am_ (Below.refl w.heap.size w)
 have H:((r10_Find.f k l1 a2_1).bind fun t2=>(if t2<0 then (r16_Marks.j0 k l0 l1 ([]:List (S54)) t2 true a2_0 a2_1 a2_2 a2_3 a2_4 a2_5) else (r16_Marks.j0 k l0 l1 ([]:List (S54)) t2 (a2_0==4) a2_0 a2_1 a2_2 a2_3 a2_4 a2_5)))=some r:=h
 clear h
 replace H:=Option.bind_eq_some_iff.mp H
 obtain ⟨t2,A40,H⟩:=H
 try dsimp only at H
 have A4:=Aside0.mk A40
 clear A40
 have HC5:=Aside0.mk H
 clear H
 go_enter Try.func55,Try.ntmps55
 go_upto_region 3 with (first|((with_reducible refine gate_dst (N:=5) rfl ?_);refine bx_ (N:=5) (cs:=#[.int .i64 a2_0, .string a2_1, .string a2_2, .int .i64 a2_3, .int .i64 a2_4, .int .i64 a2_5]) (t:=58) ?_;intro gb1 hg w6 hbox hb;have BK1:=am_ (hbox);have GW1:=am_ ((zg0_ HB hg:w.heap.size≤gb1));have GE1:=am_ ((zg0_ HB hg:w.heap.size≤gb1));replace HB:=am_ (below_step (zl0_ HB) hb);clear hb hbox hg;obtain ⟨hcz7_0,hcz7_1,hcz7_2,hcz7_3,hcz7_4,hcz7_5⟩:=x6_ BK1;have hfz7_0:=blk_frozen BK1.out 0;have hfz7_1:=blk_frozen BK1.out 1;have hfz7_2:=blk_frozen BK1.out 2;have hfz7_3:=blk_frozen BK1.out 3;have hfz7_4:=blk_frozen BK1.out 4;have hfz7_5:=blk_frozen BK1.out 5)|(go_at_call 50;(with_reducible refine (r10_Find.calls k _ _ l1 a2_1 t2 _ ?side1 ?side2 A4.out).mono ?_);(case side1=>exact zc_ (Kd.C_below HR1.out HB.out));(case side2=>exact HC1.out);rintro e w' ⟨rfl,⟨nd,rfl⟩⟩;(try first|exact ⟨rfl,_,World.drewN_drewN _ _ _⟩|exact ⟨rfl,_,Eq.trans (World.drewN_drewN _ _ _) (congrArg (World.drewN _) (Nat.add_assoc _ _ _))⟩)))
 repeat (go_quiet (first|((with_reducible refine gate_dst (N:=5) rfl ?_);refine bx_ (N:=5) (cs:=#[.int .i64 a2_0, .string a2_1, .string a2_2, .int .i64 a2_3, .int .i64 a2_4, .int .i64 a2_5]) (t:=58) ?_;intro gb1 hg w6 hbox hb;have BK1:=am_ (hbox);have GW1:=am_ ((zg0_ HB hg:w.heap.size≤gb1));have GE1:=am_ ((zg0_ HB hg:w.heap.size≤gb1));replace HB:=am_ (below_step (zl0_ HB) hb);clear hb hbox hg;obtain ⟨hcz7_0,hcz7_1,hcz7_2,hcz7_3,hcz7_4,hcz7_5⟩:=x6_ BK1;have hfz7_0:=blk_frozen BK1.out 0;have hfz7_1:=blk_frozen BK1.out 1;have hfz7_2:=blk_frozen BK1.out 2;have hfz7_3:=blk_frozen BK1.out 3;have hfz7_4:=blk_frozen BK1.out 4;have hfz7_5:=blk_frozen BK1.out 5)|(go_at_call 50;(with_reducible refine (r10_Find.calls k _ _ l1 a2_1 t2 _ ?side1 ?side2 A4.out).mono ?_);(case side1=>exact zc_ (Kd.C_below HR1.out HB.out));(case side2=>exact HC1.out);rintro e w' ⟨rfl,⟨nd,rfl⟩⟩;(try first|exact ⟨rfl,_,World.drewN_drewN _ _ _⟩|exact ⟨rfl,_,Eq.trans (World.drewN_drewN _ _ _) (congrArg (World.drewN _) (Nat.add_assoc _ _ _))⟩)));go_upto_region 3 with (first|((with_reducible refine gate_dst (N:=5) rfl ?_);refine bx_ (N:=5) (cs:=#[.int .i64 a2_0, .string a2_1, .string a2_2, .int .i64 a2_3, .int .i64 a2_4, .int .i64 a2_5]) (t:=58) ?_;intro gb1 hg w6 hbox hb;have BK1:=am_ (hbox);have GW1:=am_ ((zg0_ HB hg:w.heap.size≤gb1));have GE1:=am_ ((zg0_ HB hg:w.heap.size≤gb1));replace HB:=am_ (below_step (zl0_ HB) hb);clear hb hbox hg;obtain ⟨hcz7_0,hcz7_1,hcz7_2,hcz7_3,hcz7_4,hcz7_5⟩:=x6_ BK1;have hfz7_0:=blk_frozen BK1.out 0;have hfz7_1:=blk_frozen BK1.out 1;have hfz7_2:=blk_frozen BK1.out 2;have hfz7_3:=blk_frozen BK1.out 3;have hfz7_4:=blk_frozen BK1.out 4;have hfz7_5:=blk_frozen BK1.out 5)|(go_at_call 50;(with_reducible refine (r10_Find.calls k _ _ l1 a2_1 t2 _ ?side1 ?side2 A4.out).mono ?_);(case side1=>exact zc_ (Kd.C_below HR1.out HB.out));(case side2=>exact HC1.out);rintro e w' ⟨rfl,⟨nd,rfl⟩⟩;(try first|exact ⟨rfl,_,World.drewN_drewN _ _ _⟩|exact ⟨rfl,_,Eq.trans (World.drewN_drewN _ _ _) (congrArg (World.drewN _) (Nat.add_assoc _ _ _))⟩))))
 (try simp only [Act.put,List.setIfInBounds_toArray,List.set_cons_zero,List.set_cons_succ])
 go_cut [9] (fun v9 wc=> ∃(kq:Nat) (x9_4:Bool),v9= .bool x9_4∧Aside0 (r16_Marks.j0 kq l0 l1 ([]:List (S54)) t2 x9_4 a2_0 a2_1 a2_2 a2_3 a2_4 a2_5=some r)∧Aside0 (kq≤k)∧Aside0 (Kd.R k54 54 wc w.heap.size (fun _=>True) (.slice none 0 0) ([]:List (S54)))∧Aside0 (wc.heap[gb1]?=some (.cells #[.int .i64 a2_0, .string a2_1, .string a2_2, .int .i64 a2_3, .int .i64 a2_4, .int .i64 a2_5] 58 (0,0)))∧Aside0 (Below w.heap.size w wc))
 case first=>
  have H:=HC5.out
  clear HC5
  by_cases c8:t2<0
  ·rw [if_pos c8] at H
   have c8b0:decide (t2<0)=true:=decide_eq_true c8
   clear c8
   (first|rw [c8b0]|(simp only [i64_w,i32_w];rw [c8b0])|skip)
   have H':=Aside0.mk H
   clear H
   go_wp2
   repeat (go_quiet (fail);try go_wp2)
   go_meet
   case rel=>exact ⟨_,(true),(by first|rfl|(simp;done)|(simp [*];done)),H',⟨by first|omega|exact Nat.le_refl _⟩,⟨by first|exact Kd.R_nil _ _ _ _ _|exact Kd.N_nil _ _ _ _ _|exact Kd.V_nil _ _ _ _ _|exact Kd.Q_nil _ _ _ _ _|exact Kd.S_nil _ _ _ _ _⟩,⟨by refine zk_ ?_;exact BK1.out⟩,⟨zl1_ HB GE1⟩⟩
  rw [if_neg c8] at H
  have c8b0:decide (t2<0)=false:=decide_eq_false c8
  clear c8
  (first|rw [c8b0]|(simp only [i64_w,i32_w];rw [c8b0])|skip)
  have H':=Aside0.mk H
  clear H
  obtain ⟨hcz9_0,hcz9_1,hcz9_2,hcz9_3,hcz9_4,hcz9_5,hfz9_0,hfz9_1,hfz9_2,hfz9_3,hfz9_4,hfz9_5⟩:=y6_ BK1
  go_wp2
  repeat (go_quiet (fail);try go_wp2)
  go_meet
  case rel=>exact ⟨_,((a2_0==4)),(by first|rfl|(simp;done)|(simp [*];done)),H',⟨by first|omega|exact Nat.le_refl _⟩,⟨by first|exact Kd.R_nil _ _ _ _ _|exact Kd.N_nil _ _ _ _ _|exact Kd.V_nil _ _ _ _ _|exact Kd.Q_nil _ _ _ _ _|exact Kd.S_nil _ _ _ _ _⟩,⟨by refine zk_ ?_;exact BK1.out⟩,⟨zl1_ HB GE1⟩⟩
 case rest=>
  clear HC5
  try clear c1
  try clear p2
  try clear c5
  try clear c8
  try clear c8b0
  try clear hcz7_0
  try clear hcz7_1
  try clear hcz7_2
  try clear hcz7_3
  try clear hcz7_4
  try clear hcz7_5
  try clear hcz9_0
  try clear hcz9_1
  try clear hcz9_2
  try clear hcz9_3
  try clear hcz9_4
  try clear hcz9_5
  try clear hfz7_0
  try clear hfz7_1
  try clear hfz7_2
  try clear hfz7_3
  try clear hfz7_4
  try clear hfz7_5
  try clear hfz9_0
  try clear hfz9_1
  try clear hfz9_2
  try clear hfz9_3
  try clear hfz9_4
  try clear hfz9_5
  obtain ⟨kq,x9_4,rfl,HA,HJ4,HO_7,BK1,HB⟩:=hcut
  cases kq with
  |zero=>exact absurd HA.out (by simp [r16_Marks.j0])
  |succ kj4=>
   have H:=HA.out
   clear HA
   simp only [r16_Marks.j0] at H
   have H':=Aside0.mk H
   clear H
   go_wp2
   repeat (go_quiet (fail);try go_wp2)
   go_loopg [7,9,10] kj4 (fun kq v7 v9 v10 w'=> ∃(x7_2:List (S54)) (x9_2:Bool) (x10_2:Int),v9= .bool x9_2∧v10= .int .i64 x10_2∧Aside0 (r16_Marks.l0 kq l0 l1 x7_2 t2 x9_2 x10_2 a2_0 a2_1 a2_2 a2_3 a2_4 a2_5=some r)∧Aside0 (kq≤kj4)∧Aside0 (Kd.R k54 54 w' w.heap.size (fun _=>True) v7 x7_2)∧Aside0 (w'.heap[gb1]?=some (.cells #[.int .i64 a2_0, .string a2_1, .string a2_2, .int .i64 a2_3, .int .i64 a2_4, .int .i64 a2_5] 58 (0,0)))∧Aside0 (Below w.heap.size w w'))
   case atStart=>exact ⟨(([]:List (S54))),(x9_4),(0),(by first|rfl|(simp;done)|(simp [*];done)),(by first|rfl|(simp;done)|(simp [*];done)),H',⟨Nat.le_refl _⟩,⟨by (with_reducible repeat (first|apply Kd.R_alloc|apply Kd.R_drewN|apply Kd.R_drew));exact HO_7.out⟩,⟨by refine zk_ ?_;exact BK1.out⟩,⟨zl1_ HB GE1⟩⟩
   case round=>
    clear H'
    try clear c1
    try clear p2
    try clear c5
    try clear c8
    try clear c8b0
    try clear hcz7_0
    try clear hcz7_1
    try clear hcz7_2
    try clear hcz7_3
    try clear hcz7_4
    try clear hcz7_5
    try clear hcz9_0
    try clear hcz9_1
    try clear hcz9_2
    try clear hcz9_3
    try clear hcz9_4
    try clear hcz9_5
    try clear hfz7_0
    try clear hfz7_1
    try clear hfz7_2
    try clear hfz7_3
    try clear hfz7_4
    try clear hfz7_5
    try clear hfz9_0
    try clear hfz9_1
    try clear hfz9_2
    try clear hfz9_3
    try clear hfz9_4
    try clear hfz9_5
    try clear p2
    obtain ⟨x7_2,x9_2,x10_2,rfl,rfl,HA,HK2,HO_7,BK1,HB⟩:=hrel
    cases gk with
    |zero=>exact absurd HA.out (by simp [r16_Marks.l0])
    |succ k2=>
     have H:=HA.out
     clear HA
     simp only [r16_Marks.l0] at H
     by_cases c10:x10_2<(l0.length:Int)
     rotate_left
     ·rw [if_neg c10] at H
      have c10b0:decide (x10_2<(l0.length:Int))=false:=decide_eq_false c10
      clear c10
      by_cases c38:x9_2=true
      ·subst c38
       have H1:(some x7_2)=some r:=by rw [if_pos rfl] at H;exact H
       clear H
       have H:=H1
       clear H1
       obtain rfl:=Option.some.inj H
       go_wp2
       repeat (go_quiet (fail);try go_wp2)
       go_ret
       exact ⟨_,by first|rfl|(simp [errW_none,errW_some]<;>rfl)|(simp [*,errW_none,errW_some]<;>rfl),by (with_reducible repeat (first|apply Kd.R_alloc|apply Kd.R_drewN|apply Kd.R_drew));exact HO_7.out,zl1_ HB GE1⟩
      replace c38:=Bool.eq_false_iff.mpr c38
      subst c38
      have H1:(if 0≤t2 then (if t2<(l1.length:Int) then ((r16_mark.f ((rd_T31 l1 t2).f0) ((rd_T31 l1 t2).f1) ((rd_T31 l1 t2).f2.f0) ((rd_T31 l1 t2).f2.f1) ((rd_T31 l1 t2).f2.f2) ((rd_T31 l1 t2).f3.f0) ((rd_T31 l1 t2).f3.f1) ((rd_T31 l1 t2).f3.f2) ((rd_T31 l1 t2).f4.f0) ((rd_T31 l1 t2).f4.f1) ((rd_T31 l1 t2).f4.f2) ((rd_T31 l1 t2).f5)).bind fun bt4=>(if x7_2.length<2199023255552 then (some (x7_2++ [(⟨bt4.1,bt4.2.1,(⟨bt4.2.2.1,bt4.2.2.2.1,bt4.2.2.2.2.1⟩:S27),bt4.2.2.2.2.2⟩:S54)])) else (none))) else (none)) else (none))=some r:=by rw [if_neg (show¬(false=true) by decide)] at H;exact H
      clear H
      have H:=H1
      clear H1
      by_cases c39:0≤t2
      rotate_left
      ·rw [if_neg c39] at H
       exact absurd H (by simp)

      rw [if_pos c39] at H
      have c39b0:decide (0≤t2)=true:=decide_eq_true c39
      clear c39
      by_cases c40:t2<(l1.length:Int)
      rotate_left
      ·rw [if_neg c40] at H
       exact absurd H (by simp)
      rw [if_pos c40] at H
      have c40b0:decide (t2<(l1.length:Int))=true:=decide_eq_true c40
      clear c40
      replace H:=Option.bind_eq_some_iff.mp H
      obtain ⟨⟨t4,t5,t6,t7,t8,t9⟩,A410,H⟩:=H
      try dsimp only at H
      have A41:=Aside0.mk A410
      clear A410
      by_cases c42:x7_2.length<2199023255552
      rotate_left
      ·rw [if_neg c42] at H
       exact absurd H (by simp)
      rw [if_pos c42] at H
      have LMc42:=Aside0.mk c42
      clear c42
      obtain ⟨y10,hy10⟩: ∃y_:List (S54),y_=(x7_2++ [(⟨t4,t5,(⟨t6,t7,t8⟩:S27),t9⟩:S54)]):=⟨_,rfl⟩
      replace H:(some y10)=some r:=by first|(rw [hy10];with_reducible exact H)|(have H2_:=(Option.bind_some _ _).symm.trans H;rw [hy10];with_reducible exact H2_)|(have H2_:=(Option.bind_some _ _).symm.trans H;with_reducible exact H2_)|with_reducible exact H|(rw [hy10];exact H)|exact H
      have Ny10:=Aside0.mk hy10
      clear hy10
      obtain rfl:=Option.some.inj H
      have p3:0≤(t2:Int):=of_decide_eq_true zq_
      have q3:t2<(l1.length:Int):=of_decide_eq_true zq_
      obtain ⟨ad3,e3,hx3_0,hx3_1,hx3_2,hx3_3,hx3_4,hx3_5,hx3_6,hx3_7,hx3_8,hx3_9,hx3_10,hx3_11⟩:=at_T31 HR1.out t2 p3 q3
      cases e3
      replace hx3_0:=zx_ HB hx3_0
      replace hx3_1:=zx_ HB hx3_1
      replace hx3_2:=zx_ HB hx3_2
      replace hx3_3:=zx_ HB hx3_3
      replace hx3_4:=zx_ HB hx3_4
      replace hx3_5:=zx_ HB hx3_5
      replace hx3_6:=zx_ HB hx3_6
      replace hx3_7:=zx_ HB hx3_7
      replace hx3_8:=zx_ HB hx3_8
      replace hx3_9:=zx_ HB hx3_9
      replace hx3_10:=zx_ HB hx3_10
      replace hx3_11:=zx_ HB hx3_11
      replace p3:=eq_true p3
      replace q3:=eq_true q3
      go_wp2_with (first|(go_at_call 109;(with_reducible refine (r16_mark.calls ((rd_T31 l1 t2).f0) ((rd_T31 l1 t2).f1) ((rd_T31 l1 t2).f2.f0) ((rd_T31 l1 t2).f2.f1) ((rd_T31 l1 t2).f2.f2) ((rd_T31 l1 t2).f3.f0) ((rd_T31 l1 t2).f3.f1) ((rd_T31 l1 t2).f3.f2) ((rd_T31 l1 t2).f4.f0) ((rd_T31 l1 t2).f4.f1) ((rd_T31 l1 t2).f4.f2) ((rd_T31 l1 t2).f5) t4 t5 t6 t7 t8 t9 _ A41.out).mono ?_);rintro e w43 ⟨rfl,hb⟩;replace HO_7:=am_ (Kd.R_below (zr_ HO_7) hb);replace BK1:=am_ (blk_below (zb_ BK1) hb);replace HB:=am_ (below_step (zl1_ HB GE1) hb);(try clear hb);(try clear hb2);(try clear hk);(try clear hi))|((with_reducible refine gate_builtin (b:= .append) (xs:=#[.tmp 65, .tmp 71]) rfl ?_);at_builtin;refine Kd.R_append k54 (w0:=w) w.heap.size rfl (.tmp 65) (.tmp 71) 35 54 (.agg #[(.string ⟨#[]⟩),(.string ⟨#[]⟩),(.int .i64 0),(.int .i64 0),(.int .i64 0),(.int .i64 0)]) 64 rfl Try.underlying35 info54 rfl (by decide) (by omega) u7 x7_2 (⟨t4,t5,(⟨t6,t7,t8⟩:S27),t9⟩:S54) [.string t4, .string t5, .int .i64 t6, .int .i64 t7, .int .i64 t8, .int .i64 t9] (fun _=>True) (fun _=>False) rfl rfl ?aP (fun _ hk=>hk.elim) ?aF ?aO ?aB ?aS ?aL ?_;(case aP=>exact k54_mkM _ _ _ (⟨t4,t5,(⟨t6,t7,t8⟩:S27),t9⟩:S54));(case aB=>exact (zl1_ HB GE1));(case aF=>exact (fun _ _=>trivial));(case aO=>exact (zr_ HO_7));(case aS=>exact (below_size (zl1_ HB GE1)));(case aL=>have:=LMc42.out;omega);intro v11 w44 ho hb hg hat;rw [←Ny10.out] at ho;have n0_:=am_ (blk_grown (zb_ BK1) hg (Kd.R_ne HO_7.out BK1.out (by decide)));have n1_:=am_ (hb);have n2_:=am_ (ho);clear BK1;clear HB;clear HO_7;have BK1:=n0_;have HB:=n1_;have HO12:=n2_;clear n0_ n1_ n2_;clear ho hb hg hat))
      repeat (go_quiet (first|(go_at_call 109;(with_reducible refine (r16_mark.calls ((rd_T31 l1 t2).f0) ((rd_T31 l1 t2).f1) ((rd_T31 l1 t2).f2.f0) ((rd_T31 l1 t2).f2.f1) ((rd_T31 l1 t2).f2.f2) ((rd_T31 l1 t2).f3.f0) ((rd_T31 l1 t2).f3.f1) ((rd_T31 l1 t2).f3.f2) ((rd_T31 l1 t2).f4.f0) ((rd_T31 l1 t2).f4.f1) ((rd_T31 l1 t2).f4.f2) ((rd_T31 l1 t2).f5) t4 t5 t6 t7 t8 t9 _ A41.out).mono ?_);rintro e w43 ⟨rfl,hb⟩;replace HO_7:=am_ (Kd.R_below (zr_ HO_7) hb);replace BK1:=am_ (blk_below (zb_ BK1) hb);replace HB:=am_ (below_step (zl1_ HB GE1) hb);(try clear hb);(try clear hb2);(try clear hk);(try clear hi))|((with_reducible refine gate_builtin (b:= .append) (xs:=#[.tmp 65, .tmp 71]) rfl ?_);at_builtin;refine Kd.R_append k54 (w0:=w) w.heap.size rfl (.tmp 65) (.tmp 71) 35 54 (.agg #[(.string ⟨#[]⟩),(.string ⟨#[]⟩),(.int .i64 0),(.int .i64 0),(.int .i64 0),(.int .i64 0)]) 64 rfl Try.underlying35 info54 rfl (by decide) (by omega) u7 x7_2 (⟨t4,t5,(⟨t6,t7,t8⟩:S27),t9⟩:S54) [.string t4, .string t5, .int .i64 t6, .int .i64 t7, .int .i64 t8, .int .i64 t9] (fun _=>True) (fun _=>False) rfl rfl ?aP (fun _ hk=>hk.elim) ?aF ?aO ?aB ?aS ?aL ?_;(case aP=>exact k54_mkM _ _ _ (⟨t4,t5,(⟨t6,t7,t8⟩:S27),t9⟩:S54));(case aB=>exact (zl1_ HB GE1));(case aF=>exact (fun _ _=>trivial));(case aO=>exact (zr_ HO_7));(case aS=>exact (below_size (zl1_ HB GE1)));(case aL=>have:=LMc42.out;omega);intro v11 w44 ho hb hg hat;rw [←Ny10.out] at ho;have n0_:=am_ (blk_grown (zb_ BK1) hg (Kd.R_ne HO_7.out BK1.out (by decide)));have n1_:=am_ (hb);have n2_:=am_ (ho);clear BK1;clear HB;clear HO_7;have BK1:=n0_;have HB:=n1_;have HO12:=n2_;clear n0_ n1_ n2_;clear ho hb hg hat));try go_wp2_with (first|(go_at_call 109;(with_reducible refine (r16_mark.calls ((rd_T31 l1 t2).f0) ((rd_T31 l1 t2).f1) ((rd_T31 l1 t2).f2.f0) ((rd_T31 l1 t2).f2.f1) ((rd_T31 l1 t2).f2.f2) ((rd_T31 l1 t2).f3.f0) ((rd_T31 l1 t2).f3.f1) ((rd_T31 l1 t2).f3.f2) ((rd_T31 l1 t2).f4.f0) ((rd_T31 l1 t2).f4.f1) ((rd_T31 l1 t2).f4.f2) ((rd_T31 l1 t2).f5) t4 t5 t6 t7 t8 t9 _ A41.out).mono ?_);rintro e w43 ⟨rfl,hb⟩;replace HO_7:=am_ (Kd.R_below (zr_ HO_7) hb);replace BK1:=am_ (blk_below (zb_ BK1) hb);replace HB:=am_ (below_step (zl1_ HB GE1) hb);(try clear hb);(try clear hb2);(try clear hk);(try clear hi))|((with_reducible refine gate_builtin (b:= .append) (xs:=#[.tmp 65, .tmp 71]) rfl ?_);at_builtin;refine Kd.R_append k54 (w0:=w) w.heap.size rfl (.tmp 65) (.tmp 71) 35 54 (.agg #[(.string ⟨#[]⟩),(.string ⟨#[]⟩),(.int .i64 0),(.int .i64 0),(.int .i64 0),(.int .i64 0)]) 64 rfl Try.underlying35 info54 rfl (by decide) (by omega) u7 x7_2 (⟨t4,t5,(⟨t6,t7,t8⟩:S27),t9⟩:S54) [.string t4, .string t5, .int .i64 t6, .int .i64 t7, .int .i64 t8, .int .i64 t9] (fun _=>True) (fun _=>False) rfl rfl ?aP (fun _ hk=>hk.elim) ?aF ?aO ?aB ?aS ?aL ?_;(case aP=>exact k54_mkM _ _ _ (⟨t4,t5,(⟨t6,t7,t8⟩:S27),t9⟩:S54));(case aB=>exact (zl1_ HB GE1));(case aF=>exact (fun _ _=>trivial));(case aO=>exact (zr_ HO_7));(case aS=>exact (below_size (zl1_ HB GE1)));(case aL=>have:=LMc42.out;omega);intro v11 w44 ho hb hg hat;rw [←Ny10.out] at ho;have n0_:=am_ (blk_grown (zb_ BK1) hg (Kd.R_ne HO_7.out BK1.out (by decide)));have n1_:=am_ (hb);have n2_:=am_ (ho);clear BK1;clear HB;clear HO_7;have BK1:=n0_;have HB:=n1_;have HO12:=n2_;clear n0_ n1_ n2_;clear ho hb hg hat)))
      go_ret
      exact ⟨_,by first|rfl|(simp [errW_none,errW_some]<;>rfl)|(simp [*,errW_none,errW_some]<;>rfl),by (with_reducible repeat (first|apply Kd.R_alloc|apply Kd.R_drewN|apply Kd.R_drew));exact HO12.out,zl1_ HB GE1⟩
     rw [if_pos c10] at H
     have c10b0:decide (x10_2<(l0.length:Int))=true:=decide_eq_true c10
     clear c10
     have HC11:=Aside0.mk H
     clear H
     go_upto_region 7 with (fail)
     repeat (go_quiet (fail);go_upto_region 7 with (fail))
     go_cut [39] (fun v39 wc=> ∃(kq:Nat) (x39_10:Bool),v39= .bool x39_10∧Aside0 (r16_Marks.j2 kq l0 l1 x7_2 t2 x9_2 x10_2 x39_10 a2_0 a2_1 a2_2 a2_3 a2_4 a2_5=some r)∧Aside0 (kq≤k2)∧Aside0 (Kd.R k54 54 wc w.heap.size (fun _=>True) u7 x7_2)∧Aside0 (wc.heap[gb1]?=some (.cells #[.int .i64 a2_0, .string a2_1, .string a2_2, .int .i64 a2_3, .int .i64 a2_4, .int .i64 a2_5] 58 (0,0)))∧Aside0 (Below w.heap.size w wc))
     case first=>
      have H:=HC11.out
      clear HC11
      by_cases c12:x9_2=true
      ·subst c12
       have H1:(r16_Marks.j2 k2 l0 l1 x7_2 t2 true x10_2 false a2_0 a2_1 a2_2 a2_3 a2_4 a2_5)=some r:=by rw [if_pos rfl] at H;exact H
       clear H
       have H:=H1
       clear H1
       have H':=Aside0.mk H
       clear H
       go_wp2
       repeat (go_quiet (fail);try go_wp2)
       go_meet
       case rel=>exact ⟨_,(false),(by first|rfl|(simp;done)|(simp [*];done)),H',⟨by have:=HJ4.out;have:=HK2.out;first|omega|exact Nat.le_refl _⟩,⟨by (with_reducible repeat (first|apply Kd.R_alloc|apply Kd.R_drewN|apply Kd.R_drew));exact HO_7.out⟩,⟨by refine zk_ ?_;exact BK1.out⟩,⟨zl1_ HB GE1⟩⟩
      replace c12:=Bool.eq_false_iff.mpr c12
      subst c12
      have H1:(if 0≤x10_2 then (r16_Marks.j2 k2 l0 l1 x7_2 t2 false x10_2 (!(Op.bytesLess (((rd_T54 l0 x10_2).f0).toList) a2_1.toList)) a2_0 a2_1 a2_2 a2_3 a2_4 a2_5) else (none))=some r:=by rw [if_neg (show¬(false=true) by decide)] at H;exact H
      clear H
      have H:=H1
      clear H1
      by_cases c13:0≤x10_2
      rotate_left
      ·rw [if_neg c13] at H
       exact absurd H (by simp)
      rw [if_pos c13] at H
      have c13b0:decide (0≤x10_2)=true:=decide_eq_true c13
      clear c13
      (first|rw [c13b0]|(simp only [i64_w,i32_w];rw [c13b0])|skip)
      have H':=Aside0.mk H
      clear H
      have p13:0≤(x10_2:Int):=of_decide_eq_true zq_
      have q13:x10_2<(l0.length:Int):=of_decide_eq_true zq_
      obtain ⟨ad13,e13,hx13_0,hx13_1,hx13_2,hx13_3,hx13_4,hx13_5⟩:=at_T54 HR0.out x10_2 p13 q13
      cases e13
      replace hx13_0:=zx_ HB hx13_0
      replace hx13_1:=zx_ HB hx13_1
      replace hx13_2:=zx_ HB hx13_2
      replace hx13_3:=zx_ HB hx13_3
      replace hx13_4:=zx_ HB hx13_4
      replace hx13_5:=zx_ HB hx13_5
      replace p13:=eq_true p13
      replace q13:=eq_true q13
      obtain ⟨hcz14_0,hcz14_1,hcz14_2,hcz14_3,hcz14_4,hcz14_5,hfz14_0,hfz14_1,hfz14_2,hfz14_3,hfz14_4,hfz14_5⟩:=y6_ BK1
      go_wp2
      repeat (go_quiet (fail);try go_wp2)
      go_meet
      case rel=>exact ⟨_,(!(Op.bytesLess (((rd_T54 l0 x10_2).f0).toList) a2_1.toList)),(by first|rfl|(simp;done)|(simp [*];done)),H',⟨by have:=HJ4.out;have:=HK2.out;first|omega|exact Nat.le_refl _⟩,⟨by (with_reducible repeat (first|apply Kd.R_alloc|apply Kd.R_drewN|apply Kd.R_drew));exact HO_7.out⟩,⟨by refine zk_ ?_;exact BK1.out⟩,⟨zl1_ HB GE1⟩⟩
     case rest=>
      clear HC11
      try clear c1
      try clear p1
      try clear q1
      try clear hx1
      try clear p2
      try clear c5
      try clear c8
      try clear c8b0
      try clear c10
      try clear c10b0
      try clear c12
      try clear c13
      try clear c13b0
      try clear p13
      try clear q13
      try clear hx13
      try clear hcz14_0
      try clear hcz14_1
      try clear hcz14_2
      try clear hcz14_3
      try clear hcz14_4
      try clear hcz14_5
      try clear hcz7_0
      try clear hcz7_1
      try clear hcz7_2
      try clear hcz7_3
      try clear hcz7_4
      try clear hcz7_5
      try clear hcz9_0
      try clear hcz9_1
      try clear hcz9_2
      try clear hcz9_3
      try clear hcz9_4
      try clear hcz9_5
      try clear hfz14_0
      try clear hfz14_1
      try clear hfz14_2
      try clear hfz14_3
      try clear hfz14_4
      try clear hfz14_5
      try clear hfz7_0
      try clear hfz7_1
      try clear hfz7_2
      try clear hfz7_3
      try clear hfz7_4
      try clear hfz7_5
      try clear hfz9_0
      try clear hfz9_1
      try clear hfz9_2
      try clear hfz9_3
      try clear hfz9_4
      try clear hfz9_5
      try clear hx13_0
      try clear hx13_1
      try clear hx13_2
      try clear hx13_3
      try clear hx13_4
      try clear hx13_5
      try clear p13
      try clear p2
      try clear q13
      obtain ⟨kq,x39_10,rfl,HA,HJ10,HO_7,BK1,HB⟩:=hcut
      cases kq with
      |zero=>exact absurd HA.out (by simp [r16_Marks.j2])
      |succ kj10=>
       have H:=HA.out
       clear HA
       simp only [r16_Marks.j2] at H
       by_cases c15:x39_10=true
       rotate_left
       ·replace c15:=Bool.eq_false_iff.mpr c15
        subst c15
        have H1:(if 0≤x10_2 then (if x10_2<(l0.length:Int) then (if ((rd_T54 l0 x10_2).f0).toList=a2_1.toList then (r16_Marks.l0 kj10 l0 l1 x7_2 t2 x9_2 (wrap64 (x10_2+1)) a2_0 a2_1 a2_2 a2_3 a2_4 a2_5) else (if x7_2.length<2199023255552 then (r16_Marks.l0 kj10 l0 l1 (x7_2++ [(⟨(rd_T54 l0 x10_2).f0,(rd_T54 l0 x10_2).f1,(⟨(rd_T54 l0 x10_2).f2.f0,(rd_T54 l0 x10_2).f2.f1,(rd_T54 l0 x10_2).f2.f2⟩:S27),(rd_T54 l0 x10_2).f3⟩:S54)]) t2 x9_2 (wrap64 (x10_2+1)) a2_0 a2_1 a2_2 a2_3 a2_4 a2_5) else (none))) else (none)) else (none))=some r:=by rw [if_neg (show¬(false=true) by decide)] at H;exact H
        clear H
        have H:=H1
        clear H1
        by_cases c31:0≤x10_2
        rotate_left
        ·rw [if_neg c31] at H
         exact absurd H (by simp)
        rw [if_pos c31] at H
        have c31b0:decide (0≤x10_2)=true:=decide_eq_true c31
        clear c31
        by_cases c32:x10_2<(l0.length:Int)
        rotate_left
        ·rw [if_neg c32] at H
         exact absurd H (by simp)
        rw [if_pos c32] at H
        have c32b0:decide (x10_2<(l0.length:Int))=true:=decide_eq_true c32
        clear c32
        by_cases c33:((rd_T54 l0 x10_2).f0).toList=a2_1.toList
        ·rw [if_pos c33] at H
         have c33b0:(((rd_T54 l0 x10_2).f0).toList==a2_1.toList)=true:=beq_iff_eq.mpr c33
         have c33b1:(((rd_T54 l0 x10_2).f0).toList !=a2_1.toList)=false:=bne_eq_false_iff_eq.mpr c33
         clear c33
         have H':=Aside0.mk H
         clear H
         have p29:0≤(x10_2:Int):=of_decide_eq_true zq_
         have q29:x10_2<(l0.length:Int):=of_decide_eq_true zq_
         obtain ⟨ad29,e29,hx29_0,hx29_1,hx29_2,hx29_3,hx29_4,hx29_5⟩:=at_T54 HR0.out x10_2 p29 q29
         cases e29
         replace hx29_0:=zx_ HB hx29_0
         replace hx29_1:=zx_ HB hx29_1
         replace hx29_2:=zx_ HB hx29_2
         replace hx29_3:=zx_ HB hx29_3
         replace hx29_4:=zx_ HB hx29_4
         replace hx29_5:=zx_ HB hx29_5
         replace p29:=eq_true p29
         replace q29:=eq_true q29
         obtain ⟨hcz34_0,hcz34_1,hcz34_2,hcz34_3,hcz34_4,hcz34_5,hfz34_0,hfz34_1,hfz34_2,hfz34_3,hfz34_4,hfz34_5⟩:=y6_ BK1
         go_wp2
         repeat (go_quiet (fail);try go_wp2)
         go_roundg kj10
         case measure=>have:=HJ4.out;have:=HK2.out;have:=HJ10.out;omega
         case rel=>exact ⟨(x7_2),(x9_2),(wrap64 (x10_2+1)),(by first|rfl|(simp;done)|(simp [*];done)),(by first|rfl|(simp;done)|(simp [*];done)),H',⟨by have:=HJ4.out;have:=HK2.out;have:=HJ10.out;omega⟩,⟨by (with_reducible repeat (first|apply Kd.R_alloc|apply Kd.R_drewN|apply Kd.R_drew));exact HO_7.out⟩,⟨by refine zk_ ?_;exact BK1.out⟩,⟨zl1_ HB GE1⟩⟩
        rw [if_neg c33] at H
        have c33b0:(((rd_T54 l0 x10_2).f0).toList==a2_1.toList)=false:=beq_eq_false_iff_ne.mpr c33
        have c33b1:(((rd_T54 l0 x10_2).f0).toList !=a2_1.toList)=true:=bne_iff_ne.mpr c33
        by_cases c35:x7_2.length<2199023255552
        rotate_left
        ·rw [if_neg c35] at H
         exact absurd H (by simp)
        rw [if_pos c35] at H
        have LMc35:=Aside0.mk c35
        clear c35
        obtain ⟨y31,hy31⟩: ∃y_:List (S54),y_=(x7_2++ [(⟨(rd_T54 l0 x10_2).f0,(rd_T54 l0 x10_2).f1,(⟨(rd_T54 l0 x10_2).f2.f0,(rd_T54 l0 x10_2).f2.f1,(rd_T54 l0 x10_2).f2.f2⟩:S27),(rd_T54 l0 x10_2).f3⟩:S54)]):=⟨_,rfl⟩
        replace H:(r16_Marks.l0 kj10 l0 l1 y31 t2 x9_2 (wrap64 (x10_2+1)) a2_0 a2_1 a2_2 a2_3 a2_4 a2_5)=some r:=by first|(rw [hy31];with_reducible exact H)|(have H2_:=(Option.bind_some _ _).symm.trans H;rw [hy31];with_reducible exact H2_)|(have H2_:=(Option.bind_some _ _).symm.trans H;with_reducible exact H2_)|with_reducible exact H|(rw [hy31];exact H)|exact H
        have Ny31:=Aside0.mk hy31
        clear hy31
        have H':=Aside0.mk H
        clear H
        have p29:0≤(x10_2:Int):=of_decide_eq_true zq_
        have q29:x10_2<(l0.length:Int):=of_decide_eq_true zq_
        obtain ⟨ad29,e29,hx29_0,hx29_1,hx29_2,hx29_3,hx29_4,hx29_5⟩:=at_T54 HR0.out x10_2 p29 q29
        cases e29
        replace hx29_0:=zx_ HB hx29_0
        replace hx29_1:=zx_ HB hx29_1
        replace hx29_2:=zx_ HB hx29_2
        replace hx29_3:=zx_ HB hx29_3
        replace hx29_4:=zx_ HB hx29_4
        replace hx29_5:=zx_ HB hx29_5
        replace p29:=eq_true p29
        replace q29:=eq_true q29
        obtain ⟨hcz36_0,hcz36_1,hcz36_2,hcz36_3,hcz36_4,hcz36_5,hfz36_0,hfz36_1,hfz36_2,hfz36_3,hfz36_4,hfz36_5⟩:=y6_ BK1
        have p30:0≤(x10_2:Int):=of_decide_eq_true zq_
        have q30:x10_2<(l0.length:Int):=of_decide_eq_true zq_
        obtain ⟨ad30,e30,hx30_0,hx30_1,hx30_2,hx30_3,hx30_4,hx30_5⟩:=at_T54 HR0.out x10_2 p30 q30
        obtain rfl:ad29=ad30:=(by injection e30)
        replace hx30_0:=zx_ HB hx30_0
        replace hx30_1:=zx_ HB hx30_1
        replace hx30_2:=zx_ HB hx30_2
        replace hx30_3:=zx_ HB hx30_3
        replace hx30_4:=zx_ HB hx30_4
        replace hx30_5:=zx_ HB hx30_5
        replace p30:=eq_true p30
        replace q30:=eq_true q30
        go_wp2_with (first|((with_reducible refine gate_builtin (b:= .append) (xs:=#[.tmp 56, .tmp 61]) rfl ?_);at_builtin;refine Kd.R_append k54 (w0:=w) w.heap.size rfl (.tmp 56) (.tmp 61) 35 54 (.agg #[(.string ⟨#[]⟩),(.string ⟨#[]⟩),(.int .i64 0),(.int .i64 0),(.int .i64 0),(.int .i64 0)]) 64 rfl Try.underlying35 info54 rfl (by decide) (by omega) u7 x7_2 (⟨(rd_T54 l0 x10_2).f0,(rd_T54 l0 x10_2).f1,(⟨(rd_T54 l0 x10_2).f2.f0,(rd_T54 l0 x10_2).f2.f1,(rd_T54 l0 x10_2).f2.f2⟩:S27),(rd_T54 l0 x10_2).f3⟩:S54) [.string ((rd_T54 l0 x10_2).f0), .string ((rd_T54 l0 x10_2).f1), .int .i64 ((rd_T54 l0 x10_2).f2.f0), .int .i64 ((rd_T54 l0 x10_2).f2.f1), .int .i64 ((rd_T54 l0 x10_2).f2.f2), .int .i64 ((rd_T54 l0 x10_2).f3)] (fun _=>True) (fun _=>False) rfl rfl ?aP (fun _ hk=>hk.elim) ?aF ?aO ?aB ?aS ?aL ?_;(case aP=>exact k54_mkM _ _ _ (⟨(rd_T54 l0 x10_2).f0,(rd_T54 l0 x10_2).f1,(⟨(rd_T54 l0 x10_2).f2.f0,(rd_T54 l0 x10_2).f2.f1,(rd_T54 l0 x10_2).f2.f2⟩:S27),(rd_T54 l0 x10_2).f3⟩:S54));(case aB=>exact (zl1_ HB GE1));(case aF=>exact (fun _ _=>trivial));(case aO=>exact (zr_ HO_7));(case aS=>exact (below_size (zl1_ HB GE1)));(case aL=>have:=LMc35.out;omega);intro v32 w37 ho hb hg hat;rw [←Ny31.out] at ho;have n0_:=am_ (blk_grown (zb_ BK1) hg (Kd.R_ne HO_7.out BK1.out (by decide)));have n1_:=am_ (hb);have n2_:=am_ (ho);clear BK1;clear HB;clear HO_7;have BK1:=n0_;have HB:=n1_;have HO33:=n2_;clear n0_ n1_ n2_;clear ho hb hg hat))
        repeat (go_quiet (first|((with_reducible refine gate_builtin (b:= .append) (xs:=#[.tmp 56, .tmp 61]) rfl ?_);at_builtin;refine Kd.R_append k54 (w0:=w) w.heap.size rfl (.tmp 56) (.tmp 61) 35 54 (.agg #[(.string ⟨#[]⟩),(.string ⟨#[]⟩),(.int .i64 0),(.int .i64 0),(.int .i64 0),(.int .i64 0)]) 64 rfl Try.underlying35 info54 rfl (by decide) (by omega) u7 x7_2 (⟨(rd_T54 l0 x10_2).f0,(rd_T54 l0 x10_2).f1,(⟨(rd_T54 l0 x10_2).f2.f0,(rd_T54 l0 x10_2).f2.f1,(rd_T54 l0 x10_2).f2.f2⟩:S27),(rd_T54 l0 x10_2).f3⟩:S54) [.string ((rd_T54 l0 x10_2).f0), .string ((rd_T54 l0 x10_2).f1), .int .i64 ((rd_T54 l0 x10_2).f2.f0), .int .i64 ((rd_T54 l0 x10_2).f2.f1), .int .i64 ((rd_T54 l0 x10_2).f2.f2), .int .i64 ((rd_T54 l0 x10_2).f3)] (fun _=>True) (fun _=>False) rfl rfl ?aP (fun _ hk=>hk.elim) ?aF ?aO ?aB ?aS ?aL ?_;(case aP=>exact k54_mkM _ _ _ (⟨(rd_T54 l0 x10_2).f0,(rd_T54 l0 x10_2).f1,(⟨(rd_T54 l0 x10_2).f2.f0,(rd_T54 l0 x10_2).f2.f1,(rd_T54 l0 x10_2).f2.f2⟩:S27),(rd_T54 l0 x10_2).f3⟩:S54));(case aB=>exact (zl1_ HB GE1));(case aF=>exact (fun _ _=>trivial));(case aO=>exact (zr_ HO_7));(case aS=>exact (below_size (zl1_ HB GE1)));(case aL=>have:=LMc35.out;omega);intro v32 w37 ho hb hg hat;rw [←Ny31.out] at ho;have n0_:=am_ (blk_grown (zb_ BK1) hg (Kd.R_ne HO_7.out BK1.out (by decide)));have n1_:=am_ (hb);have n2_:=am_ (ho);clear BK1;clear HB;clear HO_7;have BK1:=n0_;have HB:=n1_;have HO33:=n2_;clear n0_ n1_ n2_;clear ho hb hg hat));try go_wp2_with (first|((with_reducible refine gate_builtin (b:= .append) (xs:=#[.tmp 56, .tmp 61]) rfl ?_);at_builtin;refine Kd.R_append k54 (w0:=w) w.heap.size rfl (.tmp 56) (.tmp 61) 35 54 (.agg #[(.string ⟨#[]⟩),(.string ⟨#[]⟩),(.int .i64 0),(.int .i64 0),(.int .i64 0),(.int .i64 0)]) 64 rfl Try.underlying35 info54 rfl (by decide) (by omega) u7 x7_2 (⟨(rd_T54 l0 x10_2).f0,(rd_T54 l0 x10_2).f1,(⟨(rd_T54 l0 x10_2).f2.f0,(rd_T54 l0 x10_2).f2.f1,(rd_T54 l0 x10_2).f2.f2⟩:S27),(rd_T54 l0 x10_2).f3⟩:S54) [.string ((rd_T54 l0 x10_2).f0), .string ((rd_T54 l0 x10_2).f1), .int .i64 ((rd_T54 l0 x10_2).f2.f0), .int .i64 ((rd_T54 l0 x10_2).f2.f1), .int .i64 ((rd_T54 l0 x10_2).f2.f2), .int .i64 ((rd_T54 l0 x10_2).f3)] (fun _=>True) (fun _=>False) rfl rfl ?aP (fun _ hk=>hk.elim) ?aF ?aO ?aB ?aS ?aL ?_;(case aP=>exact k54_mkM _ _ _ (⟨(rd_T54 l0 x10_2).f0,(rd_T54 l0 x10_2).f1,(⟨(rd_T54 l0 x10_2).f2.f0,(rd_T54 l0 x10_2).f2.f1,(rd_T54 l0 x10_2).f2.f2⟩:S27),(rd_T54 l0 x10_2).f3⟩:S54));(case aB=>exact (zl1_ HB GE1));(case aF=>exact (fun _ _=>trivial));(case aO=>exact (zr_ HO_7));(case aS=>exact (below_size (zl1_ HB GE1)));(case aL=>have:=LMc35.out;omega);intro v32 w37 ho hb hg hat;rw [←Ny31.out] at ho;have n0_:=am_ (blk_grown (zb_ BK1) hg (Kd.R_ne HO_7.out BK1.out (by decide)));have n1_:=am_ (hb);have n2_:=am_ (ho);clear BK1;clear HB;clear HO_7;have BK1:=n0_;have HB:=n1_;have HO33:=n2_;clear n0_ n1_ n2_;clear ho hb hg hat)))
        go_roundg kj10
        case measure=>have:=HJ4.out;have:=HK2.out;have:=HJ10.out;omega
        case rel=>exact ⟨(y31),(x9_2),(wrap64 (x10_2+1)),(by first|rfl|(simp;done)|(simp [*];done)),(by first|rfl|(simp;done)|(simp [*];done)),H',⟨by have:=HJ4.out;have:=HK2.out;have:=HJ10.out;omega⟩,⟨by (with_reducible repeat (first|apply Kd.R_alloc|apply Kd.R_drewN|apply Kd.R_drew));exact HO33.out⟩,⟨by refine zk_ ?_;exact BK1.out⟩,⟨zl1_ HB GE1⟩⟩
       subst c15
       have H1:(if 0≤t2 then (if t2<(l1.length:Int) then ((r16_mark.f ((rd_T31 l1 t2).f0) ((rd_T31 l1 t2).f1) ((rd_T31 l1 t2).f2.f0) ((rd_T31 l1 t2).f2.f1) ((rd_T31 l1 t2).f2.f2) ((rd_T31 l1 t2).f3.f0) ((rd_T31 l1 t2).f3.f1) ((rd_T31 l1 t2).f3.f2) ((rd_T31 l1 t2).f4.f0) ((rd_T31 l1 t2).f4.f1) ((rd_T31 l1 t2).f4.f2) ((rd_T31 l1 t2).f5)).bind fun bt15=>(if x7_2.length<2199023255552 then ((some (x7_2++ [(⟨bt15.1,bt15.2.1,(⟨bt15.2.2.1,bt15.2.2.2.1,bt15.2.2.2.2.1⟩:S27),bt15.2.2.2.2.2⟩:S54)]:List (S54))).bind fun y21=>(if 0≤x10_2 then (if x10_2<(l0.length:Int) then (if ((rd_T54 l0 x10_2).f0).toList=a2_1.toList then (r16_Marks.l0 kj10 l0 l1 y21 t2 true (wrap64 (x10_2+1)) a2_0 a2_1 a2_2 a2_3 a2_4 a2_5) else (if y21.length<2199023255552 then (r16_Marks.l0 kj10 l0 l1 (y21++ [(⟨(rd_T54 l0 x10_2).f0,(rd_T54 l0 x10_2).f1,(⟨(rd_T54 l0 x10_2).f2.f0,(rd_T54 l0 x10_2).f2.f1,(rd_T54 l0 x10_2).f2.f2⟩:S27),(rd_T54 l0 x10_2).f3⟩:S54)]) t2 true (wrap64 (x10_2+1)) a2_0 a2_1 a2_2 a2_3 a2_4 a2_5) else (none))) else (none)) else (none))) else (none))) else (none)) else (none))=some r:=by rw [if_pos rfl] at H;exact H
       clear H
       have H:=H1
       clear H1
       by_cases c16:0≤t2
       rotate_left
       ·rw [if_neg c16] at H
        exact absurd H (by simp)
       rw [if_pos c16] at H
       have c16b0:decide (0≤t2)=true:=decide_eq_true c16
       clear c16
       by_cases c17:t2<(l1.length:Int)
       rotate_left
       ·rw [if_neg c17] at H
        exact absurd H (by simp)
       rw [if_pos c17] at H
       have c17b0:decide (t2<(l1.length:Int))=true:=decide_eq_true c17
       clear c17
       replace H:=Option.bind_eq_some_iff.mp H
       obtain ⟨⟨t15,t16,t17,t18,t19,t20⟩,A180,H⟩:=H
       try dsimp only at H
       have A18:=Aside0.mk A180
       clear A180
       by_cases c19:x7_2.length<2199023255552
       rotate_left
       ·rw [if_neg c19] at H
        exact absurd H (by simp)
       rw [if_pos c19] at H
       have LMc19:=Aside0.mk c19
       clear c19
       obtain ⟨y21,hy21⟩: ∃y_:List (S54),y_=(x7_2++ [(⟨t15,t16,(⟨t17,t18,t19⟩:S27),t20⟩:S54)]):=⟨_,rfl⟩
       replace H:(if 0≤x10_2 then (if x10_2<(l0.length:Int) then (if ((rd_T54 l0 x10_2).f0).toList=a2_1.toList then (r16_Marks.l0 kj10 l0 l1 y21 t2 true (wrap64 (x10_2+1)) a2_0 a2_1 a2_2 a2_3 a2_4 a2_5) else (if y21.length<2199023255552 then (r16_Marks.l0 kj10 l0 l1 (y21++ [(⟨(rd_T54 l0 x10_2).f0,(rd_T54 l0 x10_2).f1,(⟨(rd_T54 l0 x10_2).f2.f0,(rd_T54 l0 x10_2).f2.f1,(rd_T54 l0 x10_2).f2.f2⟩:S27),(rd_T54 l0 x10_2).f3⟩:S54)]) t2 true (wrap64 (x10_2+1)) a2_0 a2_1 a2_2 a2_3 a2_4 a2_5) else (none))) else (none)) else (none))=some r:=by first|(rw [hy21];with_reducible exact H)|(have H2_:=(Option.bind_some _ _).symm.trans H;rw [hy21];with_reducible exact H2_)|(have H2_:=(Option.bind_some _ _).symm.trans H;with_reducible exact H2_)|with_reducible exact H|(rw [hy21];exact H)|exact H
       have Ny21:=Aside0.mk hy21
       clear hy21
       by_cases c20:0≤x10_2
       rotate_left
       ·rw [if_neg c20] at H
        exact absurd H (by simp)
       rw [if_pos c20] at H
       have c20b0:decide (0≤x10_2)=true:=decide_eq_true c20
       clear c20
       by_cases c21:x10_2<(l0.length:Int)
       rotate_left
       ·rw [if_neg c21] at H
        exact absurd H (by simp)
       rw [if_pos c21] at H
       have c21b0:decide (x10_2<(l0.length:Int))=true:=decide_eq_true c21
       clear c21
       by_cases c22:((rd_T54 l0 x10_2).f0).toList=a2_1.toList
       ·rw [if_pos c22] at H
        have c22b0:(((rd_T54 l0 x10_2).f0).toList==a2_1.toList)=true:=beq_iff_eq.mpr c22
        have c22b1:(((rd_T54 l0 x10_2).f0).toList !=a2_1.toList)=false:=bne_eq_false_iff_eq.mpr c22
        clear c22
        have H':=Aside0.mk H
        clear H
        have p14:0≤(t2:Int):=of_decide_eq_true zq_
        have q14:t2<(l1.length:Int):=of_decide_eq_true zq_
        obtain ⟨ad14,e14,hx14_0,hx14_1,hx14_2,hx14_3,hx14_4,hx14_5,hx14_6,hx14_7,hx14_8,hx14_9,hx14_10,hx14_11⟩:=at_T31 HR1.out t2 p14 q14
        cases e14
        replace hx14_0:=zx_ HB hx14_0
        replace hx14_1:=zx_ HB hx14_1
        replace hx14_2:=zx_ HB hx14_2
        replace hx14_3:=zx_ HB hx14_3
        replace hx14_4:=zx_ HB hx14_4
        replace hx14_5:=zx_ HB hx14_5
        replace hx14_6:=zx_ HB hx14_6
        replace hx14_7:=zx_ HB hx14_7
        replace hx14_8:=zx_ HB hx14_8
        replace hx14_9:=zx_ HB hx14_9
        replace hx14_10:=zx_ HB hx14_10
        replace hx14_11:=zx_ HB hx14_11
        replace p14:=eq_true p14
        replace q14:=eq_true q14
        go_wp2_with (first|(go_at_call 109;(with_reducible refine (r16_mark.calls ((rd_T31 l1 t2).f0) ((rd_T31 l1 t2).f1) ((rd_T31 l1 t2).f2.f0) ((rd_T31 l1 t2).f2.f1) ((rd_T31 l1 t2).f2.f2) ((rd_T31 l1 t2).f3.f0) ((rd_T31 l1 t2).f3.f1) ((rd_T31 l1 t2).f3.f2) ((rd_T31 l1 t2).f4.f0) ((rd_T31 l1 t2).f4.f1) ((rd_T31 l1 t2).f4.f2) ((rd_T31 l1 t2).f5) t15 t16 t17 t18 t19 t20 _ A18.out).mono ?_);rintro e w23 ⟨rfl,hb⟩;replace HO_7:=am_ (Kd.R_below (zr_ HO_7) hb);replace BK1:=am_ (blk_below (zb_ BK1) hb);replace HB:=am_ (below_step (zl1_ HB GE1) hb);(try clear hb);(try clear hb2);(try clear hk);(try clear hi))|((with_reducible refine gate_builtin (b:= .append) (xs:=#[.tmp 40, .tmp 46]) rfl ?_);at_builtin;refine Kd.R_append k54 (w0:=w) w.heap.size rfl (.tmp 40) (.tmp 46) 35 54 (.agg #[(.string ⟨#[]⟩),(.string ⟨#[]⟩),(.int .i64 0),(.int .i64 0),(.int .i64 0),(.int .i64 0)]) 64 rfl Try.underlying35 info54 rfl (by decide) (by omega) u7 x7_2 (⟨t15,t16,(⟨t17,t18,t19⟩:S27),t20⟩:S54) [.string t15, .string t16, .int .i64 t17, .int .i64 t18, .int .i64 t19, .int .i64 t20] (fun _=>True) (fun _=>False) rfl rfl ?aP (fun _ hk=>hk.elim) ?aF ?aO ?aB ?aS ?aL ?_;(case aP=>exact k54_mkM _ _ _ (⟨t15,t16,(⟨t17,t18,t19⟩:S27),t20⟩:S54));(case aB=>exact (zl1_ HB GE1));(case aF=>exact (fun _ _=>trivial));(case aO=>exact (zr_ HO_7));(case aS=>exact (below_size (zl1_ HB GE1)));(case aL=>have:=LMc19.out;omega);intro v22 w24 ho hb hg hat;rw [←Ny21.out] at ho;have n0_:=am_ (blk_grown (zb_ BK1) hg (Kd.R_ne HO_7.out BK1.out (by decide)));have n1_:=am_ (hb);have n2_:=am_ (ho);clear BK1;clear HB;clear HO_7;have BK1:=n0_;have HB:=n1_;have HO23:=n2_;clear n0_ n1_ n2_;clear ho hb hg hat;have p24:0≤(x10_2:Int):=of_decide_eq_true zq_;have q24:x10_2<(l0.length:Int):=of_decide_eq_true zq_;obtain ⟨ad24,e24,hx24_0,hx24_1,hx24_2,hx24_3,hx24_4,hx24_5⟩:=at_T54 HR0.out x10_2 p24 q24;cases e24;replace hx24_0:=zx_ HB hx24_0;replace hx24_1:=zx_ HB hx24_1;replace hx24_2:=zx_ HB hx24_2;replace hx24_3:=zx_ HB hx24_3;replace hx24_4:=zx_ HB hx24_4;replace hx24_5:=zx_ HB hx24_5;replace p24:=eq_true p24;replace q24:=eq_true q24;obtain ⟨hcz25_0,hcz25_1,hcz25_2,hcz25_3,hcz25_4,hcz25_5⟩:=x6_ BK1;have hfz25_0:=blk_frozen BK1.out 0;have hfz25_1:=blk_frozen BK1.out 1;have hfz25_2:=blk_frozen BK1.out 2;have hfz25_3:=blk_frozen BK1.out 3;have hfz25_4:=blk_frozen BK1.out 4;have hfz25_5:=blk_frozen BK1.out 5))
        repeat (go_quiet (first|(go_at_call 109;(with_reducible refine (r16_mark.calls ((rd_T31 l1 t2).f0) ((rd_T31 l1 t2).f1) ((rd_T31 l1 t2).f2.f0) ((rd_T31 l1 t2).f2.f1) ((rd_T31 l1 t2).f2.f2) ((rd_T31 l1 t2).f3.f0) ((rd_T31 l1 t2).f3.f1) ((rd_T31 l1 t2).f3.f2) ((rd_T31 l1 t2).f4.f0) ((rd_T31 l1 t2).f4.f1) ((rd_T31 l1 t2).f4.f2) ((rd_T31 l1 t2).f5) t15 t16 t17 t18 t19 t20 _ A18.out).mono ?_);rintro e w23 ⟨rfl,hb⟩;replace HO_7:=am_ (Kd.R_below (zr_ HO_7) hb);replace BK1:=am_ (blk_below (zb_ BK1) hb);replace HB:=am_ (below_step (zl1_ HB GE1) hb);(try clear hb);(try clear hb2);(try clear hk);(try clear hi))|((with_reducible refine gate_builtin (b:= .append) (xs:=#[.tmp 40, .tmp 46]) rfl ?_);at_builtin;refine Kd.R_append k54 (w0:=w) w.heap.size rfl (.tmp 40) (.tmp 46) 35 54 (.agg #[(.string ⟨#[]⟩),(.string ⟨#[]⟩),(.int .i64 0),(.int .i64 0),(.int .i64 0),(.int .i64 0)]) 64 rfl Try.underlying35 info54 rfl (by decide) (by omega) u7 x7_2 (⟨t15,t16,(⟨t17,t18,t19⟩:S27),t20⟩:S54) [.string t15, .string t16, .int .i64 t17, .int .i64 t18, .int .i64 t19, .int .i64 t20] (fun _=>True) (fun _=>False) rfl rfl ?aP (fun _ hk=>hk.elim) ?aF ?aO ?aB ?aS ?aL ?_;(case aP=>exact k54_mkM _ _ _ (⟨t15,t16,(⟨t17,t18,t19⟩:S27),t20⟩:S54));(case aB=>exact (zl1_ HB GE1));(case aF=>exact (fun _ _=>trivial));(case aO=>exact (zr_ HO_7));(case aS=>exact (below_size (zl1_ HB GE1)));(case aL=>have:=LMc19.out;omega);intro v22 w24 ho hb hg hat;rw [←Ny21.out] at ho;have n0_:=am_ (blk_grown (zb_ BK1) hg (Kd.R_ne HO_7.out BK1.out (by decide)));have n1_:=am_ (hb);have n2_:=am_ (ho);clear BK1;clear HB;clear HO_7;have BK1:=n0_;have HB:=n1_;have HO23:=n2_;clear n0_ n1_ n2_;clear ho hb hg hat;have p24:0≤(x10_2:Int):=of_decide_eq_true zq_;have q24:x10_2<(l0.length:Int):=of_decide_eq_true zq_;obtain ⟨ad24,e24,hx24_0,hx24_1,hx24_2,hx24_3,hx24_4,hx24_5⟩:=at_T54 HR0.out x10_2 p24 q24;cases e24;replace hx24_0:=zx_ HB hx24_0;replace hx24_1:=zx_ HB hx24_1;replace hx24_2:=zx_ HB hx24_2;replace hx24_3:=zx_ HB hx24_3;replace hx24_4:=zx_ HB hx24_4;replace hx24_5:=zx_ HB hx24_5;replace p24:=eq_true p24;replace q24:=eq_true q24;obtain ⟨hcz25_0,hcz25_1,hcz25_2,hcz25_3,hcz25_4,hcz25_5⟩:=x6_ BK1;have hfz25_0:=blk_frozen BK1.out 0;have hfz25_1:=blk_frozen BK1.out 1;have hfz25_2:=blk_frozen BK1.out 2;have hfz25_3:=blk_frozen BK1.out 3;have hfz25_4:=blk_frozen BK1.out 4;have hfz25_5:=blk_frozen BK1.out 5));try go_wp2_with (first|(go_at_call 109;(with_reducible refine (r16_mark.calls ((rd_T31 l1 t2).f0) ((rd_T31 l1 t2).f1) ((rd_T31 l1 t2).f2.f0) ((rd_T31 l1 t2).f2.f1) ((rd_T31 l1 t2).f2.f2) ((rd_T31 l1 t2).f3.f0) ((rd_T31 l1 t2).f3.f1) ((rd_T31 l1 t2).f3.f2) ((rd_T31 l1 t2).f4.f0) ((rd_T31 l1 t2).f4.f1) ((rd_T31 l1 t2).f4.f2) ((rd_T31 l1 t2).f5) t15 t16 t17 t18 t19 t20 _ A18.out).mono ?_);rintro e w23 ⟨rfl,hb⟩;replace HO_7:=am_ (Kd.R_below (zr_ HO_7) hb);replace BK1:=am_ (blk_below (zb_ BK1) hb);replace HB:=am_ (below_step (zl1_ HB GE1) hb);(try clear hb);(try clear hb2);(try clear hk);(try clear hi))|((with_reducible refine gate_builtin (b:= .append) (xs:=#[.tmp 40, .tmp 46]) rfl ?_);at_builtin;refine Kd.R_append k54 (w0:=w) w.heap.size rfl (.tmp 40) (.tmp 46) 35 54 (.agg #[(.string ⟨#[]⟩),(.string ⟨#[]⟩),(.int .i64 0),(.int .i64 0),(.int .i64 0),(.int .i64 0)]) 64 rfl Try.underlying35 info54 rfl (by decide) (by omega) u7 x7_2 (⟨t15,t16,(⟨t17,t18,t19⟩:S27),t20⟩:S54) [.string t15, .string t16, .int .i64 t17, .int .i64 t18, .int .i64 t19, .int .i64 t20] (fun _=>True) (fun _=>False) rfl rfl ?aP (fun _ hk=>hk.elim) ?aF ?aO ?aB ?aS ?aL ?_;(case aP=>exact k54_mkM _ _ _ (⟨t15,t16,(⟨t17,t18,t19⟩:S27),t20⟩:S54));(case aB=>exact (zl1_ HB GE1));(case aF=>exact (fun _ _=>trivial));(case aO=>exact (zr_ HO_7));(case aS=>exact (below_size (zl1_ HB GE1)));(case aL=>have:=LMc19.out;omega);intro v22 w24 ho hb hg hat;rw [←Ny21.out] at ho;have n0_:=am_ (blk_grown (zb_ BK1) hg (Kd.R_ne HO_7.out BK1.out (by decide)));have n1_:=am_ (hb);have n2_:=am_ (ho);clear BK1;clear HB;clear HO_7;have BK1:=n0_;have HB:=n1_;have HO23:=n2_;clear n0_ n1_ n2_;clear ho hb hg hat;have p24:0≤(x10_2:Int):=of_decide_eq_true zq_;have q24:x10_2<(l0.length:Int):=of_decide_eq_true zq_;obtain ⟨ad24,e24,hx24_0,hx24_1,hx24_2,hx24_3,hx24_4,hx24_5⟩:=at_T54 HR0.out x10_2 p24 q24;cases e24;replace hx24_0:=zx_ HB hx24_0;replace hx24_1:=zx_ HB hx24_1;replace hx24_2:=zx_ HB hx24_2;replace hx24_3:=zx_ HB hx24_3;replace hx24_4:=zx_ HB hx24_4;replace hx24_5:=zx_ HB hx24_5;replace p24:=eq_true p24;replace q24:=eq_true q24;obtain ⟨hcz25_0,hcz25_1,hcz25_2,hcz25_3,hcz25_4,hcz25_5⟩:=x6_ BK1;have hfz25_0:=blk_frozen BK1.out 0;have hfz25_1:=blk_frozen BK1.out 1;have hfz25_2:=blk_frozen BK1.out 2;have hfz25_3:=blk_frozen BK1.out 3;have hfz25_4:=blk_frozen BK1.out 4;have hfz25_5:=blk_frozen BK1.out 5)))
        go_roundg kj10
        case measure=>have:=HJ4.out;have:=HK2.out;have:=HJ10.out;omega
        case rel=>exact ⟨(y21),(true),(wrap64 (x10_2+1)),(by first|rfl|(simp;done)|(simp [*];done)),(by first|rfl|(simp;done)|(simp [*];done)),H',⟨by have:=HJ4.out;have:=HK2.out;have:=HJ10.out;omega⟩,⟨by (with_reducible repeat (first|apply Kd.R_alloc|apply Kd.R_drewN|apply Kd.R_drew));exact HO23.out⟩,⟨by refine zk_ ?_;exact BK1.out⟩,⟨zl1_ HB GE1⟩⟩
       rw [if_neg c22] at H
       have c22b0:(((rd_T54 l0 x10_2).f0).toList==a2_1.toList)=false:=beq_eq_false_iff_ne.mpr c22
       have c22b1:(((rd_T54 l0 x10_2).f0).toList !=a2_1.toList)=true:=bne_iff_ne.mpr c22
       by_cases c26:y21.length<2199023255552
       rotate_left
       ·rw [if_neg c26] at H
        exact absurd H (by simp)
       rw [if_pos c26] at H
       have LMc26:=Aside0.mk c26
       clear c26
       obtain ⟨y26,hy26⟩: ∃y_:List (S54),y_=(y21++ [(⟨(rd_T54 l0 x10_2).f0,(rd_T54 l0 x10_2).f1,(⟨(rd_T54 l0 x10_2).f2.f0,(rd_T54 l0 x10_2).f2.f1,(rd_T54 l0 x10_2).f2.f2⟩:S27),(rd_T54 l0 x10_2).f3⟩:S54)]):=⟨_,rfl⟩
       replace H:(r16_Marks.l0 kj10 l0 l1 y26 t2 true (wrap64 (x10_2+1)) a2_0 a2_1 a2_2 a2_3 a2_4 a2_5)=some r:=by first|(rw [hy26];with_reducible exact H)|(have H2_:=(Option.bind_some _ _).symm.trans H;rw [hy26];with_reducible exact H2_)|(have H2_:=(Option.bind_some _ _).symm.trans H;with_reducible exact H2_)|with_reducible exact H|(rw [hy26];exact H)|exact H
       have Ny26:=Aside0.mk hy26
       clear hy26
       have H':=Aside0.mk H
       clear H
       have p14:0≤(t2:Int):=of_decide_eq_true zq_
       have q14:t2<(l1.length:Int):=of_decide_eq_true zq_
       obtain ⟨ad14,e14,hx14_0,hx14_1,hx14_2,hx14_3,hx14_4,hx14_5,hx14_6,hx14_7,hx14_8,hx14_9,hx14_10,hx14_11⟩:=at_T31 HR1.out t2 p14 q14
       cases e14
       replace hx14_0:=zx_ HB hx14_0
       replace hx14_1:=zx_ HB hx14_1
       replace hx14_2:=zx_ HB hx14_2
       replace hx14_3:=zx_ HB hx14_3
       replace hx14_4:=zx_ HB hx14_4
       replace hx14_5:=zx_ HB hx14_5
       replace hx14_6:=zx_ HB hx14_6
       replace hx14_7:=zx_ HB hx14_7
       replace hx14_8:=zx_ HB hx14_8
       replace hx14_9:=zx_ HB hx14_9
       replace hx14_10:=zx_ HB hx14_10
       replace hx14_11:=zx_ HB hx14_11
       replace p14:=eq_true p14
       replace q14:=eq_true q14
       go_wp2_with (first|(go_at_call 109;(with_reducible refine (r16_mark.calls ((rd_T31 l1 t2).f0) ((rd_T31 l1 t2).f1) ((rd_T31 l1 t2).f2.f0) ((rd_T31 l1 t2).f2.f1) ((rd_T31 l1 t2).f2.f2) ((rd_T31 l1 t2).f3.f0) ((rd_T31 l1 t2).f3.f1) ((rd_T31 l1 t2).f3.f2) ((rd_T31 l1 t2).f4.f0) ((rd_T31 l1 t2).f4.f1) ((rd_T31 l1 t2).f4.f2) ((rd_T31 l1 t2).f5) t15 t16 t17 t18 t19 t20 _ A18.out).mono ?_);rintro e w27 ⟨rfl,hb⟩;replace HO_7:=am_ (Kd.R_below (zr_ HO_7) hb);replace BK1:=am_ (blk_below (zb_ BK1) hb);replace HB:=am_ (below_step (zl1_ HB GE1) hb);(try clear hb);(try clear hb2);(try clear hk);(try clear hi))|((with_reducible refine gate_builtin (b:= .append) (xs:=#[.tmp 40, .tmp 46]) rfl ?_);at_builtin;refine Kd.R_append k54 (w0:=w) w.heap.size rfl (.tmp 40) (.tmp 46) 35 54 (.agg #[(.string ⟨#[]⟩),(.string ⟨#[]⟩),(.int .i64 0),(.int .i64 0),(.int .i64 0),(.int .i64 0)]) 64 rfl Try.underlying35 info54 rfl (by decide) (by omega) u7 x7_2 (⟨t15,t16,(⟨t17,t18,t19⟩:S27),t20⟩:S54) [.string t15, .string t16, .int .i64 t17, .int .i64 t18, .int .i64 t19, .int .i64 t20] (fun _=>True) (fun _=>False) rfl rfl ?aP (fun _ hk=>hk.elim) ?aF ?aO ?aB ?aS ?aL ?_;(case aP=>exact k54_mkM _ _ _ (⟨t15,t16,(⟨t17,t18,t19⟩:S27),t20⟩:S54));(case aB=>exact (zl1_ HB GE1));(case aF=>exact (fun _ _=>trivial));(case aO=>exact (zr_ HO_7));(case aS=>exact (below_size (zl1_ HB GE1)));(case aL=>have:=LMc19.out;omega);intro v22 w28 ho hb hg hat;rw [←Ny21.out] at ho;have n0_:=am_ (blk_grown (zb_ BK1) hg (Kd.R_ne HO_7.out BK1.out (by decide)));have n1_:=am_ (hb);have n2_:=am_ (ho);clear BK1;clear HB;clear HO_7;have BK1:=n0_;have HB:=n1_;have HO23:=n2_;clear n0_ n1_ n2_;clear ho hb hg hat;have p24:0≤(x10_2:Int):=of_decide_eq_true zq_;have q24:x10_2<(l0.length:Int):=of_decide_eq_true zq_;obtain ⟨ad24,e24,hx24_0,hx24_1,hx24_2,hx24_3,hx24_4,hx24_5⟩:=at_T54 HR0.out x10_2 p24 q24;cases e24;replace hx24_0:=zx_ HB hx24_0;replace hx24_1:=zx_ HB hx24_1;replace hx24_2:=zx_ HB hx24_2;replace hx24_3:=zx_ HB hx24_3;replace hx24_4:=zx_ HB hx24_4;replace hx24_5:=zx_ HB hx24_5;replace p24:=eq_true p24;replace q24:=eq_true q24;obtain ⟨hcz29_0,hcz29_1,hcz29_2,hcz29_3,hcz29_4,hcz29_5,hfz29_0,hfz29_1,hfz29_2,hfz29_3,hfz29_4,hfz29_5⟩:=y6_ BK1;have p25:0≤(x10_2:Int):=of_decide_eq_true zq_;have q25:x10_2<(l0.length:Int):=of_decide_eq_true zq_;obtain ⟨ad25,e25,hx25_0,hx25_1,hx25_2,hx25_3,hx25_4,hx25_5⟩:=at_T54 HR0.out x10_2 p25 q25;obtain rfl:ad24=ad25:=(by injection e25);replace hx25_0:=zx_ HB hx25_0;replace hx25_1:=zx_ HB hx25_1;replace hx25_2:=zx_ HB hx25_2;replace hx25_3:=zx_ HB hx25_3;replace hx25_4:=zx_ HB hx25_4;replace hx25_5:=zx_ HB hx25_5;replace p25:=eq_true p25;replace q25:=eq_true q25)|((with_reducible refine gate_builtin (b:= .append) (xs:=#[.tmp 56, .tmp 61]) rfl ?_);at_builtin;refine Kd.R_append k54 (w0:=w) w.heap.size rfl (.tmp 56) (.tmp 61) 35 54 (.agg #[(.string ⟨#[]⟩),(.string ⟨#[]⟩),(.int .i64 0),(.int .i64 0),(.int .i64 0),(.int .i64 0)]) 64 rfl Try.underlying35 info54 rfl (by decide) (by omega) v22 y21 (⟨(rd_T54 l0 x10_2).f0,(rd_T54 l0 x10_2).f1,(⟨(rd_T54 l0 x10_2).f2.f0,(rd_T54 l0 x10_2).f2.f1,(rd_T54 l0 x10_2).f2.f2⟩:S27),(rd_T54 l0 x10_2).f3⟩:S54) [.string ((rd_T54 l0 x10_2).f0), .string ((rd_T54 l0 x10_2).f1), .int .i64 ((rd_T54 l0 x10_2).f2.f0), .int .i64 ((rd_T54 l0 x10_2).f2.f1), .int .i64 ((rd_T54 l0 x10_2).f2.f2), .int .i64 ((rd_T54 l0 x10_2).f3)] (fun _=>True) (fun _=>False) rfl rfl ?aP (fun _ hk=>hk.elim) ?aF ?aO ?aB ?aS ?aL ?_;(case aP=>exact k54_mkM _ _ _ (⟨(rd_T54 l0 x10_2).f0,(rd_T54 l0 x10_2).f1,(⟨(rd_T54 l0 x10_2).f2.f0,(rd_T54 l0 x10_2).f2.f1,(rd_T54 l0 x10_2).f2.f2⟩:S27),(rd_T54 l0 x10_2).f3⟩:S54));(case aB=>exact (zl1_ HB GE1));(case aF=>exact (fun _ _=>trivial));(case aO=>exact (zr_ HO23));(case aS=>exact (below_size (zl1_ HB GE1)));(case aL=>have:=LMc26.out;omega);intro v27 w30 ho hb hg hat;rw [←Ny26.out] at ho;have n0_:=am_ (blk_grown (zb_ BK1) hg (Kd.R_ne HO23.out BK1.out (by decide)));have n1_:=am_ (hb);have n2_:=am_ (ho);clear BK1;clear HB;clear HO23;have BK1:=n0_;have HB:=n1_;have HO28:=n2_;clear n0_ n1_ n2_;clear ho hb hg hat))
       repeat (go_quiet (first|(go_at_call 109;(with_reducible refine (r16_mark.calls ((rd_T31 l1 t2).f0) ((rd_T31 l1 t2).f1) ((rd_T31 l1 t2).f2.f0) ((rd_T31 l1 t2).f2.f1) ((rd_T31 l1 t2).f2.f2) ((rd_T31 l1 t2).f3.f0) ((rd_T31 l1 t2).f3.f1) ((rd_T31 l1 t2).f3.f2) ((rd_T31 l1 t2).f4.f0) ((rd_T31 l1 t2).f4.f1) ((rd_T31 l1 t2).f4.f2) ((rd_T31 l1 t2).f5) t15 t16 t17 t18 t19 t20 _ A18.out).mono ?_);rintro e w27 ⟨rfl,hb⟩;replace HO_7:=am_ (Kd.R_below (zr_ HO_7) hb);replace BK1:=am_ (blk_below (zb_ BK1) hb);replace HB:=am_ (below_step (zl1_ HB GE1) hb);(try clear hb);(try clear hb2);(try clear hk);(try clear hi))|((with_reducible refine gate_builtin (b:= .append) (xs:=#[.tmp 40, .tmp 46]) rfl ?_);at_builtin;refine Kd.R_append k54 (w0:=w) w.heap.size rfl (.tmp 40) (.tmp 46) 35 54 (.agg #[(.string ⟨#[]⟩),(.string ⟨#[]⟩),(.int .i64 0),(.int .i64 0),(.int .i64 0),(.int .i64 0)]) 64 rfl Try.underlying35 info54 rfl (by decide) (by omega) u7 x7_2 (⟨t15,t16,(⟨t17,t18,t19⟩:S27),t20⟩:S54) [.string t15, .string t16, .int .i64 t17, .int .i64 t18, .int .i64 t19, .int .i64 t20] (fun _=>True) (fun _=>False) rfl rfl ?aP (fun _ hk=>hk.elim) ?aF ?aO ?aB ?aS ?aL ?_;(case aP=>exact k54_mkM _ _ _ (⟨t15,t16,(⟨t17,t18,t19⟩:S27),t20⟩:S54));(case aB=>exact (zl1_ HB GE1));(case aF=>exact (fun _ _=>trivial));(case aO=>exact (zr_ HO_7));(case aS=>exact (below_size (zl1_ HB GE1)));(case aL=>have:=LMc19.out;omega);intro v22 w28 ho hb hg hat;rw [←Ny21.out] at ho;have n0_:=am_ (blk_grown (zb_ BK1) hg (Kd.R_ne HO_7.out BK1.out (by decide)));have n1_:=am_ (hb);have n2_:=am_ (ho);clear BK1;clear HB;clear HO_7;have BK1:=n0_;have HB:=n1_;have HO23:=n2_;clear n0_ n1_ n2_;clear ho hb hg hat;have p24:0≤(x10_2:Int):=of_decide_eq_true zq_;have q24:x10_2<(l0.length:Int):=of_decide_eq_true zq_;obtain ⟨ad24,e24,hx24_0,hx24_1,hx24_2,hx24_3,hx24_4,hx24_5⟩:=at_T54 HR0.out x10_2 p24 q24;cases e24;replace hx24_0:=zx_ HB hx24_0;replace hx24_1:=zx_ HB hx24_1;replace hx24_2:=zx_ HB hx24_2;replace hx24_3:=zx_ HB hx24_3;replace hx24_4:=zx_ HB hx24_4;replace hx24_5:=zx_ HB hx24_5;replace p24:=eq_true p24;replace q24:=eq_true q24;obtain ⟨hcz29_0,hcz29_1,hcz29_2,hcz29_3,hcz29_4,hcz29_5,hfz29_0,hfz29_1,hfz29_2,hfz29_3,hfz29_4,hfz29_5⟩:=y6_ BK1;have p25:0≤(x10_2:Int):=of_decide_eq_true zq_;have q25:x10_2<(l0.length:Int):=of_decide_eq_true zq_;obtain ⟨ad25,e25,hx25_0,hx25_1,hx25_2,hx25_3,hx25_4,hx25_5⟩:=at_T54 HR0.out x10_2 p25 q25;obtain rfl:ad24=ad25:=(by injection e25);replace hx25_0:=zx_ HB hx25_0;replace hx25_1:=zx_ HB hx25_1;replace hx25_2:=zx_ HB hx25_2;replace hx25_3:=zx_ HB hx25_3;replace hx25_4:=zx_ HB hx25_4;replace hx25_5:=zx_ HB hx25_5;replace p25:=eq_true p25;replace q25:=eq_true q25)|((with_reducible refine gate_builtin (b:= .append) (xs:=#[.tmp 56, .tmp 61]) rfl ?_);at_builtin;refine Kd.R_append k54 (w0:=w) w.heap.size rfl (.tmp 56) (.tmp 61) 35 54 (.agg #[(.string ⟨#[]⟩),(.string ⟨#[]⟩),(.int .i64 0),(.int .i64 0),(.int .i64 0),(.int .i64 0)]) 64 rfl Try.underlying35 info54 rfl (by decide) (by omega) v22 y21 (⟨(rd_T54 l0 x10_2).f0,(rd_T54 l0 x10_2).f1,(⟨(rd_T54 l0 x10_2).f2.f0,(rd_T54 l0 x10_2).f2.f1,(rd_T54 l0 x10_2).f2.f2⟩:S27),(rd_T54 l0 x10_2).f3⟩:S54) [.string ((rd_T54 l0 x10_2).f0), .string ((rd_T54 l0 x10_2).f1), .int .i64 ((rd_T54 l0 x10_2).f2.f0), .int .i64 ((rd_T54 l0 x10_2).f2.f1), .int .i64 ((rd_T54 l0 x10_2).f2.f2), .int .i64 ((rd_T54 l0 x10_2).f3)] (fun _=>True) (fun _=>False) rfl rfl ?aP (fun _ hk=>hk.elim) ?aF ?aO ?aB ?aS ?aL ?_;(case aP=>exact k54_mkM _ _ _ (⟨(rd_T54 l0 x10_2).f0,(rd_T54 l0 x10_2).f1,(⟨(rd_T54 l0 x10_2).f2.f0,(rd_T54 l0 x10_2).f2.f1,(rd_T54 l0 x10_2).f2.f2⟩:S27),(rd_T54 l0 x10_2).f3⟩:S54));(case aB=>exact (zl1_ HB GE1));(case aF=>exact (fun _ _=>trivial));(case aO=>exact (zr_ HO23));(case aS=>exact (below_size (zl1_ HB GE1)));(case aL=>have:=LMc26.out;omega);intro v27 w30 ho hb hg hat;rw [←Ny26.out] at ho;have n0_:=am_ (blk_grown (zb_ BK1) hg (Kd.R_ne HO23.out BK1.out (by decide)));have n1_:=am_ (hb);have n2_:=am_ (ho);clear BK1;clear HB;clear HO23;have BK1:=n0_;have HB:=n1_;have HO28:=n2_;clear n0_ n1_ n2_;clear ho hb hg hat));try go_wp2_with (first|(go_at_call 109;(with_reducible refine (r16_mark.calls ((rd_T31 l1 t2).f0) ((rd_T31 l1 t2).f1) ((rd_T31 l1 t2).f2.f0) ((rd_T31 l1 t2).f2.f1) ((rd_T31 l1 t2).f2.f2) ((rd_T31 l1 t2).f3.f0) ((rd_T31 l1 t2).f3.f1) ((rd_T31 l1 t2).f3.f2) ((rd_T31 l1 t2).f4.f0) ((rd_T31 l1 t2).f4.f1) ((rd_T31 l1 t2).f4.f2) ((rd_T31 l1 t2).f5) t15 t16 t17 t18 t19 t20 _ A18.out).mono ?_);rintro e w27 ⟨rfl,hb⟩;replace HO_7:=am_ (Kd.R_below (zr_ HO_7) hb);replace BK1:=am_ (blk_below (zb_ BK1) hb);replace HB:=am_ (below_step (zl1_ HB GE1) hb);(try clear hb);(try clear hb2);(try clear hk);(try clear hi))|((with_reducible refine gate_builtin (b:= .append) (xs:=#[.tmp 40, .tmp 46]) rfl ?_);at_builtin;refine Kd.R_append k54 (w0:=w) w.heap.size rfl (.tmp 40) (.tmp 46) 35 54 (.agg #[(.string ⟨#[]⟩),(.string ⟨#[]⟩),(.int .i64 0),(.int .i64 0),(.int .i64 0),(.int .i64 0)]) 64 rfl Try.underlying35 info54 rfl (by decide) (by omega) u7 x7_2 (⟨t15,t16,(⟨t17,t18,t19⟩:S27),t20⟩:S54) [.string t15, .string t16, .int .i64 t17, .int .i64 t18, .int .i64 t19, .int .i64 t20] (fun _=>True) (fun _=>False) rfl rfl ?aP (fun _ hk=>hk.elim) ?aF ?aO ?aB ?aS ?aL ?_;(case aP=>exact k54_mkM _ _ _ (⟨t15,t16,(⟨t17,t18,t19⟩:S27),t20⟩:S54));(case aB=>exact (zl1_ HB GE1));(case aF=>exact (fun _ _=>trivial));(case aO=>exact (zr_ HO_7));(case aS=>exact (below_size (zl1_ HB GE1)));(case aL=>have:=LMc19.out;omega);intro v22 w28 ho hb hg hat;rw [←Ny21.out] at ho;have n0_:=am_ (blk_grown (zb_ BK1) hg (Kd.R_ne HO_7.out BK1.out (by decide)));have n1_:=am_ (hb);have n2_:=am_ (ho);clear BK1;clear HB;clear HO_7;have BK1:=n0_;have HB:=n1_;have HO23:=n2_;clear n0_ n1_ n2_;clear ho hb hg hat;have p24:0≤(x10_2:Int):=of_decide_eq_true zq_;have q24:x10_2<(l0.length:Int):=of_decide_eq_true zq_;obtain ⟨ad24,e24,hx24_0,hx24_1,hx24_2,hx24_3,hx24_4,hx24_5⟩:=at_T54 HR0.out x10_2 p24 q24;cases e24;replace hx24_0:=zx_ HB hx24_0;replace hx24_1:=zx_ HB hx24_1;replace hx24_2:=zx_ HB hx24_2;replace hx24_3:=zx_ HB hx24_3;replace hx24_4:=zx_ HB hx24_4;replace hx24_5:=zx_ HB hx24_5;replace p24:=eq_true p24;replace q24:=eq_true q24;obtain ⟨hcz29_0,hcz29_1,hcz29_2,hcz29_3,hcz29_4,hcz29_5,hfz29_0,hfz29_1,hfz29_2,hfz29_3,hfz29_4,hfz29_5⟩:=y6_ BK1;have p25:0≤(x10_2:Int):=of_decide_eq_true zq_;have q25:x10_2<(l0.length:Int):=of_decide_eq_true zq_;obtain ⟨ad25,e25,hx25_0,hx25_1,hx25_2,hx25_3,hx25_4,hx25_5⟩:=at_T54 HR0.out x10_2 p25 q25;obtain rfl:ad24=ad25:=(by injection e25);replace hx25_0:=zx_ HB hx25_0;replace hx25_1:=zx_ HB hx25_1;replace hx25_2:=zx_ HB hx25_2;replace hx25_3:=zx_ HB hx25_3;replace hx25_4:=zx_ HB hx25_4;replace hx25_5:=zx_ HB hx25_5;replace p25:=eq_true p25;replace q25:=eq_true q25)|((with_reducible refine gate_builtin (b:= .append) (xs:=#[.tmp 56, .tmp 61]) rfl ?_);at_builtin;refine Kd.R_append k54 (w0:=w) w.heap.size rfl (.tmp 56) (.tmp 61) 35 54 (.agg #[(.string ⟨#[]⟩),(.string ⟨#[]⟩),(.int .i64 0),(.int .i64 0),(.int .i64 0),(.int .i64 0)]) 64 rfl Try.underlying35 info54 rfl (by decide) (by omega) v22 y21 (⟨(rd_T54 l0 x10_2).f0,(rd_T54 l0 x10_2).f1,(⟨(rd_T54 l0 x10_2).f2.f0,(rd_T54 l0 x10_2).f2.f1,(rd_T54 l0 x10_2).f2.f2⟩:S27),(rd_T54 l0 x10_2).f3⟩:S54) [.string ((rd_T54 l0 x10_2).f0), .string ((rd_T54 l0 x10_2).f1), .int .i64 ((rd_T54 l0 x10_2).f2.f0), .int .i64 ((rd_T54 l0 x10_2).f2.f1), .int .i64 ((rd_T54 l0 x10_2).f2.f2), .int .i64 ((rd_T54 l0 x10_2).f3)] (fun _=>True) (fun _=>False) rfl rfl ?aP (fun _ hk=>hk.elim) ?aF ?aO ?aB ?aS ?aL ?_;(case aP=>exact k54_mkM _ _ _ (⟨(rd_T54 l0 x10_2).f0,(rd_T54 l0 x10_2).f1,(⟨(rd_T54 l0 x10_2).f2.f0,(rd_T54 l0 x10_2).f2.f1,(rd_T54 l0 x10_2).f2.f2⟩:S27),(rd_T54 l0 x10_2).f3⟩:S54));(case aB=>exact (zl1_ HB GE1));(case aF=>exact (fun _ _=>trivial));(case aO=>exact (zr_ HO23));(case aS=>exact (below_size (zl1_ HB GE1)));(case aL=>have:=LMc26.out;omega);intro v27 w30 ho hb hg hat;rw [←Ny26.out] at ho;have n0_:=am_ (blk_grown (zb_ BK1) hg (Kd.R_ne HO23.out BK1.out (by decide)));have n1_:=am_ (hb);have n2_:=am_ (ho);clear BK1;clear HB;clear HO23;have BK1:=n0_;have HB:=n1_;have HO28:=n2_;clear n0_ n1_ n2_;clear ho hb hg hat)))
       go_roundg kj10
       case measure=>have:=HJ4.out;have:=HK2.out;have:=HJ10.out;omega
       case rel=>exact ⟨(y26),(true),(wrap64 (x10_2+1)),(by first|rfl|(simp;done)|(simp [*];done)),(by first|rfl|(simp;done)|(simp [*];done)),H',⟨by have:=HJ4.out;have:=HK2.out;have:=HJ10.out;omega⟩,⟨by (with_reducible repeat (first|apply Kd.R_alloc|apply Kd.R_drewN|apply Kd.R_drew));exact HO28.out⟩,⟨by refine zk_ ?_;exact BK1.out⟩,⟨zl1_ HB GE1⟩⟩
end Go.Proofs.Ytcgefpklljclgaa.Print

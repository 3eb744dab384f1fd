/- EffectDone: a part -/
import Derived.Test.YtcgefpklljclgaaProg
import Derived.Below
import Derived.Deep.Draws
import Derived.Deep.AppendLies
import Derived.Maps.AppendAt
import Derived.OwnWalk
import Derived.Laws.BytesArg
import Derived.Laws.MakeOwn
import Derived.Laws.OwnMore
import Derived.Deep.OwnRows
import Derived.Tactics
import Derived.Lib.ConvBytes
import Derived.Laws.Slices
import Derived.WalkKit
import Derived.KernelRfl
import Derived.RowKit3
import Derived.Deep.LoopGhost
import Derived.Deep.QuietTactic
import Derived.BigQuiet
import Derived.WideLaws
import Derived.Deep.DeepCutAuto
import Derived.Deep.CutBlock
import Derived.Deep.RegionHeld3
import Derived.Laws.Rows
import Derived.Lib.AppendStr
import Derived.ArgAppend
import Derived.Laws.IdiomCopy
import Derived.OrdersHeld
import Derived.Laws.BitsLemmas
import Derived.RowKit
import Derived.Shelf.Abstract
import Derived.WalkSpells
import Derived.Laws.Cover1
import Derived.Test.YtcgefpklljclgaaBEffectDone0
set_option linter.unusedVariables false
set_option linter.unusedSimpArgs false
namespace Go.Proofs.Ytcgefpklljclgaa.Print
open Go.RowKit Go.Proofs.YtcgefpklljclgaaW.PrintWords Go.Proofs.YtcgefpklljclgaaW.PrintLast Go.Proofs.YtcgefpklljclgaaW.PrintMore
attribute [local go_sem] max2_int min2_int max_two min_two max_three min_three max_four min_four



def errW:Option Int→Value
 |none=> .nilIface
 |some c=> .iface 0 (.int .i64 c)
theorem errW_none:errW none= .nilIface:=rfl
theorem errW_some (c:Int):errW (some c)= .iface 0 (.int .i64 c):=rfl

theorem info9:(Try.prog.info? 9).map (fun i=>(i.zero,i.size,i.bytes))=some (some (.string ⟨#[]⟩),1,16):=by kernel_rfl
theorem info31:(Try.prog.info? 31).map (fun i=>(i.zero,i.size,i.bytes))=some (some (.agg #[(.string ⟨#[]⟩),(.string ⟨#[]⟩),(.int .i64 0),(.int .i64 0),(.int .i64 0),(.int .i64 0),(.int .i64 0),(.int .i64 0),(.int .i64 0),(.int .i64 0),(.int .i64 0),(.int .i64 0)]),12,112):=by kernel_rfl
theorem info54:(Try.prog.info? 54).map (fun i=>(i.zero,i.size,i.bytes))=some (some (.agg #[(.string ⟨#[]⟩),(.string ⟨#[]⟩),(.int .i64 0),(.int .i64 0),(.int .i64 0),(.int .i64 0)]),6,64):=by kernel_rfl
-- the values' own types
structure S27 where
 f0:Int
 f1:Int
 f2:Int
def z27:S27:=⟨(0:Int),(0:Int),(0:Int)⟩
def k27:Kd S27:=Kd.iso (Kd.pair (Kd.int .i64) (Kd.pair (Kd.int .i64) (Kd.int .i64))) (fun x:S27=>(x.f0,x.f1,x.f2))
theorem k27_open {w:World} {x:S27} {cs:List Value} (h:k27.K w x cs):cs=[.int .i64 x.f0, .int .i64 x.f1, .int .i64 x.f2]:=by
 obtain ⟨_,_,rfl,rfl,⟨_,_,rfl,rfl,rfl⟩⟩:=h
 exact rfl
theorem k27_openM {w:World} {base:Nat} {ok:Nat→Prop} {x:S27} {cs:List Value} (h:k27.M w base ok x cs):cs=[.int .i64 x.f0, .int .i64 x.f1, .int .i64 x.f2]:=by
 obtain ⟨_,_,rfl,rfl,⟨_,_,rfl,rfl,rfl⟩⟩:=h
 exact rfl
theorem k27_mkM (w:World) (base:Nat) (ok:Nat→Prop) (x:S27):k27.M w base ok x [.int .i64 x.f0, .int .i64 x.f1, .int .i64 x.f2]:=⟨[.int .i64 x.f0],[.int .i64 x.f1, .int .i64 x.f2],rfl,rfl,⟨[.int .i64 x.f1],[.int .i64 x.f2],rfl,rfl,rfl⟩⟩
structure S31 where
 f0:ByteArray
 f1:ByteArray
 f2:S27
 f3:S27
 f4:S27
 f5:Int
def z31:S31:=⟨(⟨#[]⟩:ByteArray),(⟨#[]⟩:ByteArray),z27,z27,z27,(0:Int)⟩
def k31:Kd S31:=Kd.iso (Kd.pair Kd.string (Kd.pair Kd.string (Kd.pair k27 (Kd.pair k27 (Kd.pair k27 (Kd.int .i64)))))) (fun x:S31=>(x.f0,x.f1,x.f2,x.f3,x.f4,x.f5))
theorem k31_open {w:World} {x:S31} {cs:List Value} (h:k31.K w x cs):cs=[.string x.f0, .string x.f1, .int .i64 x.f2.f0, .int .i64 x.f2.f1, .int .i64 x.f2.f2, .int .i64 x.f3.f0, .int .i64 x.f3.f1, .int .i64 x.f3.f2, .int .i64 x.f4.f0, .int .i64 x.f4.f1, .int .i64 x.f4.f2, .int .i64 x.f5]:=by
 obtain ⟨_,_,rfl,rfl,⟨_,_,rfl,rfl,⟨_,_,rfl,s2,⟨_,_,rfl,s5,⟨_,_,rfl,s8,rfl⟩⟩⟩⟩⟩:=h
 obtain rfl:=k27_open s2
 obtain rfl:=k27_open s5
 obtain rfl:=k27_open s8
 exact rfl
theorem k31_openM {w:World} {base:Nat} {ok:Nat→Prop} {x:S31} {cs:List Value} (h:k31.M w base ok x cs):cs=[.string x.f0, .string x.f1, .int .i64 x.f2.f0, .int .i64 x.f2.f1, .int .i64 x.f2.f2, .int .i64 x.f3.f0, .int .i64 x.f3.f1, .int .i64 x.f3.f2, .int .i64 x.f4.f0, .int .i64 x.f4.f1, .int .i64 x.f4.f2, .int .i64 x.f5]:=by
 obtain ⟨_,_,rfl,rfl,⟨_,_,rfl,rfl,⟨_,_,rfl,s2,⟨_,_,rfl,s5,⟨_,_,rfl,s8,rfl⟩⟩⟩⟩⟩:=h
 obtain rfl:=k27_openM s2
 obtain rfl:=k27_openM s5
 obtain rfl:=k27_openM s8
 exact rfl
theorem k31_mkM (w:World) (base:Nat) (ok:Nat→Prop) (x:S31):k31.M w base ok x [.string x.f0, .string x.f1, .int .i64 x.f2.f0, .int .i64 x.f2.f1, .int .i64 x.f2.f2, .int .i64 x.f3.f0, .int .i64 x.f3.f1, .int .i64 x.f3.f2, .int .i64 x.f4.f0, .int .i64 x.f4.f1, .int .i64 x.f4.f2, .int .i64 x.f5]:=⟨[.string x.f0],[.string x.f1, .int .i64 x.f2.f0, .int .i64 x.f2.f1, .int .i64 x.f2.f2, .int .i64 x.f3.f0, .int .i64 x.f3.f1, .int .i64 x.f3.f2, .int .i64 x.f4.f0, .int .i64 x.f4.f1, .int .i64 x.f4.f2, .int .i64 x.f5],rfl,rfl,⟨[.string x.f1],[.int .i64 x.f2.f0, .int .i64 x.f2.f1, .int .i64 x.f2.f2, .int .i64 x.f3.f0, .int .i64 x.f3.f1, .int .i64 x.f3.f2, .int .i64 x.f4.f0, .int .i64 x.f4.f1, .int .i64 x.f4.f2, .int .i64 x.f5],rfl,rfl,⟨[.int .i64 x.f2.f0, .int .i64 x.f2.f1, .int .i64 x.f2.f2],[.int .i64 x.f3.f0, .int .i64 x.f3.f1, .int .i64 x.f3.f2, .int .i64 x.f4.f0, .int .i64 x.f4.f1, .int .i64 x.f4.f2, .int .i64 x.f5],rfl,(k27_mkM w base ok x.f2),⟨[.int .i64 x.f3.f0, .int .i64 x.f3.f1, .int .i64 x.f3.f2],[.int .i64 x.f4.f0, .int .i64 x.f4.f1, .int .i64 x.f4.f2, .int .i64 x.f5],rfl,(k27_mkM w base ok x.f3),⟨[.int .i64 x.f4.f0, .int .i64 x.f4.f1, .int .i64 x.f4.f2],[.int .i64 x.f5],rfl,(k27_mkM w base ok x.f4),rfl⟩⟩⟩⟩⟩
def rd_T31 (xs:List S31) (i:Int):S31:=xs.getD i.toNat z31
theorem at_T31 {w:World} {A:Option Addr} {n:Nat} {xs:List S31} (h:Kd.C k31 w A n xs) (i:Int) (h0:0≤i) (h1:i<n): ∃ad,A=some ad∧w.cell? (ad.add (i.toNat*12))=some (.string (rd_T31 xs i).f0)∧w.cell? ⟨(ad.add (i.toNat*12)).block,(ad.add (i.toNat*12)).off+1,none⟩=some (.string (rd_T31 xs i).f1)∧w.cell? ⟨(ad.add (i.toNat*12)).block,(ad.add (i.toNat*12)).off+2,none⟩=some (.int .i64 (rd_T31 xs i).f2.f0)∧w.cell? ⟨(ad.add (i.toNat*12)).block,(ad.add (i.toNat*12)).off+3,none⟩=some (.int .i64 (rd_T31 xs i).f2.f1)∧w.cell? ⟨(ad.add (i.toNat*12)).block,(ad.add (i.toNat*12)).off+4,none⟩=some (.int .i64 (rd_T31 xs i).f2.f2)∧w.cell? ⟨(ad.add (i.toNat*12)).block,(ad.add (i.toNat*12)).off+5,none⟩=some (.int .i64 (rd_T31 xs i).f3.f0)∧w.cell? ⟨(ad.add (i.toNat*12)).block,(ad.add (i.toNat*12)).off+6,none⟩=some (.int .i64 (rd_T31 xs i).f3.f1)∧w.cell? ⟨(ad.add (i.toNat*12)).block,(ad.add (i.toNat*12)).off+7,none⟩=some (.int .i64 (rd_T31 xs i).f3.f2)∧w.cell? ⟨(ad.add (i.toNat*12)).block,(ad.add (i.toNat*12)).off+8,none⟩=some (.int .i64 (rd_T31 xs i).f4.f0)∧w.cell? ⟨(ad.add (i.toNat*12)).block,(ad.add (i.toNat*12)).off+9,none⟩=some (.int .i64 (rd_T31 xs i).f4.f1)∧w.cell? ⟨(ad.add (i.toNat*12)).block,(ad.add (i.toNat*12)).off+10,none⟩=some (.int .i64 (rd_T31 xs i).f4.f2)∧w.cell? ⟨(ad.add (i.toNat*12)).block,(ad.add (i.toNat*12)).off+11,none⟩=some (.int .i64 (rd_T31 xs i).f5):=by
 obtain ⟨ad,c,e,_,hK,hc0⟩:=Kd.C_get h z31 i h0 h1
 have hc: ∀j u,c[j]?=some u→w.cell? (ad.add (i.toNat*12+j))=some u:=hc0
 obtain rfl:=k31_open hK
 exact ⟨ad,e,hc 0 _ rfl,by rw [←add_field _ _ 1 (by omega)];exact hc 1 _ rfl,by rw [←add_field _ _ 2 (by omega)];exact hc 2 _ rfl,by rw [←add_field _ _ 3 (by omega)];exact hc 3 _ rfl,by rw [←add_field _ _ 4 (by omega)];exact hc 4 _ rfl,by rw [←add_field _ _ 5 (by omega)];exact hc 5 _ rfl,by rw [←add_field _ _ 6 (by omega)];exact hc 6 _ rfl,by rw [←add_field _ _ 7 (by omega)];exact hc 7 _ rfl,by rw [←add_field _ _ 8 (by omega)];exact hc 8 _ rfl,by rw [←add_field _ _ 9 (by omega)];exact hc 9 _ rfl,by rw [←add_field _ _ 10 (by omega)];exact hc 10 _ rfl,by rw [←add_field _ _ 11 (by omega)];exact hc 11 _ rfl⟩

structure S37 where
 f0:ByteArray
 f1:Int
structure S54 where
 f0:ByteArray
 f1:ByteArray
 f2:S27
 f3:Int
def z54:S54:=⟨(⟨#[]⟩:ByteArray),(⟨#[]⟩:ByteArray),z27,(0:Int)⟩
def k54:Kd S54:=Kd.iso (Kd.pair Kd.string (Kd.pair Kd.string (Kd.pair k27 (Kd.int .i64)))) (fun x:S54=>(x.f0,x.f1,x.f2,x.f3))
theorem k54_open {w:World} {x:S54} {cs:List Value} (h:k54.K w x cs):cs=[.string x.f0, .string x.f1, .int .i64 x.f2.f0, .int .i64 x.f2.f1, .int .i64 x.f2.f2, .int .i64 x.f3]:=by
 obtain ⟨_,_,rfl,rfl,⟨_,_,rfl,rfl,⟨_,_,rfl,s2,rfl⟩⟩⟩:=h
 obtain rfl:=k27_open s2
 exact rfl
theorem k54_mkM (w:World) (base:Nat) (ok:Nat→Prop) (x:S54):k54.M w base ok x [.string x.f0, .string x.f1, .int .i64 x.f2.f0, .int .i64 x.f2.f1, .int .i64 x.f2.f2, .int .i64 x.f3]:=⟨[.string x.f0],[.string x.f1, .int .i64 x.f2.f0, .int .i64 x.f2.f1, .int .i64 x.f2.f2, .int .i64 x.f3],rfl,rfl,⟨[.string x.f1],[.int .i64 x.f2.f0, .int .i64 x.f2.f1, .int .i64 x.f2.f2, .int .i64 x.f3],rfl,rfl,⟨[.int .i64 x.f2.f0, .int .i64 x.f2.f1, .int .i64 x.f2.f2],[.int .i64 x.f3],rfl,(k27_mkM w base ok x.f2),rfl⟩⟩⟩
def rd_T54 (xs:List S54) (i:Int):S54:=xs.getD i.toNat z54
theorem at_T54 {w:World} {A:Option Addr} {n:Nat} {xs:List S54} (h:Kd.C k54 w A n xs) (i:Int) (h0:0≤i) (h1:i<n): ∃ad,A=some ad∧w.cell? (ad.add (i.toNat*6))=some (.string (rd_T54 xs i).f0)∧w.cell? ⟨(ad.add (i.toNat*6)).block,(ad.add (i.toNat*6)).off+1,none⟩=some (.string (rd_T54 xs i).f1)∧w.cell? ⟨(ad.add (i.toNat*6)).block,(ad.add (i.toNat*6)).off+2,none⟩=some (.int .i64 (rd_T54 xs i).f2.f0)∧w.cell? ⟨(ad.add (i.toNat*6)).block,(ad.add (i.toNat*6)).off+3,none⟩=some (.int .i64 (rd_T54 xs i).f2.f1)∧w.cell? ⟨(ad.add (i.toNat*6)).block,(ad.add (i.toNat*6)).off+4,none⟩=some (.int .i64 (rd_T54 xs i).f2.f2)∧w.cell? ⟨(ad.add (i.toNat*6)).block,(ad.add (i.toNat*6)).off+5,none⟩=some (.int .i64 (rd_T54 xs i).f3):=by
 obtain ⟨ad,c,e,_,hK,hc0⟩:=Kd.C_get h z54 i h0 h1
 have hc: ∀j u,c[j]?=some u→w.cell? (ad.add (i.toNat*6+j))=some u:=hc0
 obtain rfl:=k54_open hK
 exact ⟨ad,e,hc 0 _ rfl,by rw [←add_field _ _ 1 (by omega)];exact hc 1 _ rfl,by rw [←add_field _ _ 2 (by omega)];exact hc 2 _ rfl,by rw [←add_field _ _ 3 (by omega)];exact hc 3 _ rfl,by rw [←add_field _ _ 4 (by omega)];exact hc 4 _ rfl,by rw [←add_field _ _ 5 (by omega)];exact hc 5 _ rfl⟩

structure S58 where
 f0:Int
 f1:ByteArray
 f2:ByteArray
 f3:S27
structure S180 where
 f0:ByteArray
 f1:ByteArray
 f2:S27
structure S113 where
 f0:(List S31)
 f1:Int
 f2:Int
theorem eqA27 (d:Nat) (w:World) (x0 y0:Int) (x1 y1:Int) (x2 y2:Int):
  (Op.equalIn (d+2) 27 (.agg #[.int .i64 x0, .int .i64 x1, .int .i64 x2]) (.agg #[.int .i64 y0, .int .i64 y1, .int .i64 y2])).run Try.prog w= .ok (x0==y0 && (x1==y1 && (x2==y2))) w:=by
 refine eqA_of Try.underlying27 (by kernel_rfl) ?_
 refine eqf_cons (by rfl) (by go_simp;rfl) (by go_simp;rfl) (by go_simp) ?_
 refine eqf_cons (by rfl) (by go_simp;rfl) (by go_simp;rfl) (by go_simp) ?_
 exact eqf_last (by rfl) (by go_simp;rfl) (by go_simp;rfl) (by go_simp)
def r10_Find.l0:Nat→List (S31)→ByteArray→Int→Option (Int)
 |0,_,_,_=>none
 |k+1,x0,x1,x5=>if x5<(x0.length:Int) then (if 0≤x5 then (if ((rd_T31 x0 x5).f0).toList=x1.toList then (some x5) else (r10_Find.l0 k x0 x1 (wrap64 (x5+1)))) else (none)) else (some (-1))
def r10_Find.f (k:Nat) (l0:List (S31)) (a1:ByteArray):Option (Int):=r10_Find.l0 k l0 a1 0
theorem r10_Find.mono_l: ∀k,(∀y0 y1 y2,LeO (r10_Find.l0 k y0 y1 y2) (r10_Find.l0 (k+1) y0 y1 y2))
 |0=>fun _ _ _ r h=>by simp [r10_Find.l0] at h
 |k+1=>by
  have ih0:=r10_Find.mono_l k
  intro y0 y1 y2
  unfold r10_Find.l0
  repeat' first
  |(with_reducible exact ih0 _ _ _)
  |(with_reducible exact LeO.refl _)
  |(with_reducible exact LeO.none _)
  |(with_reducible refine LeO.ite ?_ ?_)
  |(with_reducible refine LeO.bind ?_ (fun _=> ?_))
  |exact ih0 _ _ _
  |exact LeO.none _
  |refine LeO.ite ?_ ?_
  |refine LeO.bind ?_ (fun _=> ?_)
theorem r10_Find.mono: ∀a0 a1 k,LeO (r10_Find.f k a0 a1) (r10_Find.f (k+1) a0 a1):=by
 intro a0 a1 k
 have ih0:=r10_Find.mono_l k
 unfold r10_Find.f
 repeat' first
  |(with_reducible exact ih0 _ _ _)
  |(with_reducible exact LeO.refl _)
  |(with_reducible exact LeO.none _)
  |(with_reducible refine LeO.ite ?_ ?_)
  |(with_reducible refine LeO.bind ?_ (fun _=> ?_))
  |exact ih0 _ _ _
  |exact LeO.none _
  |refine LeO.ite ?_ ?_
  |refine LeO.bind ?_ (fun _=> ?_)
set_option maxHeartbeats 8000000 in
set_option maxRecDepth 100000 in
theorem r10_Find.calls (k:Nat) (A0:Option Addr) (c0:Nat) (l0:List (S31)) (a1:ByteArray) (r:Int) (w:World) (hr0:Kd.C k31 w A0 l0.length l0) (hc0:l0.length≤c0) (h:r10_Find.f k l0 a1=some r):
  Calls Try.prog 50 #[.slice A0 l0.length c0, .string a1] w fun e w'=>e= .returned (.int .i64 r)∧Drawn0 w w':=by
 have HR0:=Aside0.mk hr0
 have HC0:=Aside0.mk hc0
 clear hr0 hc0
 have H:(r10_Find.l0 k l0 a1 0)=some r:=h
 clear h
 have H':=Aside0.mk H
 clear H
 go_enter Try.func50,Try.ntmps50
 go_wp2
 go_loopg [5] k (fun kq v5 w'=> ∃(x5_1:Int),v5= .int .i64 x5_1∧Aside0 (r10_Find.l0 kq l0 a1 x5_1=some r)∧Aside0 (kq≤k)∧Drawn0 w w')
 case atStart=>exact ⟨(0),(by first|rfl|(simp;done)|(simp [*];done)),H',⟨Nat.le_refl _⟩,by repeat (first|exact Drawn0.refl _|apply Drawn0.step)⟩
 case round=>
  clear H'
  try clear p2
  obtain ⟨x5_1,rfl,HA,HK1,⟨m1,rfl⟩⟩:=hrel
  cases gk with
  |zero=>exact absurd HA.out (by simp [r10_Find.l0])
  |succ k1=>
   have H:=HA.out
   clear HA
   simp only [r10_Find.l0] at H
   by_cases c3:x5_1<(l0.length:Int)
   rotate_left
   ·rw [if_neg c3] at H
    have c3b0:decide (x5_1<(l0.length:Int))=false:=decide_eq_false c3
    clear c3
    obtain rfl:=Option.some.inj H
    go_wp2
    go_ret
    exact ⟨by first|rfl|(simp;done)|(simp [*];done),by repeat (first|exact Drawn0.refl _|apply Drawn0.step)⟩

   rw [if_pos c3] at H
   have c3b0:decide (x5_1<(l0.length:Int))=true:=decide_eq_true c3
   clear c3
   by_cases c4:0≤x5_1
   rotate_left
   ·rw [if_neg c4] at H
    exact absurd H (by simp)
   rw [if_pos c4] at H
   have c4b0:decide (0≤x5_1)=true:=decide_eq_true c4
   clear c4
   by_cases c5:((rd_T31 l0 x5_1).f0).toList=a1.toList
   ·rw [if_pos c5] at H
    have c5b0:(((rd_T31 l0 x5_1).f0).toList==a1.toList)=true:=beq_iff_eq.mpr c5
    have c5b1:(((rd_T31 l0 x5_1).f0).toList !=a1.toList)=false:=bne_eq_false_iff_eq.mpr c5
    clear c5
    obtain rfl:=Option.some.inj H
    have p1:0≤(x5_1:Int):=of_decide_eq_true zq_
    have q1:x5_1<(l0.length:Int):=of_decide_eq_true zq_
    obtain ⟨ad1,e1,hx1_0,hx1_1,hx1_2,hx1_3,hx1_4,hx1_5,hx1_6,hx1_7,hx1_8,hx1_9,hx1_10,hx1_11⟩:=at_T31 HR0.out x5_1 p1 q1
    cases e1
    replace p1:=eq_true p1
    replace q1:=eq_true q1
    go_wp2
    go_ret
    exact ⟨by first|rfl|(simp;done)|(simp [*];done),by repeat (first|exact Drawn0.refl _|apply Drawn0.step)⟩
   rw [if_neg c5] at H
   have c5b0:(((rd_T31 l0 x5_1).f0).toList==a1.toList)=false:=beq_eq_false_iff_ne.mpr c5
   have c5b1:(((rd_T31 l0 x5_1).f0).toList !=a1.toList)=true:=bne_iff_ne.mpr c5
   have H':=Aside0.mk H
   clear H
   have p1:0≤(x5_1:Int):=of_decide_eq_true zq_
   have q1:x5_1<(l0.length:Int):=of_decide_eq_true zq_
   obtain ⟨ad1,e1,hx1_0,hx1_1,hx1_2,hx1_3,hx1_4,hx1_5,hx1_6,hx1_7,hx1_8,hx1_9,hx1_10,hx1_11⟩:=at_T31 HR0.out x5_1 p1 q1
   cases e1
   replace p1:=eq_true p1
   replace q1:=eq_true q1
   go_wp2
   go_roundg k1
   case measure=>have:=HK1.out;omega
   case rel=>exact ⟨(wrap64 (x5_1+1)),(by first|rfl|(simp;done)|(simp [*];done)),H',⟨by have:=HK1.out;omega⟩,by repeat (first|exact Drawn0.refl _|apply Drawn0.step)⟩
def fidx {α:Type} (p:α→Bool):List α→Int→Int
 |[],_=> -1
 |x::l,i=>if p x=true then i else fidx p l (i+1)
theorem fidx_drop {α:Type} (p:α→Bool) (z:α) (l:List α) (i:Nat) (h:i<l.length):fidx p (l.drop i) i=if p (l.getD i z)=true then (i:Int) else fidx p (l.drop (i+1)) ((i+1:Nat):Int):=by
 rw [List.drop_eq_getElem_cons h,List.getD_eq_getElem?_getD,List.getElem?_eq_getElem h]
 rfl
def itemCells (x:S31):Array Value:=#[.string x.f0, .string x.f1, .int .i64 x.f2.f0, .int .i64 x.f2.f1, .int .i64 x.f2.f2, .int .i64 x.f3.f0, .int .i64 x.f3.f1, .int .i64 x.f3.f2, .int .i64 x.f4.f0, .int .i64 x.f4.f1, .int .i64 x.f4.f2, .int .i64 x.f5]
set_option maxHeartbeats 1000000 in
set_option maxRecDepth 100000 in
theorem idxItem_calls (g:Nat) (lb:Array Value) (p:S31→Bool) (eg: ∀args w,(callFunc g args).run Try.prog w= .ok (.enter g args) w) (w:World)
    (hp: ∀W x,Below w.heap.size w W→Calls Try.prog g (#[.agg (itemCells x)]++lb) W fun e w'=>e= .returned (.bool (p x))∧Below W.heap.size W w')
    (A:Option Addr) (c:Nat) (l:List S31) (hr0:Kd.C k31 w A l.length l) (hc0:l.length≤c):
    Calls Try.prog 127 #[.slice A l.length c, .func (.func g) #[] lb] w fun e w'=>e= .returned (.int .i64 (fidx p l 0))∧Below w.heap.size w w':=by
  have hu31:=Try.underlying31
  have HR0:=Aside0.mk hr0
  have HP:=Aside0.mk hp
  have HEG:=Aside0.mk eg
  have hm:l.length≤9223372036854775807:=hr0.2.1
  clear hr0 hp eg
  go_enter Try.func127,Try.ntmps127
  go_wp2
  go_loopg [5,8] l.length (fun kq s5 s8 wr=> ∃i:Nat,i≤l.length∧l.length - i≤kq∧s8= .int .i64 i∧Aside0 (Below w.heap.size w wr)∧Aside0 (fidx p l 0=fidx p (l.drop i) i))
  case atStart=>exact ⟨0,by omega,by omega,rfl,⟨Below.refl _ _⟩,⟨rfl⟩⟩
  case round=>
    obtain ⟨i,hi,hg,rfl,HB,HF⟩:=hrel
    by_cases hlt:i<l.length
    rotate_left
    · obtain rfl : i = l.length := by omega
      go_wp2
      go_ret
      refine ⟨?_,HB.out⟩
      rw [HF.out,List.drop_length]
      rfl


    have hltz:(i:Int)<(l.length:Int):=by omega
    obtain ⟨ad,e1,h0,h1,h2,h3,h4,h5,h6,h7,h8,h9,h10,h11⟩:=at_T31 HR0.out (i:Int) (by omega) (by omega)
    cases e1
    simp only [Int.toNat_natCast] at h0 h1 h2 h3 h4 h5 h6 h7 h8 h9 h10 h11
    replace h0:=zx_ HB h0
    replace h1:=zx_ HB h1
    replace h2:=zx_ HB h2
    replace h3:=zx_ HB h3
    replace h4:=zx_ HB h4
    replace h5:=zx_ HB h5
    replace h6:=zx_ HB h6
    replace h7:=zx_ HB h7
    replace h8:=zx_ HB h8
    replace h9:=zx_ HB h9
    replace h10:=zx_ HB h10
    replace h11:=zx_ HB h11
    have hd:Aside0 _:=⟨fidx_drop p z31 l i hlt⟩
    have HC:=am_ (HP.out wr (rd_T31 l i) HB.out)
    generalize hy:rd_T31 l i=y at h0 h1 h2 h3 h4 h5 h6 h7 h8 h9 h10 h11 HC
    have hq:p (l.getD i z31)=p y:=by rw [←hy];simp [rd_T31]
    have HQ:=Aside0.mk hq
    clear hy hq
    have eg:=HEG.out
    cases hb:p y with
    | true =>
      rw [hb] at HC HQ
      clear hb
      go_wp2_with (go_at_fn g;refine HC.out.mono ?_;rintro e w' ⟨rfl,hb'⟩;have HB':=am_ (below_step HB.out hb');clear hb')
      go_ret
      refine ⟨?_,HB'.out⟩
      rw [HF.out,hd.out,HQ.out]
      rfl
    | false =>
      rw [hb] at HC HQ
      clear hb
      go_wp2_with (go_at_fn g;refine HC.out.mono ?_;rintro e w' ⟨rfl,hb'⟩;have HB':=am_ (below_step HB.out hb');clear hb')
      go_roundg (l.length - (i+1))
      case measure=>omega
      case rel=>exact ⟨i+1,by omega,by omega,by go_num,HB',⟨by rw [HF.out,hd.out,HQ.out];rfl⟩⟩
set_option maxHeartbeats 1000000 in
set_option maxRecDepth 100000 in
theorem treeFind1_calls (W:World) (b:Nat) (nm:ByteArray) (hb:W.heap[b]?=some (.cells #[.string nm] 9 (0,0))) (x:S31):
  Calls Try.prog 128 #[.agg (itemCells x), .pointer (some ⟨b,0,none⟩)] W fun e w'=>e= .returned (.bool (x.f0.toList==nm.toList))∧Below W.heap.size W w':=by
 unfold itemCells
 have hu31:=Try.underlying31
 have h0:=(blk_cell hb 0).trans rfl
 have hl:b<W.heap.size:=blk_lt hb
 clear hb
 go_enter Try.func128,Try.ntmps128
 go_wp2
 go_ret
 exact ⟨rfl,by repeat (first|(with_reducible first|exact Below.refl _ _|apply below_alloc|apply pw_below_drewN|apply below_drew1))⟩
def tree_Find.f (l0:List (S31)) (a1:ByteArray):Option Int:=some (fidx (fun x=>x.f0.toList==a1.toList) l0 0)
set_option maxHeartbeats 1000000 in
set_option maxRecDepth 100000 in
theorem tree_Find.calls (A0:Option Addr) (c0:Nat) (l0:List (S31)) (a1:ByteArray) (r:Int) (w:World) (hr0:Kd.C k31 w A0 l0.length l0) (hc0:l0.length≤c0) (h:tree_Find.f l0 a1=some r):
  Calls Try.prog 71 #[.slice A0 l0.length c0, .string a1] w fun e w'=>e= .returned (.int .i64 r)∧Below w.heap.size w w':=by
 have hr:fidx (fun x=>x.f0.toList==a1.toList) l0 0=r:=Option.some.inj h
 obtain ⟨W1,hW1⟩: ∃W1,W1=w.alloc (.cells #[.string a1] 9):=⟨_,rfl⟩
 have hn:W1.heap[w.heap.size]?=some (.cells #[.string a1] 9 (0,0)):=by rw [hW1];exact blk_new _ _
 have hB:Below w.heap.size w W1:=by rw [hW1];exact below_alloc (Below.refl _ _) _
 have HC:=am_ (idxItem_calls 128 #[.pointer (some ⟨w.heap.size,0,none⟩)] (fun x=>x.f0.toList==a1.toList) (enters_of Try.func128 (by kernel_rfl) rfl) W1 (fun W x hb=>treeFind1_calls W w.heap.size a1 (blk_below hn hb) x) A0 c0 l0 (Kd.C_below hr0 hB) hc0)
 rw [hr] at HC
 have HW:=Aside0.mk hW1
 have HB:=Aside0.mk hB
 clear hr0 hr hW1 hn hB h
 go_enter Try.func71,Try.ntmps71
 go_wp2_with fail
 rw [←HW.out]
 refine HC.out.mono ?_
 rintro e w' ⟨rfl,hb⟩
 have HB':=am_ (below_step HB.out hb)
 clear hb
 go_wp2
 go_ret
 exact ⟨rfl,HB'.out⟩


end Go.Proofs.Ytcgefpklljclgaa.Print

namespace Go.Proofs.Ytcgefpklljclgaa.Print
open Go.RowKit Go.Proofs.YtcgefpklljclgaaW.PrintWords Go.Proofs.YtcgefpklljclgaaW.PrintLast Go.Proofs.YtcgefpklljclgaaW.PrintMore
section
variable {P:Program} {ops:Array Oper} {rest:List Oper} {o:Oper} {a:Act} {Q:Exit→Act→World→Prop} {Kc:Act→World→Prop} {W:World}
theorem put_run {gb e:Nat} {zs:Array Value} (hh:W.heap[gb]?=some (.cells zs e (0,0))) (t:TypeId) (u:Value) (off:Nat) (seg:List Value) (hu:u.cells.toList=seg) (ht:(P.info? t).map (·.size)=some seg.length) (hfit:off+seg.length≤zs.size) (h1: ∀q∈seg,q.oneCell'=true):
  ∃w' cur,(Instr.storeAt t (.pointer (some ⟨gb,off,none⟩)) u).run P W= .ok () w'∧w'.heap[gb]?=some (.cells cur e (0,0))∧cur.size=zs.size∧cur.toList=zs.toList.take off++seg++zs.toList.drop (off+seg.length)∧W.grownBy w' (some gb):=by
 have hrun:=run_store_run (P:=P) t u seg hh hu ht (o:=off) hfit h1
 obtain ⟨cur,hc,hs,hl⟩:=setCells_row seg off W zs hh hfit
 obtain ⟨s1,s2,s3,s4⟩:=setCells_same gb seg off W
 exact ⟨_,cur,hrun,hc,hs,hl,⟨s1,s2,s3,by rw [s4];exact Nat.le_refl _,fun k hk hne=>setCells_far seg off k (by rintro rfl;exact hne rfl)⟩⟩
theorem store_all {gb e:Nat} {zs:Array Value} (hh:W.heap[gb]?=some (.cells zs e (0,0))) (t:TypeId) (p x:Operand) (ho:o.op= .store t p x) (hN:o.dst=none) (hgd:o.guard=none) (u:Value) (seg:List Value)
  (hp:a.eval p= .pointer (some ⟨gb,0,none⟩)) (hx:a.eval x=u) (hu:u.cells.toList=seg) (ht:(P.info? t).map (·.size)=some seg.length) (hz:zs.size=seg.length) (h1: ∀q∈seg,q.oneCell'=true)
  (h: ∀w',w'.heap[gb]?=some (.cells seg.toArray e (0,0))→W.grownBy w' (some gb)→wpList P ops Q rest a w'):wpList P ops Q (o::rest) a W:=by
 obtain ⟨w',cur,hrun,hc,hs,hl,hg⟩:=put_run (P:=P) hh t u 0 seg hu ht (by omega) h1
 have e1:cur=seg.toArray:=by
  apply Array.ext'
  rw [hl,List.take_zero,List.nil_append,Nat.zero_add,List.drop_of_length_le (by simp [Array.length_toList];omega),List.append_nil]
 subst e1
 refine wpList_plain hgd fun K hK=> ?_
 unfold Oper.wp execOp
 simp only [ho,hp,hx,Sem.run_bind,Sem.run_pure,Result.andThen_ok,hrun]
 show K (a.put o.dst undef) _
 rw [hN]
 exact hK a _ (h _ hc hg)
theorem store_part {gb e:Nat} {zs:Array Value} (hh:W.heap[gb]?=some (.cells zs e (0,0))) (t:TypeId) (p x:Operand) (ho:o.op= .store t p x) (hN:o.dst=none) (hgd:o.guard=none) (off:Nat) (u:Value) (seg new:List Value)
  (hp:a.eval p= .pointer (some ⟨gb,off,none⟩)) (hx:a.eval x=u) (hu:u.cells.toList=seg) (ht:(P.info? t).map (·.size)=some seg.length) (hz:off+seg.length≤zs.size) (h1: ∀q∈seg,q.oneCell'=true) (hnew:zs.toList.take off++seg++zs.toList.drop (off+seg.length)=new)
  (h: ∀w',w'.heap[gb]?=some (.cells new.toArray e (0,0))→W.grownBy w' (some gb)→wpList P ops Q rest a w'):wpList P ops Q (o::rest) a W:=by
 obtain ⟨w',cur,hrun,hc,hs,hl,hg⟩:=put_run (P:=P) hh t u off seg hu ht hz h1
 have e1:cur=new.toArray:=by
  apply Array.ext'
  rw [hl,hnew]
 subst e1
 refine wpList_plain hgd fun K hK=> ?_
 unfold Oper.wp execOp
 simp only [ho,hp,hx,Sem.run_bind,Sem.run_pure,Result.andThen_ok,hrun]
 show K (a.put o.dst undef) _
 rw [hN]
 exact hK a _ (h _ hc hg)
end
theorem R_put {α:Type} {d:Kd α} {e base:Nat} {w w1:World} {v:Value} {xs:List α} (h:d.R e w base (fun _=>True) v xs) {g t:Nat} {cells:Array Value} (hb:w.heap[g]?=some (.cells cells t (0,0))) (ht: ∀q,q∈e::d.E→q≠t) (hg:w.grownBy w1 (some g)):d.R e w1 base (fun _=>True) v xs:=
 Kd.R_mono (Kd.R_grown (Kd.R_types h hb ht) hg (fun _ hk e=>hk.2 (Option.some.inj e))) (fun _ _=>trivial)
theorem below_put {a w w1:World} {base g:Nat} (h:Below base a w) (hb:base≤w.heap.size) (hg:w.grownBy w1 (some g)) (hge:base≤g):Below base a w1:=pw_below_grown h (some g) hb hg (fun k e=>by cases e;exact hge)
theorem blk_put_other {w w1:World} {g k:Nat} {ob:Obj} (h:w.heap[k]?=some ob) (hg:w.grownBy w1 (some g)) (hne:k≠g):w1.heap[k]?=some ob:=by
  rw [hg.block k (by
    rcases Nat.lt_or_ge k w.heap.size with hl|hl
    · exact hl
    rw [Array.getElem?_eq_none hl] at h;cases h) (by intro e;cases e;exact hne rfl)]
  exact h
end Go.Proofs.Ytcgefpklljclgaa.Print

namespace Go.Proofs.Ytcgefpklljclgaa.Print
open Go.RowKit Go.Proofs.YtcgefpklljclgaaW.PrintWords Go.Proofs.YtcgefpklljclgaaW.PrintLast Go.Proofs.YtcgefpklljclgaaW.PrintMore
attribute [local go_sem] max2_int min2_int max_two min_two max_three min_three max_four min_four

def effect_find.f (l:List S31) (n:ByteArray):Option (ByteArray×ByteArray×Int×Int×Int×Int×Int×Int×Int×Int×Int×Int×Bool):=(tree_Find.f l n).bind fun t=>if t≥0 then (if t<(l.length:Int) then some ((rd_T31 l t).f0,(rd_T31 l t).f1,(rd_T31 l t).f2.f0,(rd_T31 l t).f2.f1,(rd_T31 l t).f2.f2,(rd_T31 l t).f3.f0,(rd_T31 l t).f3.f1,(rd_T31 l t).f3.f2,(rd_T31 l t).f4.f0,(rd_T31 l t).f4.f1,(rd_T31 l t).f4.f2,(rd_T31 l t).f5,true) else none) else some ((⟨#[]⟩:ByteArray),(⟨#[]⟩:ByteArray),0,0,0,0,0,0,0,0,0,0,false)
set_option maxHeartbeats 8000000 in
set_option maxRecDepth 100000 in
theorem effFind_calls (A:Option Addr) (c:Nat) (l:List S31) (n:ByteArray) (r2 r3:ByteArray) (r4 r5 r6 r7 r8 r9 r10 r11 r12 r13:Int) (r14:Bool) (w:World) (hr:Kd.C k31 w A l.length l) (hc:l.length≤c) (h:effect_find.f l n=some (r2,r3,r4,r5,r6,r7,r8,r9,r10,r11,r12,r13,r14)):
    Calls Try.prog 110 #[.slice A l.length c, .string n] w fun e w'=>e= .returned (.agg #[.slice A l.length c, .string r2, .string r3, .int .i64 r4, .int .i64 r5, .int .i64 r6, .int .i64 r7, .int .i64 r8, .int .i64 r9, .int .i64 r10, .int .i64 r11, .int .i64 r12, .int .i64 r13, .bool r14])∧Below w.heap.size w w':=by
  have hu142:=Try.underlying142
  have hu140:=Try.underlying140
  have hu31:=Try.underlying31
  obtain ⟨t,ht,h⟩:=Option.bind_eq_some_iff.1 h
  have HR:=Aside0.mk hr
  have HC:=Aside0.mk hc
  have HT:=Aside0.mk ht
  have HH:=Aside0.mk h
  have HB:=am_ (Below.refl w.heap.size w)
  clear hr hc ht h
  go_enter Try.func110,Try.ntmps110
  go_wp2_with (first|((with_reducible refine gate_dst (N:=4) rfl ?_);refine bx_ (N:=4) (cs:=#[.slice none 0 0, .string ⟨#[]⟩, .string ⟨#[]⟩, .int .i64 0, .int .i64 0, .int .i64 0, .int .i64 0, .int .i64 0, .int .i64 0, .int .i64 0, .int .i64 0, .int .i64 0, .int .i64 0, .bool false]) (t:=142) ?_;intro gb4 hg w1 hbox hb;have BK4:=am_ (hbox);have GE4:=am_ ((by rw [hg];exact below_size HB.out:w.heap.size≤gb4));replace HB:=am_ (below_step HB.out hb);have EQ4:=am_ (hg);clear hb hbox hg)|((with_reducible refine gate_dst (N:=5) rfl ?_);refine bx_ (N:=5) (cs:=#[.slice none 0 0, .string ⟨#[]⟩, .string ⟨#[]⟩, .int .i64 0, .int .i64 0, .int .i64 0, .int .i64 0, .int .i64 0, .int .i64 0, .int .i64 0, .int .i64 0, .int .i64 0, .int .i64 0, .bool false]) (t:=142) ?_;intro gb5 hg w2 hbox hb;have NE:=am_ (show gb4≠gb5 from by have:=blk_lt BK4.out;rw [hg];exact Nat.ne_of_lt this);replace BK4:=am_ (blk_below BK4.out hb);have BK5:=am_ (hbox);have GE5:=am_ ((by rw [hg];exact below_size HB.out:w.heap.size≤gb5));replace HB:=am_ (below_step HB.out hb);have EQ5:=am_ (hg);clear hb hbox hg;have cgb5_0:=(blk_cell BK5.out 0).trans rfl;have cgb5_1:=(blk_cell BK5.out 1).trans rfl;have cgb5_2:=(blk_cell BK5.out 2).trans rfl;have cgb5_3:=(blk_cell BK5.out 3).trans rfl;have cgb5_4:=(blk_cell BK5.out 4).trans rfl;have cgb5_5:=(blk_cell BK5.out 5).trans rfl;have cgb5_6:=(blk_cell BK5.out 6).trans rfl;have cgb5_7:=(blk_cell BK5.out 7).trans rfl;have cgb5_8:=(blk_cell BK5.out 8).trans rfl;have cgb5_9:=(blk_cell BK5.out 9).trans rfl;have cgb5_10:=(blk_cell BK5.out 10).trans rfl;have cgb5_11:=(blk_cell BK5.out 11).trans rfl;have cgb5_12:=(blk_cell BK5.out 12).trans rfl;have cgb5_13:=(blk_cell BK5.out 13).trans rfl)|((with_reducible refine gate_store (t:=142) (p:=5) (v:= .tmp 9) rfl ?_);refine store_all BK5.out 142 (.tmp 5) (.tmp 9) rfl rfl rfl (.agg #[.slice A l.length c, .string ⟨#[]⟩, .string ⟨#[]⟩, .int .i64 0, .int .i64 0, .int .i64 0, .int .i64 0, .int .i64 0, .int .i64 0, .int .i64 0, .int .i64 0, .int .i64 0, .int .i64 0, .bool false]) [.slice A l.length c, .string ⟨#[]⟩, .string ⟨#[]⟩, .int .i64 0, .int .i64 0, .int .i64 0, .int .i64 0, .int .i64 0, .int .i64 0, .int .i64 0, .int .i64 0, .int .i64 0, .int .i64 0, .bool false] rfl rfl rfl (by kernel_rfl) rfl (by intro q hq;simp only [List.mem_cons,List.not_mem_nil,or_false] at hq;rcases hq with rfl|rfl|rfl|rfl|rfl|rfl|rfl|rfl|rfl|rfl|rfl|rfl|rfl|rfl<;>rfl) ?_;intro w3 hbk hg;clear cgb5_0 cgb5_1 cgb5_2 cgb5_3 cgb5_4 cgb5_5 cgb5_6 cgb5_7 cgb5_8 cgb5_9 cgb5_10 cgb5_11 cgb5_12 cgb5_13;replace BK4:=am_ (blk_put_other BK4.out hg (NE.out));replace HB:=am_ (below_put HB.out (below_size HB.out) hg GE5.out);replace BK5:=am_ (hbk);clear hbk hg;have cgb5_0:=(blk_cell BK5.out 0).trans rfl;have cgb5_1:=(blk_cell BK5.out 1).trans rfl;have cgb5_2:=(blk_cell BK5.out 2).trans rfl;have cgb5_3:=(blk_cell BK5.out 3).trans rfl;have cgb5_4:=(blk_cell BK5.out 4).trans rfl;have cgb5_5:=(blk_cell BK5.out 5).trans rfl;have cgb5_6:=(blk_cell BK5.out 6).trans rfl;have cgb5_7:=(blk_cell BK5.out 7).trans rfl;have cgb5_8:=(blk_cell BK5.out 8).trans rfl;have cgb5_9:=(blk_cell BK5.out 9).trans rfl;have cgb5_10:=(blk_cell BK5.out 10).trans rfl;have cgb5_11:=(blk_cell BK5.out 11).trans rfl;have cgb5_12:=(blk_cell BK5.out 12).trans rfl;have cgb5_13:=(blk_cell BK5.out 13).trans rfl))
  refine (tree_Find.calls _ _ l n t _ (Kd.C_below HR.out HB.out) HC.out HT.out).mono ?_
  rintro e w4 ⟨rfl,hb⟩
  have n0_:=am_ (blk_below BK4.out hb)
  have n1_:=am_ (blk_below BK5.out hb)
  have n2_:=am_ (below_step HB.out hb)
  clear BK4 BK5 HB hb cgb5_0 cgb5_1 cgb5_2 cgb5_3 cgb5_4 cgb5_5 cgb5_6 cgb5_7 cgb5_8 cgb5_9 cgb5_10 cgb5_11 cgb5_12 cgb5_13
  have BK4:=n0_
  have BK5:=n1_
  have HB:=n2_
  clear n0_ n1_ n2_
  have h:=HH.out
  clear HH
  by_cases c1:t≥0
  rotate_left
  · rw [if_neg c1] at h
    have c1b:decide (0≤t)=false:=decide_eq_false c1
    simp only [Option.some.injEq,Prod.mk.injEq] at h
    obtain ⟨rfl,rfl,rfl,rfl,rfl,rfl,rfl,rfl,rfl,rfl,rfl,rfl,rfl⟩:=h
    clear c1
    have cgb5_0:=(blk_cell BK5.out 0).trans rfl
    have cgb5_1:=(blk_cell BK5.out 1).trans rfl
    have cgb5_2:=(blk_cell BK5.out 2).trans rfl
    have cgb5_3:=(blk_cell BK5.out 3).trans rfl
    have cgb5_4:=(blk_cell BK5.out 4).trans rfl
    have cgb5_5:=(blk_cell BK5.out 5).trans rfl
    have cgb5_6:=(blk_cell BK5.out 6).trans rfl
    have cgb5_7:=(blk_cell BK5.out 7).trans rfl
    have cgb5_8:=(blk_cell BK5.out 8).trans rfl
    have cgb5_9:=(blk_cell BK5.out 9).trans rfl
    have cgb5_10:=(blk_cell BK5.out 10).trans rfl
    have cgb5_11:=(blk_cell BK5.out 11).trans rfl
    have cgb5_12:=(blk_cell BK5.out 12).trans rfl
    have cgb5_13:=(blk_cell BK5.out 13).trans rfl
    go_wp2_with (first|((with_reducible refine gate_store (t:=142) (p:=4) (v:= .tmp 21) rfl ?_);refine store_all BK4.out 142 (.tmp 4) (.tmp 21) rfl rfl rfl (.agg #[.slice A l.length c, .string ⟨#[]⟩, .string ⟨#[]⟩, .int .i64 0, .int .i64 0, .int .i64 0, .int .i64 0, .int .i64 0, .int .i64 0, .int .i64 0, .int .i64 0, .int .i64 0, .int .i64 0, .bool false]) [.slice A l.length c, .string ⟨#[]⟩, .string ⟨#[]⟩, .int .i64 0, .int .i64 0, .int .i64 0, .int .i64 0, .int .i64 0, .int .i64 0, .int .i64 0, .int .i64 0, .int .i64 0, .int .i64 0, .bool false] rfl rfl rfl (by kernel_rfl) rfl (by intro q hq;simp only [List.mem_cons,List.not_mem_nil,or_false] at hq;rcases hq with rfl|rfl|rfl|rfl|rfl|rfl|rfl|rfl|rfl|rfl|rfl|rfl|rfl|rfl<;>rfl) ?_;intro w7 hbk hg;replace BK5:=am_ (blk_put_other BK5.out hg (fun e=>NE.out e.symm));replace HB:=am_ (below_put HB.out (below_size HB.out) hg GE4.out);replace BK4:=am_ (hbk);clear hbk hg))
    refine bodyPost_ret (results_cell_row rfl _ _ gb4 142 #[.slice A l.length c, .string ⟨#[]⟩, .string ⟨#[]⟩, .int .i64 0, .int .i64 0, .int .i64 0, .int .i64 0, .int .i64 0, .int .i64 0, .int .i64 0, .int .i64 0, .int .i64 0, .int .i64 0, .bool false] (0,0) _ rfl BK4.out Try.underlying142 rfl (by kernel_rfl)) rfl ?_
    exact ⟨rfl,HB.out⟩


  rw [if_pos c1] at h
  have c1b:decide (0≤t)=true:=decide_eq_true c1
  by_cases c2:t<(l.length:Int)
  rotate_left
  · rw [if_neg c2] at h
    cases h
  rw [if_pos c2] at h
  simp only [Option.some.injEq,Prod.mk.injEq] at h
  obtain ⟨rfl,rfl,rfl,rfl,rfl,rfl,rfl,rfl,rfl,rfl,rfl,rfl,rfl⟩:=h
  have p6:0≤t:=c1
  have q6:t<(l.length:Int):=c2
  obtain ⟨ad,e6,k0,k1,k2,k3,k4,k5,k6,k7,k8,k9,k10,k11⟩:=at_T31 HR.out t p6 q6
  cases e6
  have k0:=zx_ HB k0
  have k1:=zx_ HB k1
  have k2:=zx_ HB k2
  have k3:=zx_ HB k3
  have k4:=zx_ HB k4
  have k5:=zx_ HB k5
  have k6:=zx_ HB k6
  have k7:=zx_ HB k7
  have k8:=zx_ HB k8
  have k9:=zx_ HB k9
  have k10:=zx_ HB k10
  have k11:=zx_ HB k11
  replace p6:=eq_true p6
  replace q6:=eq_true q6
  clear c1 c2
  have cgb5_0:=(blk_cell BK5.out 0).trans rfl
  have cgb5_1:=(blk_cell BK5.out 1).trans rfl
  have cgb5_2:=(blk_cell BK5.out 2).trans rfl
  have cgb5_3:=(blk_cell BK5.out 3).trans rfl
  have cgb5_4:=(blk_cell BK5.out 4).trans rfl
  have cgb5_5:=(blk_cell BK5.out 5).trans rfl
  have cgb5_6:=(blk_cell BK5.out 6).trans rfl
  have cgb5_7:=(blk_cell BK5.out 7).trans rfl
  have cgb5_8:=(blk_cell BK5.out 8).trans rfl
  have cgb5_9:=(blk_cell BK5.out 9).trans rfl
  have cgb5_10:=(blk_cell BK5.out 10).trans rfl
  have cgb5_11:=(blk_cell BK5.out 11).trans rfl
  have cgb5_12:=(blk_cell BK5.out 12).trans rfl
  have cgb5_13:=(blk_cell BK5.out 13).trans rfl
  go_wp2_with (first|((with_reducible refine gate_store (t:=31) (p:=19) (v:= .tmp 18) rfl ?_);refine store_part BK5.out 31 (.tmp 19) (.tmp 18) rfl rfl rfl 1 (.agg #[.string (rd_T31 l t).f0, .string (rd_T31 l t).f1, .int .i64 (rd_T31 l t).f2.f0, .int .i64 (rd_T31 l t).f2.f1, .int .i64 (rd_T31 l t).f2.f2, .int .i64 (rd_T31 l t).f3.f0, .int .i64 (rd_T31 l t).f3.f1, .int .i64 (rd_T31 l t).f3.f2, .int .i64 (rd_T31 l t).f4.f0, .int .i64 (rd_T31 l t).f4.f1, .int .i64 (rd_T31 l t).f4.f2, .int .i64 (rd_T31 l t).f5]) [.string (rd_T31 l t).f0, .string (rd_T31 l t).f1, .int .i64 (rd_T31 l t).f2.f0, .int .i64 (rd_T31 l t).f2.f1, .int .i64 (rd_T31 l t).f2.f2, .int .i64 (rd_T31 l t).f3.f0, .int .i64 (rd_T31 l t).f3.f1, .int .i64 (rd_T31 l t).f3.f2, .int .i64 (rd_T31 l t).f4.f0, .int .i64 (rd_T31 l t).f4.f1, .int .i64 (rd_T31 l t).f4.f2, .int .i64 (rd_T31 l t).f5] [.slice (some ad) l.length c, .string (rd_T31 l t).f0, .string (rd_T31 l t).f1, .int .i64 (rd_T31 l t).f2.f0, .int .i64 (rd_T31 l t).f2.f1, .int .i64 (rd_T31 l t).f2.f2, .int .i64 (rd_T31 l t).f3.f0, .int .i64 (rd_T31 l t).f3.f1, .int .i64 (rd_T31 l t).f3.f2, .int .i64 (rd_T31 l t).f4.f0, .int .i64 (rd_T31 l t).f4.f1, .int .i64 (rd_T31 l t).f4.f2, .int .i64 (rd_T31 l t).f5, .bool false] rfl rfl rfl (by kernel_rfl) (Nat.le_of_ble_eq_true (by kernel_rfl)) (by intro q hq;simp only [List.mem_cons,List.not_mem_nil,or_false] at hq;rcases hq with rfl|rfl|rfl|rfl|rfl|rfl|rfl|rfl|rfl|rfl|rfl|rfl<;>rfl) (by kernel_rfl) ?_;intro w5 hbk hg;clear cgb5_0 cgb5_1 cgb5_2 cgb5_3 cgb5_4 cgb5_5 cgb5_6 cgb5_7 cgb5_8 cgb5_9 cgb5_10 cgb5_11 cgb5_12 cgb5_13;replace BK4:=am_ (blk_put_other BK4.out hg (NE.out));replace HB:=am_ (below_put HB.out (below_size HB.out) hg GE5.out);replace BK5:=am_ (hbk);clear hbk hg;have cgb5_0:=(blk_cell BK5.out 0).trans rfl;have cgb5_1:=(blk_cell BK5.out 1).trans rfl;have cgb5_2:=(blk_cell BK5.out 2).trans rfl;have cgb5_3:=(blk_cell BK5.out 3).trans rfl;have cgb5_4:=(blk_cell BK5.out 4).trans rfl;have cgb5_5:=(blk_cell BK5.out 5).trans rfl;have cgb5_6:=(blk_cell BK5.out 6).trans rfl;have cgb5_7:=(blk_cell BK5.out 7).trans rfl;have cgb5_8:=(blk_cell BK5.out 8).trans rfl;have cgb5_9:=(blk_cell BK5.out 9).trans rfl;have cgb5_10:=(blk_cell BK5.out 10).trans rfl;have cgb5_11:=(blk_cell BK5.out 11).trans rfl;have cgb5_12:=(blk_cell BK5.out 12).trans rfl;have cgb5_13:=(blk_cell BK5.out 13).trans rfl)|((with_reducible refine gate_store (t:=4) (p:=20) (v:= .const (.bool true)) rfl ?_);refine store_part BK5.out 4 (.tmp 20) (.const (.bool true)) rfl rfl rfl 13 (.bool true) [.bool true] [.slice (some ad) l.length c, .string (rd_T31 l t).f0, .string (rd_T31 l t).f1, .int .i64 (rd_T31 l t).f2.f0, .int .i64 (rd_T31 l t).f2.f1, .int .i64 (rd_T31 l t).f2.f2, .int .i64 (rd_T31 l t).f3.f0, .int .i64 (rd_T31 l t).f3.f1, .int .i64 (rd_T31 l t).f3.f2, .int .i64 (rd_T31 l t).f4.f0, .int .i64 (rd_T31 l t).f4.f1, .int .i64 (rd_T31 l t).f4.f2, .int .i64 (rd_T31 l t).f5, .bool true] rfl rfl rfl (by kernel_rfl) (Nat.le_of_ble_eq_true (by kernel_rfl)) (by intro q hq;simp only [List.mem_cons,List.not_mem_nil,or_false] at hq;rcases hq with rfl<;>rfl) (by kernel_rfl) ?_;intro w6 hbk hg;clear cgb5_0 cgb5_1 cgb5_2 cgb5_3 cgb5_4 cgb5_5 cgb5_6 cgb5_7 cgb5_8 cgb5_9 cgb5_10 cgb5_11 cgb5_12 cgb5_13;replace BK4:=am_ (blk_put_other BK4.out hg (NE.out));replace HB:=am_ (below_put HB.out (below_size HB.out) hg GE5.out);replace BK5:=am_ (hbk);clear hbk hg;have cgb5_0:=(blk_cell BK5.out 0).trans rfl;have cgb5_1:=(blk_cell BK5.out 1).trans rfl;have cgb5_2:=(blk_cell BK5.out 2).trans rfl;have cgb5_3:=(blk_cell BK5.out 3).trans rfl;have cgb5_4:=(blk_cell BK5.out 4).trans rfl;have cgb5_5:=(blk_cell BK5.out 5).trans rfl;have cgb5_6:=(blk_cell BK5.out 6).trans rfl;have cgb5_7:=(blk_cell BK5.out 7).trans rfl;have cgb5_8:=(blk_cell BK5.out 8).trans rfl;have cgb5_9:=(blk_cell BK5.out 9).trans rfl;have cgb5_10:=(blk_cell BK5.out 10).trans rfl;have cgb5_11:=(blk_cell BK5.out 11).trans rfl;have cgb5_12:=(blk_cell BK5.out 12).trans rfl;have cgb5_13:=(blk_cell BK5.out 13).trans rfl)|((with_reducible refine gate_store (t:=142) (p:=4) (v:= .tmp 21) rfl ?_);refine store_all BK4.out 142 (.tmp 4) (.tmp 21) rfl rfl rfl (.agg #[.slice (some ad) l.length c, .string (rd_T31 l t).f0, .string (rd_T31 l t).f1, .int .i64 (rd_T31 l t).f2.f0, .int .i64 (rd_T31 l t).f2.f1, .int .i64 (rd_T31 l t).f2.f2, .int .i64 (rd_T31 l t).f3.f0, .int .i64 (rd_T31 l t).f3.f1, .int .i64 (rd_T31 l t).f3.f2, .int .i64 (rd_T31 l t).f4.f0, .int .i64 (rd_T31 l t).f4.f1, .int .i64 (rd_T31 l t).f4.f2, .int .i64 (rd_T31 l t).f5, .bool true]) [.slice (some ad) l.length c, .string (rd_T31 l t).f0, .string (rd_T31 l t).f1, .int .i64 (rd_T31 l t).f2.f0, .int .i64 (rd_T31 l t).f2.f1, .int .i64 (rd_T31 l t).f2.f2, .int .i64 (rd_T31 l t).f3.f0, .int .i64 (rd_T31 l t).f3.f1, .int .i64 (rd_T31 l t).f3.f2, .int .i64 (rd_T31 l t).f4.f0, .int .i64 (rd_T31 l t).f4.f1, .int .i64 (rd_T31 l t).f4.f2, .int .i64 (rd_T31 l t).f5, .bool true] rfl rfl rfl (by kernel_rfl) rfl (by intro q hq;simp only [List.mem_cons,List.not_mem_nil,or_false] at hq;rcases hq with rfl|rfl|rfl|rfl|rfl|rfl|rfl|rfl|rfl|rfl|rfl|rfl|rfl|rfl<;>rfl) ?_;intro w7 hbk hg;replace BK5:=am_ (blk_put_other BK5.out hg (fun e=>NE.out e.symm));replace HB:=am_ (below_put HB.out (below_size HB.out) hg GE4.out);replace BK4:=am_ (hbk);clear hbk hg))
  refine bodyPost_ret (results_cell_row rfl _ _ gb4 142 #[.slice (some ad) l.length c, .string (rd_T31 l t).f0, .string (rd_T31 l t).f1, .int .i64 (rd_T31 l t).f2.f0, .int .i64 (rd_T31 l t).f2.f1, .int .i64 (rd_T31 l t).f2.f2, .int .i64 (rd_T31 l t).f3.f0, .int .i64 (rd_T31 l t).f3.f1, .int .i64 (rd_T31 l t).f3.f2, .int .i64 (rd_T31 l t).f4.f0, .int .i64 (rd_T31 l t).f4.f1, .int .i64 (rd_T31 l t).f4.f2, .int .i64 (rd_T31 l t).f5, .bool true] (0,0) _ rfl BK4.out Try.underlying142 rfl (by kernel_rfl)) rfl ?_
  exact ⟨rfl,HB.out⟩
attribute [local go_sem high] eqA27
def effect_Holds.f (l0:List (S31)) (k:Int) (n p:ByteArray) (v0 v1 v2:Int):Option Bool:=(effect_find.f l0 n).bind fun r=>some (if k=1 then (r.2.2.2.2.2.2.2.2.2.2.2.2 && ((r.2.1.toList==p.toList) && (r.2.2.1==v0 && (r.2.2.2.1==v1 && (r.2.2.2.2.1==v2))))) else if k=2 then (r.2.2.2.2.2.2.2.2.2.2.2.2 && (r.2.2.1==v0 && (r.2.2.2.1==v1 && (r.2.2.2.2.1==v2)))) else if k=3 then (r.2.2.2.2.2.2.2.2.2.2.2.2 && (r.2.1.toList==p.toList)) else if k=4 then !r.2.2.2.2.2.2.2.2.2.2.2.2 else false)
set_option maxHeartbeats 8000000 in
set_option maxRecDepth 100000 in
theorem effect_Holds.calls (A:Option Addr) (c:Nat) (l:List (S31)) (k:Int) (n p:ByteArray) (v0 v1 v2:Int) (r:Bool) (w:World) (hr:Kd.C k31 w A l.length l) (hc:l.length≤c) (h:effect_Holds.f l k n p v0 v1 v2=some r):
    Calls Try.prog 52 #[.slice A l.length c, .agg #[.int .i64 k, .string n, .string p, .int .i64 v0, .int .i64 v1, .int .i64 v2]] w fun e w'=>e= .returned (.bool r)∧Below w.heap.size w w':=by
  have hu142:=Try.underlying142
  have hu140:=Try.underlying140
  have hu31:=Try.underlying31
  have hu58:=Try.underlying58
  have hu27:=Try.underlying27
  obtain ⟨⟨r2,r3,r4,r5,r6,r7,r8,r9,r10,r11,r12,r13,r14⟩,hf,h⟩:=Option.bind_eq_some_iff.1 h
  have HF:=Aside0.mk hf
  have HH:=Aside0.mk h
  have HR:=Aside0.mk hr
  have HC:=Aside0.mk hc
  have HB:=am_ (Below.refl w.heap.size w)
  clear hr hc hf h
  go_enter Try.func52,Try.ntmps52
  go_wp2_with (first|((with_reducible refine gate_dst (N:=3) rfl ?_);refine bx_ (N:=3) (cs:=#[.int .i64 k, .string n, .string p, .int .i64 v0, .int .i64 v1, .int .i64 v2]) (t:=58) ?_;intro gb3 hg w3 hbox hb;have BK3:=am_ (hbox);have GE3:=am_ ((by rw [hg];exact below_size HB.out:w.heap.size≤gb3));replace HB:=am_ (below_step HB.out hb);have EQ3:=am_ (hg);clear hb hbox hg;have cgb3_0:=(blk_cell BK3.out 0).trans rfl;have cgb3_1:=(blk_cell BK3.out 1).trans rfl;have cgb3_2:=(blk_cell BK3.out 2).trans rfl;have cgb3_3:=(blk_cell BK3.out 3).trans rfl;have cgb3_4:=(blk_cell BK3.out 4).trans rfl;have cgb3_5:=(blk_cell BK3.out 5).trans rfl))
  refine (effFind_calls A c l n r2 r3 r4 r5 r6 r7 r8 r9 r10 r11 r12 r13 r14 _ (Kd.C_below HR.out HB.out) HC.out HF.out).mono ?_
  rintro e w4 ⟨rfl,hb⟩
  have n0_:=am_ (blk_below BK3.out hb)
  have nB_:=am_ (below_step HB.out hb)
  clear BK3 HB hb cgb3_0 cgb3_1 cgb3_2 cgb3_3 cgb3_4 cgb3_5
  have BK3:=n0_
  have HB:=nB_
  clear nB_ n0_
  have h:=HH.out
  clear HH
  have HQ:=am_ (Option.some.inj h)
  clear h
  by_cases k1:k=1
  · subst k1
    rcases Bool.eq_false_or_eq_true r14 with q14|q14
    rotate_left
    · skip
      subst q14
      go_wp2_with (first|((with_reducible refine gate_dst (N:=5) rfl ?_);refine bx_ (N:=5) (cs:=#[.slice none 0 0, .string ⟨#[]⟩, .string ⟨#[]⟩, .int .i64 0, .int .i64 0, .int .i64 0, .int .i64 0, .int .i64 0, .int .i64 0, .int .i64 0, .int .i64 0, .int .i64 0, .int .i64 0, .bool false]) (t:=142) ?_;intro gb5 hg w5 hbox hb;have NE:=am_ (show gb3≠gb5 from by have:=blk_lt BK3.out;rw [hg];exact Nat.ne_of_lt this);replace BK3:=am_ (blk_below BK3.out hb);have BK5:=am_ (hbox);have GE5:=am_ ((by rw [hg];exact below_size HB.out:w.heap.size≤gb5));replace HB:=am_ (below_step HB.out hb);have EQ5:=am_ (hg);clear hb hbox hg)|((with_reducible refine gate_store (t:=142) (p:=5) (v:= .tmp 9) rfl ?_);refine store_all BK5.out 142 (.tmp 5) (.tmp 9) rfl rfl rfl (.agg #[.slice A l.length c, .string r2, .string r3, .int .i64 r4, .int .i64 r5, .int .i64 r6, .int .i64 r7, .int .i64 r8, .int .i64 r9, .int .i64 r10, .int .i64 r11, .int .i64 r12, .int .i64 r13, .bool false]) [.slice A l.length c, .string r2, .string r3, .int .i64 r4, .int .i64 r5, .int .i64 r6, .int .i64 r7, .int .i64 r8, .int .i64 r9, .int .i64 r10, .int .i64 r11, .int .i64 r12, .int .i64 r13, .bool false] rfl rfl rfl (by kernel_rfl) rfl (by intro q hq;simp only [List.mem_cons,List.not_mem_nil,or_false] at hq;rcases hq with rfl|rfl|rfl|rfl|rfl|rfl|rfl|rfl|rfl|rfl|rfl|rfl|rfl|rfl<;>rfl) ?_;intro w6 hbk hg;replace BK3:=am_ (blk_put_other BK3.out hg (NE.out));replace HB:=am_ (below_put HB.out (below_size HB.out) hg GE5.out);replace BK5:=am_ (hbk);clear hbk hg;have cgb5_0:=(blk_cell BK5.out 0).trans rfl;have cgb5_1:=(blk_cell BK5.out 1).trans rfl;have cgb5_2:=(blk_cell BK5.out 2).trans rfl;have cgb5_3:=(blk_cell BK5.out 3).trans rfl;have cgb5_4:=(blk_cell BK5.out 4).trans rfl;have cgb5_5:=(blk_cell BK5.out 5).trans rfl;have cgb5_6:=(blk_cell BK5.out 6).trans rfl;have cgb5_7:=(blk_cell BK5.out 7).trans rfl;have cgb5_8:=(blk_cell BK5.out 8).trans rfl;have cgb5_9:=(blk_cell BK5.out 9).trans rfl;have cgb5_10:=(blk_cell BK5.out 10).trans rfl;have cgb5_11:=(blk_cell BK5.out 11).trans rfl;have cgb5_12:=(blk_cell BK5.out 12).trans rfl;have cgb5_13:=(blk_cell BK5.out 13).trans rfl;have cgb3_0:=(blk_cell BK3.out 0).trans rfl;have cgb3_1:=(blk_cell BK3.out 1).trans rfl;have cgb3_2:=(blk_cell BK3.out 2).trans rfl;have cgb3_3:=(blk_cell BK3.out 3).trans rfl;have cgb3_4:=(blk_cell BK3.out 4).trans rfl;have cgb3_5:=(blk_cell BK3.out 5).trans rfl))
      go_ret
      exact ⟨by rw [←HQ.out];simp [*],HB.out⟩
    by_cases c1:r3.toList=p.toList
    · have c1b : (r3.toList == p.toList) = true := beq_iff_eq.mpr c1
      subst q14
      go_wp2_with (first|((with_reducible refine gate_dst (N:=5) rfl ?_);refine bx_ (N:=5) (cs:=#[.slice none 0 0, .string ⟨#[]⟩, .string ⟨#[]⟩, .int .i64 0, .int .i64 0, .int .i64 0, .int .i64 0, .int .i64 0, .int .i64 0, .int .i64 0, .int .i64 0, .int .i64 0, .int .i64 0, .bool false]) (t:=142) ?_;intro gb5 hg w5 hbox hb;have NE:=am_ (show gb3≠gb5 from by have:=blk_lt BK3.out;rw [hg];exact Nat.ne_of_lt this);replace BK3:=am_ (blk_below BK3.out hb);have BK5:=am_ (hbox);have GE5:=am_ ((by rw [hg];exact below_size HB.out:w.heap.size≤gb5));replace HB:=am_ (below_step HB.out hb);have EQ5:=am_ (hg);clear hb hbox hg)|((with_reducible refine gate_store (t:=142) (p:=5) (v:= .tmp 9) rfl ?_);refine store_all BK5.out 142 (.tmp 5) (.tmp 9) rfl rfl rfl (.agg #[.slice A l.length c, .string r2, .string r3, .int .i64 r4, .int .i64 r5, .int .i64 r6, .int .i64 r7, .int .i64 r8, .int .i64 r9, .int .i64 r10, .int .i64 r11, .int .i64 r12, .int .i64 r13, .bool true]) [.slice A l.length c, .string r2, .string r3, .int .i64 r4, .int .i64 r5, .int .i64 r6, .int .i64 r7, .int .i64 r8, .int .i64 r9, .int .i64 r10, .int .i64 r11, .int .i64 r12, .int .i64 r13, .bool true] rfl rfl rfl (by kernel_rfl) rfl (by intro q hq;simp only [List.mem_cons,List.not_mem_nil,or_false] at hq;rcases hq with rfl|rfl|rfl|rfl|rfl|rfl|rfl|rfl|rfl|rfl|rfl|rfl|rfl|rfl<;>rfl) ?_;intro w6 hbk hg;replace BK3:=am_ (blk_put_other BK3.out hg (NE.out));replace HB:=am_ (below_put HB.out (below_size HB.out) hg GE5.out);replace BK5:=am_ (hbk);clear hbk hg;have cgb5_0:=(blk_cell BK5.out 0).trans rfl;have cgb5_1:=(blk_cell BK5.out 1).trans rfl;have cgb5_2:=(blk_cell BK5.out 2).trans rfl;have cgb5_3:=(blk_cell BK5.out 3).trans rfl;have cgb5_4:=(blk_cell BK5.out 4).trans rfl;have cgb5_5:=(blk_cell BK5.out 5).trans rfl;have cgb5_6:=(blk_cell BK5.out 6).trans rfl;have cgb5_7:=(blk_cell BK5.out 7).trans rfl;have cgb5_8:=(blk_cell BK5.out 8).trans rfl;have cgb5_9:=(blk_cell BK5.out 9).trans rfl;have cgb5_10:=(blk_cell BK5.out 10).trans rfl;have cgb5_11:=(blk_cell BK5.out 11).trans rfl;have cgb5_12:=(blk_cell BK5.out 12).trans rfl;have cgb5_13:=(blk_cell BK5.out 13).trans rfl;have cgb3_0:=(blk_cell BK3.out 0).trans rfl;have cgb3_1:=(blk_cell BK3.out 1).trans rfl;have cgb3_2:=(blk_cell BK3.out 2).trans rfl;have cgb3_3:=(blk_cell BK3.out 3).trans rfl;have cgb3_4:=(blk_cell BK3.out 4).trans rfl;have cgb3_5:=(blk_cell BK3.out 5).trans rfl))
      go_ret
      exact ⟨by rw [←HQ.out];simp [*],HB.out⟩
    have c1b:(r3.toList==p.toList)=false:=beq_eq_false_iff_ne.mpr c1
    subst q14
    go_wp2_with (first|((with_reducible refine gate_dst (N:=5) rfl ?_);refine bx_ (N:=5) (cs:=#[.slice none 0 0, .string ⟨#[]⟩, .string ⟨#[]⟩, .int .i64 0, .int .i64 0, .int .i64 0, .int .i64 0, .int .i64 0, .int .i64 0, .int .i64 0, .int .i64 0, .int .i64 0, .int .i64 0, .bool false]) (t:=142) ?_;intro gb5 hg w5 hbox hb;have NE:=am_ (show gb3≠gb5 from by have:=blk_lt BK3.out;rw [hg];exact Nat.ne_of_lt this);replace BK3:=am_ (blk_below BK3.out hb);have BK5:=am_ (hbox);have GE5:=am_ ((by rw [hg];exact below_size HB.out:w.heap.size≤gb5));replace HB:=am_ (below_step HB.out hb);have EQ5:=am_ (hg);clear hb hbox hg)|((with_reducible refine gate_store (t:=142) (p:=5) (v:= .tmp 9) rfl ?_);refine store_all BK5.out 142 (.tmp 5) (.tmp 9) rfl rfl rfl (.agg #[.slice A l.length c, .string r2, .string r3, .int .i64 r4, .int .i64 r5, .int .i64 r6, .int .i64 r7, .int .i64 r8, .int .i64 r9, .int .i64 r10, .int .i64 r11, .int .i64 r12, .int .i64 r13, .bool true]) [.slice A l.length c, .string r2, .string r3, .int .i64 r4, .int .i64 r5, .int .i64 r6, .int .i64 r7, .int .i64 r8, .int .i64 r9, .int .i64 r10, .int .i64 r11, .int .i64 r12, .int .i64 r13, .bool true] rfl rfl rfl (by kernel_rfl) rfl (by intro q hq;simp only [List.mem_cons,List.not_mem_nil,or_false] at hq;rcases hq with rfl|rfl|rfl|rfl|rfl|rfl|rfl|rfl|rfl|rfl|rfl|rfl|rfl|rfl<;>rfl) ?_;intro w6 hbk hg;replace BK3:=am_ (blk_put_other BK3.out hg (NE.out));replace HB:=am_ (below_put HB.out (below_size HB.out) hg GE5.out);replace BK5:=am_ (hbk);clear hbk hg;have cgb5_0:=(blk_cell BK5.out 0).trans rfl;have cgb5_1:=(blk_cell BK5.out 1).trans rfl;have cgb5_2:=(blk_cell BK5.out 2).trans rfl;have cgb5_3:=(blk_cell BK5.out 3).trans rfl;have cgb5_4:=(blk_cell BK5.out 4).trans rfl;have cgb5_5:=(blk_cell BK5.out 5).trans rfl;have cgb5_6:=(blk_cell BK5.out 6).trans rfl;have cgb5_7:=(blk_cell BK5.out 7).trans rfl;have cgb5_8:=(blk_cell BK5.out 8).trans rfl;have cgb5_9:=(blk_cell BK5.out 9).trans rfl;have cgb5_10:=(blk_cell BK5.out 10).trans rfl;have cgb5_11:=(blk_cell BK5.out 11).trans rfl;have cgb5_12:=(blk_cell BK5.out 12).trans rfl;have cgb5_13:=(blk_cell BK5.out 13).trans rfl;have cgb3_0:=(blk_cell BK3.out 0).trans rfl;have cgb3_1:=(blk_cell BK3.out 1).trans rfl;have cgb3_2:=(blk_cell BK3.out 2).trans rfl;have cgb3_3:=(blk_cell BK3.out 3).trans rfl;have cgb3_4:=(blk_cell BK3.out 4).trans rfl;have cgb3_5:=(blk_cell BK3.out 5).trans rfl))
    go_ret
    exact ⟨by rw [←HQ.out];simp [*],HB.out⟩
  skip
  have k1b:(k==1)=false:=beq_eq_false_iff_ne.mpr k1
  by_cases k2:k=2
  · subst k2
    clear k1 k1b
    rcases Bool.eq_false_or_eq_true r14 with q14|q14
    · skip
      subst q14
      go_wp2_with (first|((with_reducible refine gate_dst (N:=5) rfl ?_);refine bx_ (N:=5) (cs:=#[.slice none 0 0, .string ⟨#[]⟩, .string ⟨#[]⟩, .int .i64 0, .int .i64 0, .int .i64 0, .int .i64 0, .int .i64 0, .int .i64 0, .int .i64 0, .int .i64 0, .int .i64 0, .int .i64 0, .bool false]) (t:=142) ?_;intro gb5 hg w5 hbox hb;have NE:=am_ (show gb3≠gb5 from by have:=blk_lt BK3.out;rw [hg];exact Nat.ne_of_lt this);replace BK3:=am_ (blk_below BK3.out hb);have BK5:=am_ (hbox);have GE5:=am_ ((by rw [hg];exact below_size HB.out:w.heap.size≤gb5));replace HB:=am_ (below_step HB.out hb);have EQ5:=am_ (hg);clear hb hbox hg)|((with_reducible refine gate_store (t:=142) (p:=5) (v:= .tmp 9) rfl ?_);refine store_all BK5.out 142 (.tmp 5) (.tmp 9) rfl rfl rfl (.agg #[.slice A l.length c, .string r2, .string r3, .int .i64 r4, .int .i64 r5, .int .i64 r6, .int .i64 r7, .int .i64 r8, .int .i64 r9, .int .i64 r10, .int .i64 r11, .int .i64 r12, .int .i64 r13, .bool true]) [.slice A l.length c, .string r2, .string r3, .int .i64 r4, .int .i64 r5, .int .i64 r6, .int .i64 r7, .int .i64 r8, .int .i64 r9, .int .i64 r10, .int .i64 r11, .int .i64 r12, .int .i64 r13, .bool true] rfl rfl rfl (by kernel_rfl) rfl (by intro q hq;simp only [List.mem_cons,List.not_mem_nil,or_false] at hq;rcases hq with rfl|rfl|rfl|rfl|rfl|rfl|rfl|rfl|rfl|rfl|rfl|rfl|rfl|rfl<;>rfl) ?_;intro w6 hbk hg;replace BK3:=am_ (blk_put_other BK3.out hg (NE.out));replace HB:=am_ (below_put HB.out (below_size HB.out) hg GE5.out);replace BK5:=am_ (hbk);clear hbk hg;have cgb5_0:=(blk_cell BK5.out 0).trans rfl;have cgb5_1:=(blk_cell BK5.out 1).trans rfl;have cgb5_2:=(blk_cell BK5.out 2).trans rfl;have cgb5_3:=(blk_cell BK5.out 3).trans rfl;have cgb5_4:=(blk_cell BK5.out 4).trans rfl;have cgb5_5:=(blk_cell BK5.out 5).trans rfl;have cgb5_6:=(blk_cell BK5.out 6).trans rfl;have cgb5_7:=(blk_cell BK5.out 7).trans rfl;have cgb5_8:=(blk_cell BK5.out 8).trans rfl;have cgb5_9:=(blk_cell BK5.out 9).trans rfl;have cgb5_10:=(blk_cell BK5.out 10).trans rfl;have cgb5_11:=(blk_cell BK5.out 11).trans rfl;have cgb5_12:=(blk_cell BK5.out 12).trans rfl;have cgb5_13:=(blk_cell BK5.out 13).trans rfl;have cgb3_0:=(blk_cell BK3.out 0).trans rfl;have cgb3_1:=(blk_cell BK3.out 1).trans rfl;have cgb3_2:=(blk_cell BK3.out 2).trans rfl;have cgb3_3:=(blk_cell BK3.out 3).trans rfl;have cgb3_4:=(blk_cell BK3.out 4).trans rfl;have cgb3_5:=(blk_cell BK3.out 5).trans rfl))
      go_ret
      exact ⟨by rw [←HQ.out];simp [*],HB.out⟩
    skip
    subst q14
    go_wp2_with (first|((with_reducible refine gate_dst (N:=5) rfl ?_);refine bx_ (N:=5) (cs:=#[.slice none 0 0, .string ⟨#[]⟩, .string ⟨#[]⟩, .int .i64 0, .int .i64 0, .int .i64 0, .int .i64 0, .int .i64 0, .int .i64 0, .int .i64 0, .int .i64 0, .int .i64 0, .int .i64 0, .bool false]) (t:=142) ?_;intro gb5 hg w5 hbox hb;have NE:=am_ (show gb3≠gb5 from by have:=blk_lt BK3.out;rw [hg];exact Nat.ne_of_lt this);replace BK3:=am_ (blk_below BK3.out hb);have BK5:=am_ (hbox);have GE5:=am_ ((by rw [hg];exact below_size HB.out:w.heap.size≤gb5));replace HB:=am_ (below_step HB.out hb);have EQ5:=am_ (hg);clear hb hbox hg)|((with_reducible refine gate_store (t:=142) (p:=5) (v:= .tmp 9) rfl ?_);refine store_all BK5.out 142 (.tmp 5) (.tmp 9) rfl rfl rfl (.agg #[.slice A l.length c, .string r2, .string r3, .int .i64 r4, .int .i64 r5, .int .i64 r6, .int .i64 r7, .int .i64 r8, .int .i64 r9, .int .i64 r10, .int .i64 r11, .int .i64 r12, .int .i64 r13, .bool false]) [.slice A l.length c, .string r2, .string r3, .int .i64 r4, .int .i64 r5, .int .i64 r6, .int .i64 r7, .int .i64 r8, .int .i64 r9, .int .i64 r10, .int .i64 r11, .int .i64 r12, .int .i64 r13, .bool false] rfl rfl rfl (by kernel_rfl) rfl (by intro q hq;simp only [List.mem_cons,List.not_mem_nil,or_false] at hq;rcases hq with rfl|rfl|rfl|rfl|rfl|rfl|rfl|rfl|rfl|rfl|rfl|rfl|rfl|rfl<;>rfl) ?_;intro w6 hbk hg;replace BK3:=am_ (blk_put_other BK3.out hg (NE.out));replace HB:=am_ (below_put HB.out (below_size HB.out) hg GE5.out);replace BK5:=am_ (hbk);clear hbk hg;have cgb5_0:=(blk_cell BK5.out 0).trans rfl;have cgb5_1:=(blk_cell BK5.out 1).trans rfl;have cgb5_2:=(blk_cell BK5.out 2).trans rfl;have cgb5_3:=(blk_cell BK5.out 3).trans rfl;have cgb5_4:=(blk_cell BK5.out 4).trans rfl;have cgb5_5:=(blk_cell BK5.out 5).trans rfl;have cgb5_6:=(blk_cell BK5.out 6).trans rfl;have cgb5_7:=(blk_cell BK5.out 7).trans rfl;have cgb5_8:=(blk_cell BK5.out 8).trans rfl;have cgb5_9:=(blk_cell BK5.out 9).trans rfl;have cgb5_10:=(blk_cell BK5.out 10).trans rfl;have cgb5_11:=(blk_cell BK5.out 11).trans rfl;have cgb5_12:=(blk_cell BK5.out 12).trans rfl;have cgb5_13:=(blk_cell BK5.out 13).trans rfl;have cgb3_0:=(blk_cell BK3.out 0).trans rfl;have cgb3_1:=(blk_cell BK3.out 1).trans rfl;have cgb3_2:=(blk_cell BK3.out 2).trans rfl;have cgb3_3:=(blk_cell BK3.out 3).trans rfl;have cgb3_4:=(blk_cell BK3.out 4).trans rfl;have cgb3_5:=(blk_cell BK3.out 5).trans rfl))
    go_ret
    exact ⟨by rw [←HQ.out];simp [*],HB.out⟩
  skip
  have k2b:(k==2)=false:=beq_eq_false_iff_ne.mpr k2
  by_cases k3:k=3
  · subst k3
    clear k1 k2 k1b k2b
    rcases Bool.eq_false_or_eq_true r14 with q14|q14
    · skip
      subst q14
      go_wp2_with (first|((with_reducible refine gate_dst (N:=5) rfl ?_);refine bx_ (N:=5) (cs:=#[.slice none 0 0, .string ⟨#[]⟩, .string ⟨#[]⟩, .int .i64 0, .int .i64 0, .int .i64 0, .int .i64 0, .int .i64 0, .int .i64 0, .int .i64 0, .int .i64 0, .int .i64 0, .int .i64 0, .bool false]) (t:=142) ?_;intro gb5 hg w5 hbox hb;have NE:=am_ (show gb3≠gb5 from by have:=blk_lt BK3.out;rw [hg];exact Nat.ne_of_lt this);replace BK3:=am_ (blk_below BK3.out hb);have BK5:=am_ (hbox);have GE5:=am_ ((by rw [hg];exact below_size HB.out:w.heap.size≤gb5));replace HB:=am_ (below_step HB.out hb);have EQ5:=am_ (hg);clear hb hbox hg)|((with_reducible refine gate_store (t:=142) (p:=5) (v:= .tmp 9) rfl ?_);refine store_all BK5.out 142 (.tmp 5) (.tmp 9) rfl rfl rfl (.agg #[.slice A l.length c, .string r2, .string r3, .int .i64 r4, .int .i64 r5, .int .i64 r6, .int .i64 r7, .int .i64 r8, .int .i64 r9, .int .i64 r10, .int .i64 r11, .int .i64 r12, .int .i64 r13, .bool true]) [.slice A l.length c, .string r2, .string r3, .int .i64 r4, .int .i64 r5, .int .i64 r6, .int .i64 r7, .int .i64 r8, .int .i64 r9, .int .i64 r10, .int .i64 r11, .int .i64 r12, .int .i64 r13, .bool true] rfl rfl rfl (by kernel_rfl) rfl (by intro q hq;simp only [List.mem_cons,List.not_mem_nil,or_false] at hq;rcases hq with rfl|rfl|rfl|rfl|rfl|rfl|rfl|rfl|rfl|rfl|rfl|rfl|rfl|rfl<;>rfl) ?_;intro w6 hbk hg;replace BK3:=am_ (blk_put_other BK3.out hg (NE.out));replace HB:=am_ (below_put HB.out (below_size HB.out) hg GE5.out);replace BK5:=am_ (hbk);clear hbk hg;have cgb5_0:=(blk_cell BK5.out 0).trans rfl;have cgb5_1:=(blk_cell BK5.out 1).trans rfl;have cgb5_2:=(blk_cell BK5.out 2).trans rfl;have cgb5_3:=(blk_cell BK5.out 3).trans rfl;have cgb5_4:=(blk_cell BK5.out 4).trans rfl;have cgb5_5:=(blk_cell BK5.out 5).trans rfl;have cgb5_6:=(blk_cell BK5.out 6).trans rfl;have cgb5_7:=(blk_cell BK5.out 7).trans rfl;have cgb5_8:=(blk_cell BK5.out 8).trans rfl;have cgb5_9:=(blk_cell BK5.out 9).trans rfl;have cgb5_10:=(blk_cell BK5.out 10).trans rfl;have cgb5_11:=(blk_cell BK5.out 11).trans rfl;have cgb5_12:=(blk_cell BK5.out 12).trans rfl;have cgb5_13:=(blk_cell BK5.out 13).trans rfl;have cgb3_0:=(blk_cell BK3.out 0).trans rfl;have cgb3_1:=(blk_cell BK3.out 1).trans rfl;have cgb3_2:=(blk_cell BK3.out 2).trans rfl;have cgb3_3:=(blk_cell BK3.out 3).trans rfl;have cgb3_4:=(blk_cell BK3.out 4).trans rfl;have cgb3_5:=(blk_cell BK3.out 5).trans rfl))
      go_ret
      exact ⟨by rw [←HQ.out];simp [*],HB.out⟩
    skip
    subst q14
    go_wp2_with (first|((with_reducible refine gate_dst (N:=5) rfl ?_);refine bx_ (N:=5) (cs:=#[.slice none 0 0, .string ⟨#[]⟩, .string ⟨#[]⟩, .int .i64 0, .int .i64 0, .int .i64 0, .int .i64 0, .int .i64 0, .int .i64 0, .int .i64 0, .int .i64 0, .int .i64 0, .int .i64 0, .bool false]) (t:=142) ?_;intro gb5 hg w5 hbox hb;have NE:=am_ (show gb3≠gb5 from by have:=blk_lt BK3.out;rw [hg];exact Nat.ne_of_lt this);replace BK3:=am_ (blk_below BK3.out hb);have BK5:=am_ (hbox);have GE5:=am_ ((by rw [hg];exact below_size HB.out:w.heap.size≤gb5));replace HB:=am_ (below_step HB.out hb);have EQ5:=am_ (hg);clear hb hbox hg)|((with_reducible refine gate_store (t:=142) (p:=5) (v:= .tmp 9) rfl ?_);refine store_all BK5.out 142 (.tmp 5) (.tmp 9) rfl rfl rfl (.agg #[.slice A l.length c, .string r2, .string r3, .int .i64 r4, .int .i64 r5, .int .i64 r6, .int .i64 r7, .int .i64 r8, .int .i64 r9, .int .i64 r10, .int .i64 r11, .int .i64 r12, .int .i64 r13, .bool false]) [.slice A l.length c, .string r2, .string r3, .int .i64 r4, .int .i64 r5, .int .i64 r6, .int .i64 r7, .int .i64 r8, .int .i64 r9, .int .i64 r10, .int .i64 r11, .int .i64 r12, .int .i64 r13, .bool false] rfl rfl rfl (by kernel_rfl) rfl (by intro q hq;simp only [List.mem_cons,List.not_mem_nil,or_false] at hq;rcases hq with rfl|rfl|rfl|rfl|rfl|rfl|rfl|rfl|rfl|rfl|rfl|rfl|rfl|rfl<;>rfl) ?_;intro w6 hbk hg;replace BK3:=am_ (blk_put_other BK3.out hg (NE.out));replace HB:=am_ (below_put HB.out (below_size HB.out) hg GE5.out);replace BK5:=am_ (hbk);clear hbk hg;have cgb5_0:=(blk_cell BK5.out 0).trans rfl;have cgb5_1:=(blk_cell BK5.out 1).trans rfl;have cgb5_2:=(blk_cell BK5.out 2).trans rfl;have cgb5_3:=(blk_cell BK5.out 3).trans rfl;have cgb5_4:=(blk_cell BK5.out 4).trans rfl;have cgb5_5:=(blk_cell BK5.out 5).trans rfl;have cgb5_6:=(blk_cell BK5.out 6).trans rfl;have cgb5_7:=(blk_cell BK5.out 7).trans rfl;have cgb5_8:=(blk_cell BK5.out 8).trans rfl;have cgb5_9:=(blk_cell BK5.out 9).trans rfl;have cgb5_10:=(blk_cell BK5.out 10).trans rfl;have cgb5_11:=(blk_cell BK5.out 11).trans rfl;have cgb5_12:=(blk_cell BK5.out 12).trans rfl;have cgb5_13:=(blk_cell BK5.out 13).trans rfl;have cgb3_0:=(blk_cell BK3.out 0).trans rfl;have cgb3_1:=(blk_cell BK3.out 1).trans rfl;have cgb3_2:=(blk_cell BK3.out 2).trans rfl;have cgb3_3:=(blk_cell BK3.out 3).trans rfl;have cgb3_4:=(blk_cell BK3.out 4).trans rfl;have cgb3_5:=(blk_cell BK3.out 5).trans rfl))
    go_ret
    exact ⟨by rw [←HQ.out];simp [*],HB.out⟩
  skip
  have k3b:(k==3)=false:=beq_eq_false_iff_ne.mpr k3
  by_cases k4:k=4
  · subst k4
    clear k1 k2 k3 k1b k2b k3b
    go_wp2_with (first|((with_reducible refine gate_dst (N:=5) rfl ?_);refine bx_ (N:=5) (cs:=#[.slice none 0 0, .string ⟨#[]⟩, .string ⟨#[]⟩, .int .i64 0, .int .i64 0, .int .i64 0, .int .i64 0, .int .i64 0, .int .i64 0, .int .i64 0, .int .i64 0, .int .i64 0, .int .i64 0, .bool false]) (t:=142) ?_;intro gb5 hg w5 hbox hb;have NE:=am_ (show gb3≠gb5 from by have:=blk_lt BK3.out;rw [hg];exact Nat.ne_of_lt this);replace BK3:=am_ (blk_below BK3.out hb);have BK5:=am_ (hbox);have GE5:=am_ ((by rw [hg];exact below_size HB.out:w.heap.size≤gb5));replace HB:=am_ (below_step HB.out hb);have EQ5:=am_ (hg);clear hb hbox hg)|((with_reducible refine gate_store (t:=142) (p:=5) (v:= .tmp 9) rfl ?_);refine store_all BK5.out 142 (.tmp 5) (.tmp 9) rfl rfl rfl (.agg #[.slice A l.length c, .string r2, .string r3, .int .i64 r4, .int .i64 r5, .int .i64 r6, .int .i64 r7, .int .i64 r8, .int .i64 r9, .int .i64 r10, .int .i64 r11, .int .i64 r12, .int .i64 r13, .bool r14]) [.slice A l.length c, .string r2, .string r3, .int .i64 r4, .int .i64 r5, .int .i64 r6, .int .i64 r7, .int .i64 r8, .int .i64 r9, .int .i64 r10, .int .i64 r11, .int .i64 r12, .int .i64 r13, .bool r14] rfl rfl rfl (by kernel_rfl) rfl (by intro q hq;simp only [List.mem_cons,List.not_mem_nil,or_false] at hq;rcases hq with rfl|rfl|rfl|rfl|rfl|rfl|rfl|rfl|rfl|rfl|rfl|rfl|rfl|rfl<;>rfl) ?_;intro w6 hbk hg;replace BK3:=am_ (blk_put_other BK3.out hg (NE.out));replace HB:=am_ (below_put HB.out (below_size HB.out) hg GE5.out);replace BK5:=am_ (hbk);clear hbk hg;have cgb5_0:=(blk_cell BK5.out 0).trans rfl;have cgb5_1:=(blk_cell BK5.out 1).trans rfl;have cgb5_2:=(blk_cell BK5.out 2).trans rfl;have cgb5_3:=(blk_cell BK5.out 3).trans rfl;have cgb5_4:=(blk_cell BK5.out 4).trans rfl;have cgb5_5:=(blk_cell BK5.out 5).trans rfl;have cgb5_6:=(blk_cell BK5.out 6).trans rfl;have cgb5_7:=(blk_cell BK5.out 7).trans rfl;have cgb5_8:=(blk_cell BK5.out 8).trans rfl;have cgb5_9:=(blk_cell BK5.out 9).trans rfl;have cgb5_10:=(blk_cell BK5.out 10).trans rfl;have cgb5_11:=(blk_cell BK5.out 11).trans rfl;have cgb5_12:=(blk_cell BK5.out 12).trans rfl;have cgb5_13:=(blk_cell BK5.out 13).trans rfl;have cgb3_0:=(blk_cell BK3.out 0).trans rfl;have cgb3_1:=(blk_cell BK3.out 1).trans rfl;have cgb3_2:=(blk_cell BK3.out 2).trans rfl;have cgb3_3:=(blk_cell BK3.out 3).trans rfl;have cgb3_4:=(blk_cell BK3.out 4).trans rfl;have cgb3_5:=(blk_cell BK3.out 5).trans rfl))
    go_ret
    exact ⟨by rw [←HQ.out];rfl,HB.out⟩
  skip
  have k4b:(k==4)=false:=beq_eq_false_iff_ne.mpr k4
  go_wp2_with (first|((with_reducible refine gate_dst (N:=5) rfl ?_);refine bx_ (N:=5) (cs:=#[.slice none 0 0, .string ⟨#[]⟩, .string ⟨#[]⟩, .int .i64 0, .int .i64 0, .int .i64 0, .int .i64 0, .int .i64 0, .int .i64 0, .int .i64 0, .int .i64 0, .int .i64 0, .int .i64 0, .bool false]) (t:=142) ?_;intro gb5 hg w5 hbox hb;have NE:=am_ (show gb3≠gb5 from by have:=blk_lt BK3.out;rw [hg];exact Nat.ne_of_lt this);replace BK3:=am_ (blk_below BK3.out hb);have BK5:=am_ (hbox);have GE5:=am_ ((by rw [hg];exact below_size HB.out:w.heap.size≤gb5));replace HB:=am_ (below_step HB.out hb);have EQ5:=am_ (hg);clear hb hbox hg)|((with_reducible refine gate_store (t:=142) (p:=5) (v:= .tmp 9) rfl ?_);refine store_all BK5.out 142 (.tmp 5) (.tmp 9) rfl rfl rfl (.agg #[.slice A l.length c, .string r2, .string r3, .int .i64 r4, .int .i64 r5, .int .i64 r6, .int .i64 r7, .int .i64 r8, .int .i64 r9, .int .i64 r10, .int .i64 r11, .int .i64 r12, .int .i64 r13, .bool r14]) [.slice A l.length c, .string r2, .string r3, .int .i64 r4, .int .i64 r5, .int .i64 r6, .int .i64 r7, .int .i64 r8, .int .i64 r9, .int .i64 r10, .int .i64 r11, .int .i64 r12, .int .i64 r13, .bool r14] rfl rfl rfl (by kernel_rfl) rfl (by intro q hq;simp only [List.mem_cons,List.not_mem_nil,or_false] at hq;rcases hq with rfl|rfl|rfl|rfl|rfl|rfl|rfl|rfl|rfl|rfl|rfl|rfl|rfl|rfl<;>rfl) ?_;intro w6 hbk hg;replace BK3:=am_ (blk_put_other BK3.out hg (NE.out));replace HB:=am_ (below_put HB.out (below_size HB.out) hg GE5.out);replace BK5:=am_ (hbk);clear hbk hg;have cgb5_0:=(blk_cell BK5.out 0).trans rfl;have cgb5_1:=(blk_cell BK5.out 1).trans rfl;have cgb5_2:=(blk_cell BK5.out 2).trans rfl;have cgb5_3:=(blk_cell BK5.out 3).trans rfl;have cgb5_4:=(blk_cell BK5.out 4).trans rfl;have cgb5_5:=(blk_cell BK5.out 5).trans rfl;have cgb5_6:=(blk_cell BK5.out 6).trans rfl;have cgb5_7:=(blk_cell BK5.out 7).trans rfl;have cgb5_8:=(blk_cell BK5.out 8).trans rfl;have cgb5_9:=(blk_cell BK5.out 9).trans rfl;have cgb5_10:=(blk_cell BK5.out 10).trans rfl;have cgb5_11:=(blk_cell BK5.out 11).trans rfl;have cgb5_12:=(blk_cell BK5.out 12).trans rfl;have cgb5_13:=(blk_cell BK5.out 13).trans rfl;have cgb3_0:=(blk_cell BK3.out 0).trans rfl;have cgb3_1:=(blk_cell BK3.out 1).trans rfl;have cgb3_2:=(blk_cell BK3.out 2).trans rfl;have cgb3_3:=(blk_cell BK3.out 3).trans rfl;have cgb3_4:=(blk_cell BK3.out 4).trans rfl;have cgb3_5:=(blk_cell BK3.out 5).trans rfl))
  go_ret
  exact ⟨by rw [←HQ.out];simp [*],HB.out⟩


def slices_Clone_Mark.f (l0:List (S54)):Option (List (S54)):=if l0.length<2199023255552 then some l0 else none
set_option maxHeartbeats 8000000 in
set_option maxRecDepth 100000 in
theorem slices_Clone_Mark.calls (A0:Option Addr) (c0:Nat) (l0:List (S54)) (r:List (S54)) (w:World) (hr0:Kd.C k54 w A0 l0.length l0) (hc0:l0.length≤c0) (h:slices_Clone_Mark.f l0=some r):
    Calls Try.prog 112 #[.slice A0 l0.length c0] w fun e w'=> ∃v0_:Value,e= .returned (v0_)∧Kd.R k54 54 w' w.heap.size (fun _=>True) v0_ r∧Below w.heap.size w w':=by
  have hlim:l0.length<2199023255552∧l0=r:=by
    unfold slices_Clone_Mark.f at h
    split at h
    · exact ⟨by assumption,Option.some.inj h⟩
    cases h
  obtain ⟨hlim,rfl⟩:=hlim
  have hnil:=fun (W:World) (n c:Nat)=>Lib.run_eql_slice_nil (P:=Try.prog) W 35 54 A0 n c 0 0 Try.underlying35
  cases A0 with
  | none =>
    have hl:l0=[]:=by
      cases l0 with
      |nil=>rfl
      |cons x l=>exact absurd (hr0.2.2 (by simp)) (by simp)
    subst hl
    clear hr0
    go_enter Try.func112,Try.ntmps112
    go_wp2
    go_ret
    exact ⟨_,rfl,Kd.R_nil _ _ _ _ _,Below.refl _ _⟩
  | some ad =>
    have HR0:=Aside0.mk hr0
    have HC0:=Aside0.mk hc0
    have LM:=Aside0.mk hlim
    clear hr0 hc0 hlim h
    have HB:=am_ (Below.refl w.heap.size w)
    go_enter Try.func112,Try.ntmps112
    go_wp2_with (first|((with_reducible refine gate_dst (N:=5) rfl ?_);refine Kd.R_lit k54 _ 54 ?hg (N:=5) ?hd (xs:=([]:List (S54))) (inner:=[]) (ok:=fun _=>True) (okp:=fun _=>True) ?hr ?hp (fun _ hk=>hk) trivial (Below.refl _ _) (Nat.le_refl _) (by simp) ?_;(case hd=>rfl);(case hg=>rfl);(case hr=>first|(go_simp;done)|(go_simp;rfl));(case hp=>exact (Reps.none _ _));intro v2 w3 ho4 hb hg_ hnew_;clear hg_ hnew_;have HO3:=am_ (Kd.R_lower ho4 (below_size HB.out));replace HB:=am_ (below_step HB.out hb);clear hb ho4)|((with_reducible refine gate_builtin (b:= .append) (xs:=#[.tmp 5, .tmp 6]) rfl ?_);at_builtin;refine Kd.R_append_rows k54 (w0:=w) w.heap.size rfl (.tmp 5) (.tmp 6) 35 54 (.agg #[(.string ⟨#[]⟩),(.string ⟨#[]⟩),(.int .i64 0),(.int .i64 0),(.int .i64 0),(.int .i64 0)]) 64 rfl Try.underlying35 info54 rfl (by decide) (by omega) v2 [] l0 _ _ _ (fun _=>True) (fun _=>False) rfl rfl ?aO ?aR (fun _ _ h=>h) (fun _ h=>h.elim) ?aF ?aB ?aS ?aL ?_;(case aR=>exact (Kd.C_below HR0.out HB.out));(case aB=>exact HB.out);(case aF=>exact (fun _ _=>trivial));(case aO=>exact HO3.out);(case aS=>exact (below_size HB.out));(case aL=>have:=LM.out;simp;omega);intro v5 w5 ho hb hg hat;have n0_:=am_ (hb);have n1_:=am_ (ho);clear HB;clear HO3;have HB:=n0_;have HO6:=n1_;clear n0_ n1_;clear ho hb hg hat))
    go_ret
    exact ⟨_,rfl,HO6.out,HB.out⟩


end Go.Proofs.Ytcgefpklljclgaa.Print

namespace Go.Proofs.Ytcgefpklljclgaa.Print
open Go.RowKit Go.Proofs.YtcgefpklljclgaaW.PrintWords Go.Proofs.YtcgefpklljclgaaW.PrintLast Go.Proofs.YtcgefpklljclgaaW.PrintMore
theorem eff_own {α:Type} {d:Kd α} {e base:Nat} {ok:Nat→Prop} {w:World} {v:Value} {xs:List α} (h:d.R e w base ok v xs) (k:Nat) (hk:v.ownBlock=some k):base≤k∧k<w.heap.size:=⟨((Kd.R_bound h).1 k hk).2.1,((Kd.R_bound h).1 k hk).2.2.1⟩
theorem eff_old {α:Type} {d:Kd α} {e base:Nat} {ok:Nat→Prop} {w:World} {v:Value} {xs:List α} (h:d.R e w base ok v xs):d.R e w base (fun k=>k<w.heap.size) v xs:=Kd.R_mono (Kd.R_bound h) (fun k hk=>hk.2.2.1)
theorem eff_put_old {α:Type} {d:Kd α} {e base g:Nat} {w w1:World} {v:Value} {xs:List α} (h:d.R e w base (fun k=>k<g) v xs) (hg:w.grownBy w1 (some g)):d.R e w1 base (fun k=>k<g) v xs:=Kd.R_grown h hg (fun k hk e=>by cases e;exact absurd hk (Nat.lt_irrefl _))
theorem eff_ne_old {α:Type} {d:Kd α} {e base g:Nat} {w:World} {v:Value} {xs:List α} (h:d.R e w base (fun k=>k<g) v xs):some g≠v.ownBlock:=fun e=>absurd (h.1 g e.symm) (Nat.lt_irrefl g)
def Keep2 (W w:World) (o i:Nat) (row:Option Nat):Prop:=W.heap.size≤w.heap.size∧ ∀g,g<W.heap.size→g≠o→g≠i→some g≠row→w.heap[g]?=W.heap[g]?
set_option maxHeartbeats 4000000 in
set_option maxRecDepth 100000 in
theorem effPut_calls (W:World) (b0 bo bs bf bi base nl:Nat) (A:Option Addr) (c:Nat) (v:Value) (x:Bool) (out:List S54) (s0 s3 s4 s5:Int) (s1 s2:ByteArray) (f1 f2:ByteArray) (f3 f4 f5 f6 f7 f8 f9 f10 f11 f12:Int) (f13:Bool)
    (ho:W.heap[bo]?=some (.cells #[v] 35 (0,0))) (hs:W.heap[bs]?=some (.cells #[.int .i64 s0, .string s1, .string s2, .int .i64 s3, .int .i64 s4, .int .i64 s5] 58 (0,0))) (hf:W.heap[bf]?=some (.cells #[.slice A nl c, .string f1, .string f2, .int .i64 f3, .int .i64 f4, .int .i64 f5, .int .i64 f6, .int .i64 f7, .int .i64 f8, .int .i64 f9, .int .i64 f10, .int .i64 f11, .int .i64 f12, .bool f13] 142 (0,0))) (hi:W.heap[bi]?=some (.cells #[.bool x] 4 (0,0)))
    (h0:b0≤bo) (h1:bo<bi) (h2:bi<base) (h3:base≤W.heap.size) (hr:Kd.R k54 54 W base (fun _=>True) v out) (hl:out.length<1000000000):
    Calls Try.prog 111 #[.pointer (some ⟨bo,0,none⟩), .pointer (some ⟨bs,0,none⟩), .pointer (some ⟨bf,0,none⟩), .pointer (some ⟨bi,0,none⟩)] W fun e w'=>e= .returned (.tuple #[])∧ ∃v',w'.heap[bo]?=some (.cells #[v'] 35 (0,0))∧w'.heap[bi]?=some (.cells #[.bool true] 4 (0,0))∧
      Kd.R k54 54 w' base (fun _=>True) v' (out++ [⟨s1,f2,⟨f3,f4,f5⟩,f12⟩])∧Keep2 W w' bo bi v.ownBlock∧Below b0 W w':=by
  have hu142:=Try.underlying142
  have hu140:=Try.underlying140
  have hu31:=Try.underlying31
  have hu54:=Try.underlying54
  have hu58:=Try.underlying58
  have co:=(blk_cell ho 0).trans rfl
  have cs1:=(blk_cell hs 1).trans rfl
  have cf2:=(blk_cell hf 2).trans rfl
  have cf3:=(blk_cell hf 3).trans rfl
  have cf4:=(blk_cell hf 4).trans rfl
  have cf5:=(blk_cell hf 5).trans rfl
  have cf12:=(blk_cell hf 12).trans rfl
  have HOT:=am_ (blk_lt ho)
  have HIT:=am_ (blk_lt hi)
  have HO:=Aside0.mk hr
  have BO:=Aside0.mk ho
  have BI:=Aside0.mk hi
  have HL:=Aside0.mk hl
  have HOWN:=am_ (eff_own hr)
  have H0:=Aside0.mk h0
  have H1:=Aside0.mk h1
  have H2:=Aside0.mk h2
  have H3:=Aside0.mk h3
  have NBI:=am_ (show bi≠bo by omega)
  obtain ⟨Au,cu,eu⟩:=Kd.R_slice hr
  subst eu
  clear ho hs hf hi hr hl h0 h1 h2 h3
  go_enter Try.func111,Try.ntmps111
  go_wp2_with (first|((with_reducible refine gate_builtin (b:= .append) (xs:=#[.tmp 4, .tmp 17]) rfl ?_);at_builtin;refine Kd.R_append k54 (w0:=W) base rfl (.tmp 4) (.tmp 17) 35 54 (.agg #[(.string ⟨#[]⟩),(.string ⟨#[]⟩),(.int .i64 0),(.int .i64 0),(.int .i64 0),(.int .i64 0)]) 64 rfl Try.underlying35 info54 rfl (by decide) (by omega) _ out ⟨s1,f2,⟨f3,f4,f5⟩,f12⟩ [.string s1, .string f2, .int .i64 f3, .int .i64 f4, .int .i64 f5, .int .i64 f12] (fun _=>True) (fun _=>False) rfl (by first|(go_simp;done)|(go_simp;rfl)) ?aP (fun _ hk=>hk.elim) ?aF ?aO ?aB ?aS ?aL ?_;(case aP=>exact k54_mkM _ _ _ (⟨s1,f2,⟨f3,f4,f5⟩,f12⟩:S54));(case aF=>exact fun _ _=>trivial);(case aO=>exact HO.out);(case aB=>exact Below.refl _ _);(case aS=>exact H3.out);(case aL=>have:=HL.out;omega);intro v5 w8 ho hb hg hat;have HO8:=Aside0.mk ho;have HG8:=Aside0.mk hg;have HAT:=Aside0.mk hat;have hne:some bo≠_:=Kd.R_ne HO.out BO.out (by decide);have hni:some bi≠_:=Kd.R_ne HO.out BI.out (by decide);have BO8:=am_ (blk_grown BO.out hg hne);have BI8:=am_ (blk_grown BI.out hg hni);have zo:=blk_frozen BO8.out 0;have zi:=blk_frozen BI8.out 0;have do_:=(blk_cell BO8.out 0).trans rfl;have di:=(blk_cell BI8.out 0).trans rfl;clear ho hb hg hat hne hni;obtain ⟨Ao,co_,eo⟩:=Kd.R_slice HO8.out;subst eo)|((with_reducible refine gate_store (t:=35) (p:=0) (v:= .tmp 18) rfl ?_);refine store_all BO8.out 35 (.tmp 0) (.tmp 18) rfl rfl rfl _ [_] rfl rfl rfl (by kernel_rfl) rfl (by intro q hq;simp only [List.mem_cons,List.not_mem_nil,or_false] at hq;rcases hq with rfl;rfl) ?_;intro w9 hbk hg9;have BO9:=Aside0.mk hbk;have HG9:=Aside0.mk hg9;have BI9:=am_ (blk_put_other BI8.out hg9 NBI.out);have HO9:=am_ (R_put HO8.out BO8.out (by decide) hg9);clear hbk hg9)|((with_reducible refine gate_store (t:=4) (p:=3) (v:= .const (.bool true)) rfl ?_);refine store_all BI9.out 4 (.tmp 3) (.const (.bool true)) rfl rfl rfl (.bool true) [.bool true] rfl rfl rfl (by kernel_rfl) rfl (by intro q hq;simp only [List.mem_cons,List.not_mem_nil,or_false] at hq;rcases hq with rfl;rfl) ?_;intro w10 hbk hg10;have BI10:=Aside0.mk hbk;have HG10:=Aside0.mk hg10;have BO10:=am_ (blk_put_other BO9.out hg10 (fun e=>NBI.out e.symm));have HO10:=am_ (R_put HO9.out BI9.out (by decide) hg10);clear hbk hg10))
  (first|go_end0|((try simp only [Exit.inBlock,Exit.then]);refine bodyPost_ret (results_none rfl _ _ _) rfl ?_)|refine bodyPost_end (results_none rfl _ _ _) rfl ?_)
  refine ⟨rfl,_,BO10.out,BI10.out,(by first|exact HO10.out|(have q:=HO10.out;simp only [List.length_append,List.length_cons,List.length_nil,Nat.zero_add] at q ⊢;exact q)),⟨?_,fun g hg h4 h5 h6=> ?_⟩, ?_⟩
  · exact Nat.le_trans HG8.out.size (Nat.le_trans HG9.out.size HG10.out.size)
  · rw [HG10.out.block g (Nat.lt_of_lt_of_le hg (Nat.le_trans HG8.out.size HG9.out.size)) (fun e => h5 (Option.some.inj e)), HG9.out.block g (Nat.lt_of_lt_of_le hg HG8.out.size) (fun e => h4 (Option.some.inj e))]
    exact HG8.out.block g hg h6
  have hb0:b0≤bi:=by have:=H0.out;have:=H1.out;omega
  have hbs:b0≤W.heap.size:=by have:=H0.out;have:=HOT.out;omega
  have q8:Below b0 W w8:=pw_below_grown (Below.refl b0 W) _ hbs HG8.out (fun k e=>by have:=(HOWN.out k e).1;have:=H2.out;omega)
  exact below_put (below_put q8 (Nat.le_trans hbs HG8.out.size) HG9.out H0.out) (Nat.le_trans hbs (Nat.le_trans HG8.out.size HG9.out.size)) HG10.out hb0
end Go.Proofs.Ytcgefpklljclgaa.Print

namespace Go.Proofs.Ytcgefpklljclgaa.Print
open Go.RowKit Go.Proofs.YtcgefpklljclgaaW.PrintWords Go.Proofs.YtcgefpklljclgaaW.PrintLast Go.Proofs.YtcgefpklljclgaaW.PrintMore
attribute [local go_sem] max2_int min2_int max_two min_two max_three min_three max_four min_four

def effL (mk:S54) (n:ByteArray):Bool→List S54→List S54
 |b,[]=>if b=true then [] else [mk]
 |b,m::ms=>(if b=false∧Op.bytesLess m.f0.toList n.toList=false then [mk] else [])++((if m.f0.toList=n.toList then [] else [m])++effL mk n (if b=false∧Op.bytesLess m.f0.toList n.toList=false then true else b) ms)
theorem effL_len (mk:S54) (n:ByteArray): ∀(ms:List S54) (b:Bool),(effL mk n b ms).length≤2*ms.length+1
  |[],b=>by unfold effL;split<;>simp
  | m :: ms, b => by
    unfold effL
    have:=effL_len mk n ms (if b=false∧Op.bytesLess m.f0.toList n.toList=false then true else b)
    rw [List.length_append,List.length_append,List.length_cons]
    have h1:(if b=false∧Op.bytesLess m.f0.toList n.toList=false then [mk] else []).length≤1:=by split<;>simp
    have h2:(if m.f0.toList=n.toList then [] else [m]).length≤1:=by split<;>simp
    omega
def effect_Marks.f (l0:List (S54)) (l1:List (S31)) (s0:Int) (s1 s2:ByteArray) (s3 s4 s5:Int):Option (List (S54)):=if l0.length<400000000 then (effect_find.f l1 s1).bind fun q=>some (effL ⟨s1,q.2.1,⟨q.2.2.1,q.2.2.2.1,q.2.2.2.2.1⟩,q.2.2.2.2.2.2.2.2.2.2.2.1⟩ s1 (!q.2.2.2.2.2.2.2.2.2.2.2.2||s0==4) l0) else none
set_option maxHeartbeats 8000000 in
set_option maxRecDepth 100000 in
theorem effect_Marks.calls (A0:Option Addr) (c0:Nat) (l0:List (S54)) (A:Option Addr) (c:Nat) (l:List (S31)) (s0:Int) (s1 s2:ByteArray) (s3 s4 s5:Int) (r:List (S54)) (w:World) (hr0:Kd.C k54 w A0 l0.length l0) (hc0:l0.length≤c0) (hr1:Kd.C k31 w A l.length l) (hc1:l.length≤c) (h:effect_Marks.f l0 l s0 s1 s2 s3 s4 s5=some r):
    Calls Try.prog 54 #[.slice A0 l0.length c0, .slice A l.length c, .agg #[.int .i64 s0, .string s1, .string s2, .int .i64 s3, .int .i64 s4, .int .i64 s5]] w fun e w'=> ∃v0_:Value,e= .returned (v0_)∧Kd.R k54 54 w' w.heap.size (fun _=>True) v0_ r∧Below w.heap.size w w':=by
  have hu142:=Try.underlying142
  have hu140:=Try.underlying140
  have hu31:=Try.underlying31
  have hu54:=Try.underlying54
  have hu58:=Try.underlying58
  have hu27:=Try.underlying27
  unfold effect_Marks.f at h
  by_cases hlim:l0.length<400000000
  case neg=>rw [if_neg hlim] at h;cases h
  rw [if_pos hlim] at h
  obtain ⟨⟨r2,r3,r4,r5,r6,r7,r8,r9,r10,r11,r12,r13,r14⟩,hf,h⟩:=Option.bind_eq_some_iff.1 h
  have hrr:=(Option.some.inj h).symm
  dsimp only at hrr
  obtain ⟨mk,hmk⟩: ∃x:S54,x=⟨s1,r3,⟨r4,r5,r6⟩,r13⟩:=⟨_,rfl⟩
  rw [←hmk] at hrr
  have HMK:=Aside0.mk hmk
  have HRQ:=Aside0.mk hrr
  have HF:=Aside0.mk hf
  have HL:=Aside0.mk hlim
  have HR0:=Aside0.mk hr0
  have HR:=Aside0.mk hr1
  have HC:=Aside0.mk hc1
  have HB:=am_ (Below.refl w.heap.size w)
  clear hr0 hc0 hr1 hc1 hf h hrr hlim hmk
  go_enter Try.func54,Try.ntmps54
  go_wp2_with (first|((with_reducible refine gate_dst (N:=5) rfl ?_);refine bx_ (N:=5) (cs:=#[.int .i64 s0, .string s1, .string s2, .int .i64 s3, .int .i64 s4, .int .i64 s5]) (t:=58) ?_;intro gb5 hg w3 hbox hb;have BK5:=am_ (hbox);have GE5:=am_ ((by rw [hg];exact below_size HB.out:w.heap.size≤gb5));replace HB:=am_ (below_step HB.out hb);have EQ5:=am_ (hg);clear hb hbox hg;have cgb5_0:=(blk_cell BK5.out 0).trans rfl;have cgb5_1:=(blk_cell BK5.out 1).trans rfl;have cgb5_2:=(blk_cell BK5.out 2).trans rfl;have cgb5_3:=(blk_cell BK5.out 3).trans rfl;have cgb5_4:=(blk_cell BK5.out 4).trans rfl;have cgb5_5:=(blk_cell BK5.out 5).trans rfl))
  refine (effFind_calls A c l s1 r2 r3 r4 r5 r6 r7 r8 r9 r10 r11 r12 r13 r14 _ (Kd.C_below HR.out HB.out) HC.out HF.out).mono ?_
  rintro e w4 ⟨rfl,hb⟩
  have n0_:=am_ (blk_below BK5.out hb)
  have nB_:=am_ (below_step HB.out hb)
  clear BK5 HB hb cgb5_0 cgb5_1 cgb5_2 cgb5_3 cgb5_4 cgb5_5
  have BK5:=n0_
  have HB:=nB_
  clear nB_ n0_
  rcases Bool.eq_false_or_eq_true r14 with q14|q14
  subst q14
  focus (go_wp2_with (first|((with_reducible refine gate_dst (N:=7) rfl ?_);refine bx_ (N:=7) (cs:=#[.slice none 0 0, .string ⟨#[]⟩, .string ⟨#[]⟩, .int .i64 0, .int .i64 0, .int .i64 0, .int .i64 0, .int .i64 0, .int .i64 0, .int .i64 0, .int .i64 0, .int .i64 0, .int .i64 0, .bool false]) (t:=142) ?_;intro gb7 hg w5 hbox hb;have NE5_7:=am_ (show gb5≠gb7 from by have:=blk_lt BK5.out;rw [hg];exact Nat.ne_of_lt this);have LT5_7:=am_ (show gb5<gb7 from by have:=blk_lt BK5.out;rw [hg];exact this);replace BK5:=am_ (blk_below BK5.out hb);have BK7:=am_ (hbox);have GE7:=am_ ((by rw [hg];exact below_size HB.out:w.heap.size≤gb7));replace HB:=am_ (below_step HB.out hb);have EQ7:=am_ (hg);clear hb hbox hg;have cgb7_0:=(blk_cell BK7.out 0).trans rfl;have cgb7_1:=(blk_cell BK7.out 1).trans rfl;have cgb7_2:=(blk_cell BK7.out 2).trans rfl;have cgb7_3:=(blk_cell BK7.out 3).trans rfl;have cgb7_4:=(blk_cell BK7.out 4).trans rfl;have cgb7_5:=(blk_cell BK7.out 5).trans rfl;have cgb7_6:=(blk_cell BK7.out 6).trans rfl;have cgb7_7:=(blk_cell BK7.out 7).trans rfl;have cgb7_8:=(blk_cell BK7.out 8).trans rfl;have cgb7_9:=(blk_cell BK7.out 9).trans rfl;have cgb7_10:=(blk_cell BK7.out 10).trans rfl;have cgb7_11:=(blk_cell BK7.out 11).trans rfl;have cgb7_12:=(blk_cell BK7.out 12).trans rfl;have cgb7_13:=(blk_cell BK7.out 13).trans rfl)|((with_reducible refine gate_store (t:=142) (p:=7) (v:= .tmp 16) rfl ?_);refine store_all BK7.out 142 (.tmp 7) (.tmp 16) rfl rfl rfl (.agg #[.slice A l.length c, .string r2, .string r3, .int .i64 r4, .int .i64 r5, .int .i64 r6, .int .i64 r7, .int .i64 r8, .int .i64 r9, .int .i64 r10, .int .i64 r11, .int .i64 r12, .int .i64 r13, .bool true]) [.slice A l.length c, .string r2, .string r3, .int .i64 r4, .int .i64 r5, .int .i64 r6, .int .i64 r7, .int .i64 r8, .int .i64 r9, .int .i64 r10, .int .i64 r11, .int .i64 r12, .int .i64 r13, .bool true] rfl rfl rfl (by kernel_rfl) rfl (by intro q hq;simp only [List.mem_cons,List.not_mem_nil,or_false] at hq;rcases hq with rfl|rfl|rfl|rfl|rfl|rfl|rfl|rfl|rfl|rfl|rfl|rfl|rfl|rfl<;>rfl) ?_;intro w6 hbk hg;clear cgb7_0 cgb7_1 cgb7_2 cgb7_3 cgb7_4 cgb7_5 cgb7_6 cgb7_7 cgb7_8 cgb7_9 cgb7_10 cgb7_11 cgb7_12 cgb7_13;replace BK5:=am_ (blk_put_other BK5.out hg (NE5_7.out));replace HB:=am_ (below_put HB.out (below_size HB.out) hg GE7.out);replace BK7:=am_ (hbk);clear hbk hg;have cgb7_0:=(blk_cell BK7.out 0).trans rfl;have cgb7_1:=(blk_cell BK7.out 1).trans rfl;have cgb7_2:=(blk_cell BK7.out 2).trans rfl;have cgb7_3:=(blk_cell BK7.out 3).trans rfl;have cgb7_4:=(blk_cell BK7.out 4).trans rfl;have cgb7_5:=(blk_cell BK7.out 5).trans rfl;have cgb7_6:=(blk_cell BK7.out 6).trans rfl;have cgb7_7:=(blk_cell BK7.out 7).trans rfl;have cgb7_8:=(blk_cell BK7.out 8).trans rfl;have cgb7_9:=(blk_cell BK7.out 9).trans rfl;have cgb7_10:=(blk_cell BK7.out 10).trans rfl;have cgb7_11:=(blk_cell BK7.out 11).trans rfl;have cgb7_12:=(blk_cell BK7.out 12).trans rfl;have cgb7_13:=(blk_cell BK7.out 13).trans rfl;have cgb5_0:=(blk_cell BK5.out 0).trans rfl;have cgb5_1:=(blk_cell BK5.out 1).trans rfl;have cgb5_2:=(blk_cell BK5.out 2).trans rfl;have cgb5_3:=(blk_cell BK5.out 3).trans rfl;have cgb5_4:=(blk_cell BK5.out 4).trans rfl;have cgb5_5:=(blk_cell BK5.out 5).trans rfl)|((with_reducible refine gate_dst (N:=8) rfl ?_);refine bx_ (N:=8) (cs:=#[.slice none 0 0]) (t:=35) ?_;intro gb8 hg w7 hbox hb;have NE5_8:=am_ (show gb5≠gb8 from by have:=blk_lt BK5.out;rw [hg];exact Nat.ne_of_lt this);have LT5_8:=am_ (show gb5<gb8 from by have:=blk_lt BK5.out;rw [hg];exact this);have NE7_8:=am_ (show gb7≠gb8 from by have:=blk_lt BK7.out;rw [hg];exact Nat.ne_of_lt this);have LT7_8:=am_ (show gb7<gb8 from by have:=blk_lt BK7.out;rw [hg];exact this);replace BK5:=am_ (blk_below BK5.out hb);replace BK7:=am_ (blk_below BK7.out hb);have BK8:=am_ (hbox);have GE8:=am_ ((by rw [hg];exact below_size HB.out:w.heap.size≤gb8));replace HB:=am_ (below_step HB.out hb);have EQ8:=am_ (hg);clear hb hbox hg;have cgb8_0:=(blk_cell BK8.out 0).trans rfl;clear cgb5_0 cgb5_1 cgb5_2 cgb5_3 cgb5_4 cgb5_5 cgb7_0 cgb7_1 cgb7_2 cgb7_3 cgb7_4 cgb7_5 cgb7_6 cgb7_7 cgb7_8 cgb7_9 cgb7_10 cgb7_11 cgb7_12 cgb7_13;have cgb7_13:=(blk_cell BK7.out 13).trans rfl;have cgb5_0:=(blk_cell BK5.out 0).trans rfl;have cgb5_1:=(blk_cell BK5.out 1).trans rfl;have cgb5_2:=(blk_cell BK5.out 2).trans rfl;have cgb5_3:=(blk_cell BK5.out 3).trans rfl;have cgb5_4:=(blk_cell BK5.out 4).trans rfl;have cgb5_5:=(blk_cell BK5.out 5).trans rfl)|((with_reducible refine gate_dst (N:=9) rfl ?_);refine bx_ (N:=9) (cs:=#[.bool false]) (t:=4) ?_;intro gb9 hg w8 hbox hb;have NE5_9:=am_ (show gb5≠gb9 from by have:=blk_lt BK5.out;rw [hg];exact Nat.ne_of_lt this);have LT5_9:=am_ (show gb5<gb9 from by have:=blk_lt BK5.out;rw [hg];exact this);have NE7_9:=am_ (show gb7≠gb9 from by have:=blk_lt BK7.out;rw [hg];exact Nat.ne_of_lt this);have LT7_9:=am_ (show gb7<gb9 from by have:=blk_lt BK7.out;rw [hg];exact this);have NE8_9:=am_ (show gb8≠gb9 from by have:=blk_lt BK8.out;rw [hg];exact Nat.ne_of_lt this);have LT8_9:=am_ (show gb8<gb9 from by have:=blk_lt BK8.out;rw [hg];exact this);replace BK5:=am_ (blk_below BK5.out hb);replace BK7:=am_ (blk_below BK7.out hb);replace BK8:=am_ (blk_below BK8.out hb);have BK9:=am_ (hbox);have GE9:=am_ ((by rw [hg];exact below_size HB.out:w.heap.size≤gb9));replace HB:=am_ (below_step HB.out hb);have EQ9:=am_ (hg);clear hb hbox hg;have cgb9_0:=(blk_cell BK9.out 0).trans rfl)|((with_reducible refine gate_store (t:=4) (p:=9) (v:= .tmp 24) rfl ?_);refine store_all BK9.out 4 (.tmp 9) (.tmp 24) rfl rfl rfl (.bool (s0==4)) [.bool (s0==4)] rfl rfl rfl (by kernel_rfl) rfl (by intro q hq;simp only [List.mem_cons,List.not_mem_nil,or_false] at hq;rcases hq with rfl<;>rfl) ?_;intro w9 hbk hg;clear cgb9_0;replace BK5:=am_ (blk_put_other BK5.out hg (NE5_9.out));replace BK7:=am_ (blk_put_other BK7.out hg (NE7_9.out));replace BK8:=am_ (blk_put_other BK8.out hg (NE8_9.out));replace HB:=am_ (below_put HB.out (below_size HB.out) hg GE9.out);replace BK9:=am_ (hbk);clear hbk hg)))
  have HRR:=am_ (show r=effL mk s1 (s0==4) l0 from HRQ.out)
  obtain ⟨in0,hin0⟩: ∃b,b=(s0==4):=⟨_,rfl⟩
  rw [←hin0] at HRR BK9
  obtain ⟨b14,hb14⟩: ∃b,b=true:=⟨_,rfl⟩
  rw [←hb14] at BK7
  clear HRQ hin0 hb14
  rotate_left
  subst q14
  focus (go_wp2_with (first|((with_reducible refine gate_dst (N:=7) rfl ?_);refine bx_ (N:=7) (cs:=#[.slice none 0 0, .string ⟨#[]⟩, .string ⟨#[]⟩, .int .i64 0, .int .i64 0, .int .i64 0, .int .i64 0, .int .i64 0, .int .i64 0, .int .i64 0, .int .i64 0, .int .i64 0, .int .i64 0, .bool false]) (t:=142) ?_;intro gb7 hg w5 hbox hb;have NE5_7:=am_ (show gb5≠gb7 from by have:=blk_lt BK5.out;rw [hg];exact Nat.ne_of_lt this);have LT5_7:=am_ (show gb5<gb7 from by have:=blk_lt BK5.out;rw [hg];exact this);replace BK5:=am_ (blk_below BK5.out hb);have BK7:=am_ (hbox);have GE7:=am_ ((by rw [hg];exact below_size HB.out:w.heap.size≤gb7));replace HB:=am_ (below_step HB.out hb);have EQ7:=am_ (hg);clear hb hbox hg;have cgb7_0:=(blk_cell BK7.out 0).trans rfl;have cgb7_1:=(blk_cell BK7.out 1).trans rfl;have cgb7_2:=(blk_cell BK7.out 2).trans rfl;have cgb7_3:=(blk_cell BK7.out 3).trans rfl;have cgb7_4:=(blk_cell BK7.out 4).trans rfl;have cgb7_5:=(blk_cell BK7.out 5).trans rfl;have cgb7_6:=(blk_cell BK7.out 6).trans rfl;have cgb7_7:=(blk_cell BK7.out 7).trans rfl;have cgb7_8:=(blk_cell BK7.out 8).trans rfl;have cgb7_9:=(blk_cell BK7.out 9).trans rfl;have cgb7_10:=(blk_cell BK7.out 10).trans rfl;have cgb7_11:=(blk_cell BK7.out 11).trans rfl;have cgb7_12:=(blk_cell BK7.out 12).trans rfl;have cgb7_13:=(blk_cell BK7.out 13).trans rfl)|((with_reducible refine gate_store (t:=142) (p:=7) (v:= .tmp 16) rfl ?_);refine store_all BK7.out 142 (.tmp 7) (.tmp 16) rfl rfl rfl (.agg #[.slice A l.length c, .string r2, .string r3, .int .i64 r4, .int .i64 r5, .int .i64 r6, .int .i64 r7, .int .i64 r8, .int .i64 r9, .int .i64 r10, .int .i64 r11, .int .i64 r12, .int .i64 r13, .bool false]) [.slice A l.length c, .string r2, .string r3, .int .i64 r4, .int .i64 r5, .int .i64 r6, .int .i64 r7, .int .i64 r8, .int .i64 r9, .int .i64 r10, .int .i64 r11, .int .i64 r12, .int .i64 r13, .bool false] rfl rfl rfl (by kernel_rfl) rfl (by intro q hq;simp only [List.mem_cons,List.not_mem_nil,or_false] at hq;rcases hq with rfl|rfl|rfl|rfl|rfl|rfl|rfl|rfl|rfl|rfl|rfl|rfl|rfl|rfl<;>rfl) ?_;intro w6 hbk hg;clear cgb7_0 cgb7_1 cgb7_2 cgb7_3 cgb7_4 cgb7_5 cgb7_6 cgb7_7 cgb7_8 cgb7_9 cgb7_10 cgb7_11 cgb7_12 cgb7_13;replace BK5:=am_ (blk_put_other BK5.out hg (NE5_7.out));replace HB:=am_ (below_put HB.out (below_size HB.out) hg GE7.out);replace BK7:=am_ (hbk);clear hbk hg;have cgb7_0:=(blk_cell BK7.out 0).trans rfl;have cgb7_1:=(blk_cell BK7.out 1).trans rfl;have cgb7_2:=(blk_cell BK7.out 2).trans rfl;have cgb7_3:=(blk_cell BK7.out 3).trans rfl;have cgb7_4:=(blk_cell BK7.out 4).trans rfl;have cgb7_5:=(blk_cell BK7.out 5).trans rfl;have cgb7_6:=(blk_cell BK7.out 6).trans rfl;have cgb7_7:=(blk_cell BK7.out 7).trans rfl;have cgb7_8:=(blk_cell BK7.out 8).trans rfl;have cgb7_9:=(blk_cell BK7.out 9).trans rfl;have cgb7_10:=(blk_cell BK7.out 10).trans rfl;have cgb7_11:=(blk_cell BK7.out 11).trans rfl;have cgb7_12:=(blk_cell BK7.out 12).trans rfl;have cgb7_13:=(blk_cell BK7.out 13).trans rfl;have cgb5_0:=(blk_cell BK5.out 0).trans rfl;have cgb5_1:=(blk_cell BK5.out 1).trans rfl;have cgb5_2:=(blk_cell BK5.out 2).trans rfl;have cgb5_3:=(blk_cell BK5.out 3).trans rfl;have cgb5_4:=(blk_cell BK5.out 4).trans rfl;have cgb5_5:=(blk_cell BK5.out 5).trans rfl)|((with_reducible refine gate_dst (N:=8) rfl ?_);refine bx_ (N:=8) (cs:=#[.slice none 0 0]) (t:=35) ?_;intro gb8 hg w7 hbox hb;have NE5_8:=am_ (show gb5≠gb8 from by have:=blk_lt BK5.out;rw [hg];exact Nat.ne_of_lt this);have LT5_8:=am_ (show gb5<gb8 from by have:=blk_lt BK5.out;rw [hg];exact this);have NE7_8:=am_ (show gb7≠gb8 from by have:=blk_lt BK7.out;rw [hg];exact Nat.ne_of_lt this);have LT7_8:=am_ (show gb7<gb8 from by have:=blk_lt BK7.out;rw [hg];exact this);replace BK5:=am_ (blk_below BK5.out hb);replace BK7:=am_ (blk_below BK7.out hb);have BK8:=am_ (hbox);have GE8:=am_ ((by rw [hg];exact below_size HB.out:w.heap.size≤gb8));replace HB:=am_ (below_step HB.out hb);have EQ8:=am_ (hg);clear hb hbox hg;have cgb8_0:=(blk_cell BK8.out 0).trans rfl;clear cgb5_0 cgb5_1 cgb5_2 cgb5_3 cgb5_4 cgb5_5 cgb7_0 cgb7_1 cgb7_2 cgb7_3 cgb7_4 cgb7_5 cgb7_6 cgb7_7 cgb7_8 cgb7_9 cgb7_10 cgb7_11 cgb7_12 cgb7_13;have cgb7_13:=(blk_cell BK7.out 13).trans rfl;have cgb5_0:=(blk_cell BK5.out 0).trans rfl;have cgb5_1:=(blk_cell BK5.out 1).trans rfl;have cgb5_2:=(blk_cell BK5.out 2).trans rfl;have cgb5_3:=(blk_cell BK5.out 3).trans rfl;have cgb5_4:=(blk_cell BK5.out 4).trans rfl;have cgb5_5:=(blk_cell BK5.out 5).trans rfl)|((with_reducible refine gate_dst (N:=9) rfl ?_);refine bx_ (N:=9) (cs:=#[.bool false]) (t:=4) ?_;intro gb9 hg w8 hbox hb;have NE5_9:=am_ (show gb5≠gb9 from by have:=blk_lt BK5.out;rw [hg];exact Nat.ne_of_lt this);have LT5_9:=am_ (show gb5<gb9 from by have:=blk_lt BK5.out;rw [hg];exact this);have NE7_9:=am_ (show gb7≠gb9 from by have:=blk_lt BK7.out;rw [hg];exact Nat.ne_of_lt this);have LT7_9:=am_ (show gb7<gb9 from by have:=blk_lt BK7.out;rw [hg];exact this);have NE8_9:=am_ (show gb8≠gb9 from by have:=blk_lt BK8.out;rw [hg];exact Nat.ne_of_lt this);have LT8_9:=am_ (show gb8<gb9 from by have:=blk_lt BK8.out;rw [hg];exact this);replace BK5:=am_ (blk_below BK5.out hb);replace BK7:=am_ (blk_below BK7.out hb);replace BK8:=am_ (blk_below BK8.out hb);have BK9:=am_ (hbox);have GE9:=am_ ((by rw [hg];exact below_size HB.out:w.heap.size≤gb9));replace HB:=am_ (below_step HB.out hb);have EQ9:=am_ (hg);clear hb hbox hg;have cgb9_0:=(blk_cell BK9.out 0).trans rfl)|((with_reducible refine gate_store (t:=4) (p:=9) (v:= .tmp 24) rfl ?_);refine store_all BK9.out 4 (.tmp 9) (.tmp 24) rfl rfl rfl (.bool true) [.bool true] rfl rfl rfl (by kernel_rfl) rfl (by intro q hq;simp only [List.mem_cons,List.not_mem_nil,or_false] at hq;rcases hq with rfl<;>rfl) ?_;intro w9 hbk hg;clear cgb9_0;replace BK5:=am_ (blk_put_other BK5.out hg (NE5_9.out));replace BK7:=am_ (blk_put_other BK7.out hg (NE7_9.out));replace BK8:=am_ (blk_put_other BK8.out hg (NE8_9.out));replace HB:=am_ (below_put HB.out (below_size HB.out) hg GE9.out);replace BK9:=am_ (hbk);clear hbk hg)))
  have HRR:=am_ (show r=effL mk s1 true l0 from HRQ.out)
  obtain ⟨in0,hin0⟩: ∃b,b=true:=⟨_,rfl⟩
  rw [←hin0] at HRR BK9
  obtain ⟨b14,hb14⟩: ∃b,b=false:=⟨_,rfl⟩
  rw [←hb14] at BK7
  clear HRQ hin0 hb14
  rotate_left
  all_goals clear cgb8_0 cgb5_0 cgb5_1 cgb5_2 cgb5_3 cgb5_4 cgb5_5 cgb7_13
  all_goals (
    go_loopg [28] l0.length (fun kq v28 w'=> ∃(i:Nat) (acc:List S54) (u:Value) (inb:Bool),i≤l0.length∧l0.length - i≤kq∧v28= .int .i64 i∧Aside0 (r=acc++effL mk s1 inb (l0.drop i))∧Aside0 (acc.length≤2*i)∧Aside0 (Kd.R k54 54 w' (gb9+1) (fun _=>True) u acc)∧Aside0 (w'.heap[gb5]?=some (.cells #[.int .i64 s0, .string s1, .string s2, .int .i64 s3, .int .i64 s4, .int .i64 s5] 58 (0,0)))∧Aside0 (w'.heap[gb7]?=some (.cells #[.slice A l.length c, .string r2, .string r3, .int .i64 r4, .int .i64 r5, .int .i64 r6, .int .i64 r7, .int .i64 r8, .int .i64 r9, .int .i64 r10, .int .i64 r11, .int .i64 r12, .int .i64 r13, .bool b14] 142 (0,0)))∧Aside0 (w'.heap[gb8]?=some (.cells #[u] 35 (0,0)))∧Aside0 (w'.heap[gb9]?=some (.cells #[.bool inb] 4 (0,0)))∧Aside0 (Below w.heap.size w w'))
    case atStart=>exact ⟨0,[], .slice none 0 0,in0,Nat.zero_le _,Nat.le_refl _,(by first|rfl|(simp;done)|(simp [*];done)),⟨by rw [List.drop_zero,List.nil_append];exact HRR.out⟩,⟨Nat.le_refl _⟩,⟨Kd.R_nil _ _ _ _ _⟩,⟨by refine zk_ ?_;exact BK5.out⟩,⟨by refine zk_ ?_;exact BK7.out⟩,⟨by refine zk_ ?_;exact BK8.out⟩,⟨by refine zk_ ?_;exact BK9.out⟩,⟨zl0_ HB⟩⟩
    case round=>
      clear HRR BK5 BK7 BK8 BK9 HB
      obtain ⟨i,acc,u,inb,hi,hm,rfl,HE,HAC,HO,BK5,BK7,BK8,BK9,HB⟩:=hrel
      have HI:=Aside0.mk hi
      have HM:=Aside0.mk hm
      clear hi hm
      obtain ⟨Au,cu,eu⟩:=Kd.R_slice HO.out
      subst eu
      by_cases c1:i<l0.length
      · have c1b : decide ((i : Int) < (l0.length : Int)) = true := decide_eq_true (by omega)
        have hrd:(rd_T54 l0 (i:Int))=l0[i]:=by
          show l0.getD (i:Int).toNat _=_
          rw [Int.toNat_natCast,List.getD_eq_getElem?_getD,List.getElem?_eq_getElem c1,Option.getD_some]
        have hdr:=HE.out
        rw [List.drop_eq_getElem_cons c1,←hrd] at hdr
        unfold effL at hdr
        have HE:=Aside0.mk hdr
        have HC:=Aside0.mk c1
        have ei:wrap64 ((i:Int)+1)=((i+1:Nat):Int):=by have:=HL.out;rw [show wrap64 ((i:Int)+1)=(i:Int)+1 from by unfold wrap64;omega];rfl
        have p6:0≤((i:Nat):Int):=by omega
        have q6:((i:Nat):Int)<(l0.length:Int):=by omega
        clear hrd hdr c1
        obtain ⟨ad,e6,k0,k1_,k2,k3,k4,k5⟩:=at_T54 HR0.out (i:Int) p6 q6
        cases e6
        have k0:=zx_ HB k0
        have k1_:=zx_ HB k1_
        have k2:=zx_ HB k2
        have k3:=zx_ HB k3
        have k4:=zx_ HB k4
        have k5:=zx_ HB k5
        simp only [Int.toNat_natCast] at k0 k1_ k2 k3 k4 k5
        replace p6:=eq_true p6
        replace q6:=eq_true q6
        cases inb with
        | true =>
          by_cases c2:(rd_T54 l0 (i:Int)).f0.toList=s1.toList
          · have c2b : ((rd_T54 l0 (i : Int)).f0.toList != s1.toList) = false := bne_eq_false_iff_eq.mpr c2
            have c2a:((rd_T54 l0 (i:Int)).f0.toList==s1.toList)=true:=beq_iff_eq.mpr c2
            have HR2:=am_ (show r=acc++effL mk s1 true (l0.drop (i+1)) from by rw [HE.out,if_neg (show¬(true=false∧Op.bytesLess (rd_T54 l0 (i:Int)).f0.toList s1.toList=false) from fun q=>nomatch q.1),if_neg (show¬(true=false∧Op.bytesLess (rd_T54 l0 (i:Int)).f0.toList s1.toList=false) from fun q=>nomatch q.1),if_pos c2];simp only [List.nil_append,List.append_assoc])
            clear HE c2
            go_wp2_with (first|((with_reducible refine gate_dst (N:=12) rfl ?_);refine bx_ (N:=12) (cs:=#[.string ⟨#[]⟩, .string ⟨#[]⟩, .int .i64 0, .int .i64 0, .int .i64 0, .int .i64 0]) (t:=54) ?_;intro gb12 hg w10 hbox hb;have NE5_12:=am_ (show gb5≠gb12 from by have:=blk_lt BK5.out;rw [hg];exact Nat.ne_of_lt this);have LT5_12:=am_ (show gb5<gb12 from by have:=blk_lt BK5.out;rw [hg];exact this);have NE7_12:=am_ (show gb7≠gb12 from by have:=blk_lt BK7.out;rw [hg];exact Nat.ne_of_lt this);have LT7_12:=am_ (show gb7<gb12 from by have:=blk_lt BK7.out;rw [hg];exact this);have NE8_12:=am_ (show gb8≠gb12 from by have:=blk_lt BK8.out;rw [hg];exact Nat.ne_of_lt this);have LT8_12:=am_ (show gb8<gb12 from by have:=blk_lt BK8.out;rw [hg];exact this);have NE9_12:=am_ (show gb9≠gb12 from by have:=blk_lt BK9.out;rw [hg];exact Nat.ne_of_lt this);have LT9_12:=am_ (show gb9<gb12 from by have:=blk_lt BK9.out;rw [hg];exact this);have HOn:=am_ (show Kd.R k54 54 w10 (gb9+1) (fun k=>k<gb12) _ acc from by rw [hg];exact Kd.R_below (eff_old HO.out) hb);clear HO;have HO:=HOn;clear HOn;replace BK5:=am_ (blk_below BK5.out hb);replace BK7:=am_ (blk_below BK7.out hb);replace BK8:=am_ (blk_below BK8.out hb);replace BK9:=am_ (blk_below BK9.out hb);have BK12:=am_ (hbox);have GE12:=am_ ((by rw [hg];exact below_size HB.out:w.heap.size≤gb12));replace HB:=am_ (below_step HB.out hb);have EQ12:=am_ (hg);clear hb hbox hg;have cgb12_0:=(blk_cell BK12.out 0).trans rfl;have cgb12_1:=(blk_cell BK12.out 1).trans rfl;have cgb12_2:=(blk_cell BK12.out 2).trans rfl;have cgb12_3:=(blk_cell BK12.out 3).trans rfl;have cgb12_4:=(blk_cell BK12.out 4).trans rfl;have cgb12_5:=(blk_cell BK12.out 5).trans rfl)|((with_reducible refine gate_store (t:=54) (p:=12) (v:= .tmp 31) rfl ?_);refine store_all BK12.out 54 (.tmp 12) (.tmp 31) rfl rfl rfl (.agg #[.string (rd_T54 l0 (i:Int)).f0, .string (rd_T54 l0 (i:Int)).f1, .int .i64 (rd_T54 l0 (i:Int)).f2.f0, .int .i64 (rd_T54 l0 (i:Int)).f2.f1, .int .i64 (rd_T54 l0 (i:Int)).f2.f2, .int .i64 (rd_T54 l0 (i:Int)).f3]) [.string (rd_T54 l0 (i:Int)).f0, .string (rd_T54 l0 (i:Int)).f1, .int .i64 (rd_T54 l0 (i:Int)).f2.f0, .int .i64 (rd_T54 l0 (i:Int)).f2.f1, .int .i64 (rd_T54 l0 (i:Int)).f2.f2, .int .i64 (rd_T54 l0 (i:Int)).f3] rfl rfl rfl (by kernel_rfl) rfl (by intro q hq;simp only [List.mem_cons,List.not_mem_nil,or_false] at hq;rcases hq with rfl|rfl|rfl|rfl|rfl|rfl<;>rfl) ?_;intro w11 hbk hg;clear cgb12_0 cgb12_1 cgb12_2 cgb12_3 cgb12_4 cgb12_5;have HOn:=am_ (eff_put_old HO.out hg);clear HO;have HO:=HOn;clear HOn;replace BK5:=am_ (blk_put_other BK5.out hg (NE5_12.out));replace BK7:=am_ (blk_put_other BK7.out hg (NE7_12.out));replace BK8:=am_ (blk_put_other BK8.out hg (NE8_12.out));replace BK9:=am_ (blk_put_other BK9.out hg (NE9_12.out));replace HB:=am_ (below_put HB.out (below_size HB.out) hg GE12.out);replace BK12:=am_ (hbk);clear hbk hg;have cgb12_0:=(blk_cell BK12.out 0).trans rfl;have cgb12_1:=(blk_cell BK12.out 1).trans rfl;have cgb12_2:=(blk_cell BK12.out 2).trans rfl;have cgb12_3:=(blk_cell BK12.out 3).trans rfl;have cgb12_4:=(blk_cell BK12.out 4).trans rfl;have cgb12_5:=(blk_cell BK12.out 5).trans rfl;have cgb5_1:=(blk_cell BK5.out 1).trans rfl;have cgb8_0:=(blk_cell BK8.out 0).trans rfl;have cgb9_0:=(blk_cell BK9.out 0).trans rfl)|((with_reducible refine gate_builtin (b:= .append) (xs:=#[.tmp 48, .tmp 50]) rfl ?_);at_builtin;refine Kd.R_append k54 (w0:=w11) (gb9+1) rfl (.tmp 48) (.tmp 50) 35 54 (.agg #[(.string ⟨#[]⟩),(.string ⟨#[]⟩),(.int .i64 0),(.int .i64 0),(.int .i64 0),(.int .i64 0)]) 64 rfl Try.underlying35 info54 rfl (by decide) (by omega) _ acc (rd_T54 l0 (i:Int)) [.string (rd_T54 l0 (i:Int)).f0, .string (rd_T54 l0 (i:Int)).f1, .int .i64 (rd_T54 l0 (i:Int)).f2.f0, .int .i64 (rd_T54 l0 (i:Int)).f2.f1, .int .i64 (rd_T54 l0 (i:Int)).f2.f2, .int .i64 (rd_T54 l0 (i:Int)).f3] (fun _=>True) (fun _=>False) rfl (by first|(go_simp;done)|(go_simp;rfl)) ?aP (fun _ hk=>hk.elim) ?aF ?aO ?aB ?aS ?aL ?_;(case aP=>exact k54_mkM _ _ _ (rd_T54 l0 (i:Int)));(case aF=>exact fun _ _=>trivial);(case aO=>exact Kd.R_mono HO.out (fun _ _=>trivial));(case aB=>exact Below.refl _ _);(case aS=>exact Nat.succ_le_of_lt (blk_lt BK9.out));(case aL=>have:=HAC.out;have:=HI.out;have:=HL.out;(try simp only [List.length_append,List.length_singleton]);omega);intro v5 w13 ho hb hg hat;have HG8:=Aside0.mk hg;have ne5:some gb5≠_:=Kd.R_ne HO.out BK5.out (by decide);have ne7:some gb7≠_:=Kd.R_ne HO.out BK7.out (by decide);have ne8:some gb8≠_:=Kd.R_ne HO.out BK8.out (by decide);have ne9:some gb9≠_:=Kd.R_ne HO.out BK9.out (by decide);have n0_:=am_ (blk_grown BK5.out hg ne5);have n1_:=am_ (blk_grown BK7.out hg ne7);have n2_:=am_ (blk_grown BK8.out hg ne8);have n3_:=am_ (blk_grown BK9.out hg ne9);have n4_:=Aside0.mk ho;have n5_:=am_ (pw_below_grown HB.out _ (below_size HB.out) hg (fun k e=>by have:=(eff_own HO.out k e).1;have:=GE8.out;have:=LT8_9.out;omega));clear BK5 BK7 BK8 BK9 BK12 HO HB;have BK5:=n0_;have BK7:=n1_;have BK8:=n2_;have BK9:=n3_;have HO:=n4_;have HB:=n5_;clear n0_ n1_ n2_ n3_ n4_ n5_ ho hb hg hat ne5 ne7 ne8 ne9;obtain ⟨Ao,co_,eo⟩:=Kd.R_slice HO.out;subst eo)|((with_reducible refine gate_store (t:=35) (p:=8) (v:= .tmp 51) rfl ?_);refine store_all BK8.out 35 (.tmp 8) (.tmp 51) rfl rfl rfl _ [_] rfl rfl rfl (by kernel_rfl) rfl (by intro q hq;simp only [List.mem_cons,List.not_mem_nil,or_false] at hq;rcases hq with rfl;rfl) ?_;intro w14 hbk hg;have n0_:=am_ (blk_put_other BK5.out hg (by have:=LT5_8.out;omega));have n1_:=am_ (blk_put_other BK7.out hg (by have:=LT7_8.out;omega));have n2_:=am_ (blk_put_other BK9.out hg (by have:=LT8_9.out;omega));have n3_:=am_ (R_put HO.out BK8.out (by decide) hg);have n4_:=am_ (below_put HB.out (below_size HB.out) hg GE8.out);have n5_:=Aside0.mk hbk;clear BK5 BK7 BK8 BK9 HO HB hbk hg;have BK5:=n0_;have BK7:=n1_;have BK9:=n2_;have HO:=n3_;have HB:=n4_;have BK8:=n5_;clear n0_ n1_ n2_ n3_ n4_ n5_))
            go_roundg (l0.length - (i+1))
            case measure=>have:=HM.out;have:=HC.out;omega
            case rel=>exact ⟨i+1,_,_,_,(by have:=HC.out;omega),Nat.le_refl _,(by first|rfl|(rw [ei];done)|(simp [ei];done)|(simp [*];done)),HR2,⟨by have:=HAC.out;(try simp only [List.length_append,List.length_singleton]);omega⟩,⟨Kd.R_mono HO.out (fun _ _=>trivial)⟩,BK5,BK7,BK8,BK9,HB⟩
          · have c2b : ((rd_T54 l0 (i : Int)).f0.toList != s1.toList) = true := bne_iff_ne.mpr c2
            have c2a:((rd_T54 l0 (i:Int)).f0.toList==s1.toList)=false:=beq_eq_false_iff_ne.mpr c2
            have HR2:=am_ (show r=(acc++ [(rd_T54 l0 (i:Int))])++effL mk s1 true (l0.drop (i+1)) from by rw [HE.out,if_neg (show¬(true=false∧Op.bytesLess (rd_T54 l0 (i:Int)).f0.toList s1.toList=false) from fun q=>nomatch q.1),if_neg (show¬(true=false∧Op.bytesLess (rd_T54 l0 (i:Int)).f0.toList s1.toList=false) from fun q=>nomatch q.1),if_neg c2];simp only [List.nil_append,List.append_assoc])
            clear HE c2
            go_wp2_with (first|((with_reducible refine gate_dst (N:=12) rfl ?_);refine bx_ (N:=12) (cs:=#[.string ⟨#[]⟩, .string ⟨#[]⟩, .int .i64 0, .int .i64 0, .int .i64 0, .int .i64 0]) (t:=54) ?_;intro gb12 hg w10 hbox hb;have NE5_12:=am_ (show gb5≠gb12 from by have:=blk_lt BK5.out;rw [hg];exact Nat.ne_of_lt this);have LT5_12:=am_ (show gb5<gb12 from by have:=blk_lt BK5.out;rw [hg];exact this);have NE7_12:=am_ (show gb7≠gb12 from by have:=blk_lt BK7.out;rw [hg];exact Nat.ne_of_lt this);have LT7_12:=am_ (show gb7<gb12 from by have:=blk_lt BK7.out;rw [hg];exact this);have NE8_12:=am_ (show gb8≠gb12 from by have:=blk_lt BK8.out;rw [hg];exact Nat.ne_of_lt this);have LT8_12:=am_ (show gb8<gb12 from by have:=blk_lt BK8.out;rw [hg];exact this);have NE9_12:=am_ (show gb9≠gb12 from by have:=blk_lt BK9.out;rw [hg];exact Nat.ne_of_lt this);have LT9_12:=am_ (show gb9<gb12 from by have:=blk_lt BK9.out;rw [hg];exact this);have HOn:=am_ (show Kd.R k54 54 w10 (gb9+1) (fun k=>k<gb12) _ acc from by rw [hg];exact Kd.R_below (eff_old HO.out) hb);clear HO;have HO:=HOn;clear HOn;replace BK5:=am_ (blk_below BK5.out hb);replace BK7:=am_ (blk_below BK7.out hb);replace BK8:=am_ (blk_below BK8.out hb);replace BK9:=am_ (blk_below BK9.out hb);have BK12:=am_ (hbox);have GE12:=am_ ((by rw [hg];exact below_size HB.out:w.heap.size≤gb12));replace HB:=am_ (below_step HB.out hb);have EQ12:=am_ (hg);clear hb hbox hg;have cgb12_0:=(blk_cell BK12.out 0).trans rfl;have cgb12_1:=(blk_cell BK12.out 1).trans rfl;have cgb12_2:=(blk_cell BK12.out 2).trans rfl;have cgb12_3:=(blk_cell BK12.out 3).trans rfl;have cgb12_4:=(blk_cell BK12.out 4).trans rfl;have cgb12_5:=(blk_cell BK12.out 5).trans rfl)|((with_reducible refine gate_store (t:=54) (p:=12) (v:= .tmp 31) rfl ?_);refine store_all BK12.out 54 (.tmp 12) (.tmp 31) rfl rfl rfl (.agg #[.string (rd_T54 l0 (i:Int)).f0, .string (rd_T54 l0 (i:Int)).f1, .int .i64 (rd_T54 l0 (i:Int)).f2.f0, .int .i64 (rd_T54 l0 (i:Int)).f2.f1, .int .i64 (rd_T54 l0 (i:Int)).f2.f2, .int .i64 (rd_T54 l0 (i:Int)).f3]) [.string (rd_T54 l0 (i:Int)).f0, .string (rd_T54 l0 (i:Int)).f1, .int .i64 (rd_T54 l0 (i:Int)).f2.f0, .int .i64 (rd_T54 l0 (i:Int)).f2.f1, .int .i64 (rd_T54 l0 (i:Int)).f2.f2, .int .i64 (rd_T54 l0 (i:Int)).f3] rfl rfl rfl (by kernel_rfl) rfl (by intro q hq;simp only [List.mem_cons,List.not_mem_nil,or_false] at hq;rcases hq with rfl|rfl|rfl|rfl|rfl|rfl<;>rfl) ?_;intro w11 hbk hg;clear cgb12_0 cgb12_1 cgb12_2 cgb12_3 cgb12_4 cgb12_5;have HOn:=am_ (eff_put_old HO.out hg);clear HO;have HO:=HOn;clear HOn;replace BK5:=am_ (blk_put_other BK5.out hg (NE5_12.out));replace BK7:=am_ (blk_put_other BK7.out hg (NE7_12.out));replace BK8:=am_ (blk_put_other BK8.out hg (NE8_12.out));replace BK9:=am_ (blk_put_other BK9.out hg (NE9_12.out));replace HB:=am_ (below_put HB.out (below_size HB.out) hg GE12.out);replace BK12:=am_ (hbk);clear hbk hg;have cgb12_0:=(blk_cell BK12.out 0).trans rfl;have cgb12_1:=(blk_cell BK12.out 1).trans rfl;have cgb12_2:=(blk_cell BK12.out 2).trans rfl;have cgb12_3:=(blk_cell BK12.out 3).trans rfl;have cgb12_4:=(blk_cell BK12.out 4).trans rfl;have cgb12_5:=(blk_cell BK12.out 5).trans rfl;have cgb5_1:=(blk_cell BK5.out 1).trans rfl;have cgb8_0:=(blk_cell BK8.out 0).trans rfl;have cgb9_0:=(blk_cell BK9.out 0).trans rfl)|((with_reducible refine gate_builtin (b:= .append) (xs:=#[.tmp 48, .tmp 50]) rfl ?_);at_builtin;refine Kd.R_append k54 (w0:=w11) (gb9+1) rfl (.tmp 48) (.tmp 50) 35 54 (.agg #[(.string ⟨#[]⟩),(.string ⟨#[]⟩),(.int .i64 0),(.int .i64 0),(.int .i64 0),(.int .i64 0)]) 64 rfl Try.underlying35 info54 rfl (by decide) (by omega) _ acc (rd_T54 l0 (i:Int)) [.string (rd_T54 l0 (i:Int)).f0, .string (rd_T54 l0 (i:Int)).f1, .int .i64 (rd_T54 l0 (i:Int)).f2.f0, .int .i64 (rd_T54 l0 (i:Int)).f2.f1, .int .i64 (rd_T54 l0 (i:Int)).f2.f2, .int .i64 (rd_T54 l0 (i:Int)).f3] (fun _=>True) (fun _=>False) rfl (by first|(go_simp;done)|(go_simp;rfl)) ?aP (fun _ hk=>hk.elim) ?aF ?aO ?aB ?aS ?aL ?_;(case aP=>exact k54_mkM _ _ _ (rd_T54 l0 (i:Int)));(case aF=>exact fun _ _=>trivial);(case aO=>exact Kd.R_mono HO.out (fun _ _=>trivial));(case aB=>exact Below.refl _ _);(case aS=>exact Nat.succ_le_of_lt (blk_lt BK9.out));(case aL=>have:=HAC.out;have:=HI.out;have:=HL.out;(try simp only [List.length_append,List.length_singleton]);omega);intro v5 w13 ho hb hg hat;have HG8:=Aside0.mk hg;have ne5:some gb5≠_:=Kd.R_ne HO.out BK5.out (by decide);have ne7:some gb7≠_:=Kd.R_ne HO.out BK7.out (by decide);have ne8:some gb8≠_:=Kd.R_ne HO.out BK8.out (by decide);have ne9:some gb9≠_:=Kd.R_ne HO.out BK9.out (by decide);have n0_:=am_ (blk_grown BK5.out hg ne5);have n1_:=am_ (blk_grown BK7.out hg ne7);have n2_:=am_ (blk_grown BK8.out hg ne8);have n3_:=am_ (blk_grown BK9.out hg ne9);have n4_:=Aside0.mk ho;have n5_:=am_ (pw_below_grown HB.out _ (below_size HB.out) hg (fun k e=>by have:=(eff_own HO.out k e).1;have:=GE8.out;have:=LT8_9.out;omega));clear BK5 BK7 BK8 BK9 BK12 HO HB;have BK5:=n0_;have BK7:=n1_;have BK8:=n2_;have BK9:=n3_;have HO:=n4_;have HB:=n5_;clear n0_ n1_ n2_ n3_ n4_ n5_ ho hb hg hat ne5 ne7 ne8 ne9;obtain ⟨Ao,co_,eo⟩:=Kd.R_slice HO.out;subst eo)|((with_reducible refine gate_store (t:=35) (p:=8) (v:= .tmp 51) rfl ?_);refine store_all BK8.out 35 (.tmp 8) (.tmp 51) rfl rfl rfl _ [_] rfl rfl rfl (by kernel_rfl) rfl (by intro q hq;simp only [List.mem_cons,List.not_mem_nil,or_false] at hq;rcases hq with rfl;rfl) ?_;intro w14 hbk hg;have n0_:=am_ (blk_put_other BK5.out hg (by have:=LT5_8.out;omega));have n1_:=am_ (blk_put_other BK7.out hg (by have:=LT7_8.out;omega));have n2_:=am_ (blk_put_other BK9.out hg (by have:=LT8_9.out;omega));have n3_:=am_ (R_put HO.out BK8.out (by decide) hg);have n4_:=am_ (below_put HB.out (below_size HB.out) hg GE8.out);have n5_:=Aside0.mk hbk;clear BK5 BK7 BK8 BK9 HO HB hbk hg;have BK5:=n0_;have BK7:=n1_;have BK9:=n2_;have HO:=n3_;have HB:=n4_;have BK8:=n5_;clear n0_ n1_ n2_ n3_ n4_ n5_))
            go_roundg (l0.length - (i+1))
            case measure=>have:=HM.out;have:=HC.out;omega
            case rel=>exact ⟨i+1,_,_,_,(by have:=HC.out;omega),Nat.le_refl _,(by first|rfl|(rw [ei];done)|(simp [ei];done)|(simp [*];done)),HR2,⟨by have:=HAC.out;(try simp only [List.length_append,List.length_singleton]);omega⟩,⟨Kd.R_mono HO.out (fun _ _=>trivial)⟩,BK5,BK7,BK8,BK9,HB⟩
        | false =>
          by_cases cl:Op.bytesLess (rd_T54 l0 (i:Int)).f0.toList s1.toList=false
          · skip
            by_cases c2:(rd_T54 l0 (i:Int)).f0.toList=s1.toList
            · have c2b : ((rd_T54 l0 (i : Int)).f0.toList != s1.toList) = false := bne_eq_false_iff_eq.mpr c2
              have c2a:((rd_T54 l0 (i:Int)).f0.toList==s1.toList)=true:=beq_iff_eq.mpr c2
              have HR2:=am_ (show r=(acc++ [mk])++effL mk s1 true (l0.drop (i+1)) from by rw [HE.out,if_pos (show false=false∧Op.bytesLess (rd_T54 l0 (i:Int)).f0.toList s1.toList=false from ⟨rfl,cl⟩),if_pos (show false=false∧Op.bytesLess (rd_T54 l0 (i:Int)).f0.toList s1.toList=false from ⟨rfl,cl⟩),if_pos c2];simp only [List.nil_append,List.append_assoc])
              clear HE c2
              go_wp2_with (first|((with_reducible refine gate_dst (N:=12) rfl ?_);refine bx_ (N:=12) (cs:=#[.string ⟨#[]⟩, .string ⟨#[]⟩, .int .i64 0, .int .i64 0, .int .i64 0, .int .i64 0]) (t:=54) ?_;intro gb12 hg w10 hbox hb;have NE5_12:=am_ (show gb5≠gb12 from by have:=blk_lt BK5.out;rw [hg];exact Nat.ne_of_lt this);have LT5_12:=am_ (show gb5<gb12 from by have:=blk_lt BK5.out;rw [hg];exact this);have NE7_12:=am_ (show gb7≠gb12 from by have:=blk_lt BK7.out;rw [hg];exact Nat.ne_of_lt this);have LT7_12:=am_ (show gb7<gb12 from by have:=blk_lt BK7.out;rw [hg];exact this);have NE8_12:=am_ (show gb8≠gb12 from by have:=blk_lt BK8.out;rw [hg];exact Nat.ne_of_lt this);have LT8_12:=am_ (show gb8<gb12 from by have:=blk_lt BK8.out;rw [hg];exact this);have NE9_12:=am_ (show gb9≠gb12 from by have:=blk_lt BK9.out;rw [hg];exact Nat.ne_of_lt this);have LT9_12:=am_ (show gb9<gb12 from by have:=blk_lt BK9.out;rw [hg];exact this);have HOn:=am_ (show Kd.R k54 54 w10 (gb9+1) (fun k=>k<gb12) _ acc from by rw [hg];exact Kd.R_below (eff_old HO.out) hb);clear HO;have HO:=HOn;clear HOn;replace BK5:=am_ (blk_below BK5.out hb);replace BK7:=am_ (blk_below BK7.out hb);replace BK8:=am_ (blk_below BK8.out hb);replace BK9:=am_ (blk_below BK9.out hb);have BK12:=am_ (hbox);have GE12:=am_ ((by rw [hg];exact below_size HB.out:w.heap.size≤gb12));replace HB:=am_ (below_step HB.out hb);have EQ12:=am_ (hg);clear hb hbox hg;have cgb12_0:=(blk_cell BK12.out 0).trans rfl;have cgb12_1:=(blk_cell BK12.out 1).trans rfl;have cgb12_2:=(blk_cell BK12.out 2).trans rfl;have cgb12_3:=(blk_cell BK12.out 3).trans rfl;have cgb12_4:=(blk_cell BK12.out 4).trans rfl;have cgb12_5:=(blk_cell BK12.out 5).trans rfl)|((with_reducible refine gate_store (t:=54) (p:=12) (v:= .tmp 31) rfl ?_);refine store_all BK12.out 54 (.tmp 12) (.tmp 31) rfl rfl rfl (.agg #[.string (rd_T54 l0 (i:Int)).f0, .string (rd_T54 l0 (i:Int)).f1, .int .i64 (rd_T54 l0 (i:Int)).f2.f0, .int .i64 (rd_T54 l0 (i:Int)).f2.f1, .int .i64 (rd_T54 l0 (i:Int)).f2.f2, .int .i64 (rd_T54 l0 (i:Int)).f3]) [.string (rd_T54 l0 (i:Int)).f0, .string (rd_T54 l0 (i:Int)).f1, .int .i64 (rd_T54 l0 (i:Int)).f2.f0, .int .i64 (rd_T54 l0 (i:Int)).f2.f1, .int .i64 (rd_T54 l0 (i:Int)).f2.f2, .int .i64 (rd_T54 l0 (i:Int)).f3] rfl rfl rfl (by kernel_rfl) rfl (by intro q hq;simp only [List.mem_cons,List.not_mem_nil,or_false] at hq;rcases hq with rfl|rfl|rfl|rfl|rfl|rfl<;>rfl) ?_;intro w11 hbk hg;clear cgb12_0 cgb12_1 cgb12_2 cgb12_3 cgb12_4 cgb12_5;have HOn:=am_ (eff_put_old HO.out hg);clear HO;have HO:=HOn;clear HOn;replace BK5:=am_ (blk_put_other BK5.out hg (NE5_12.out));replace BK7:=am_ (blk_put_other BK7.out hg (NE7_12.out));replace BK8:=am_ (blk_put_other BK8.out hg (NE8_12.out));replace BK9:=am_ (blk_put_other BK9.out hg (NE9_12.out));replace HB:=am_ (below_put HB.out (below_size HB.out) hg GE12.out);replace BK12:=am_ (hbk);clear hbk hg;have cgb12_0:=(blk_cell BK12.out 0).trans rfl;have cgb12_1:=(blk_cell BK12.out 1).trans rfl;have cgb12_2:=(blk_cell BK12.out 2).trans rfl;have cgb12_3:=(blk_cell BK12.out 3).trans rfl;have cgb12_4:=(blk_cell BK12.out 4).trans rfl;have cgb12_5:=(blk_cell BK12.out 5).trans rfl;have cgb5_1:=(blk_cell BK5.out 1).trans rfl;have cgb8_0:=(blk_cell BK8.out 0).trans rfl;have cgb9_0:=(blk_cell BK9.out 0).trans rfl))
              refine (effPut_calls _ w.heap.size gb8 gb5 gb7 gb9 (gb9+1) l.length A c _ false acc s0 s3 s4 s5 s1 s2 r2 r3 r4 r5 r6 r7 r8 r9 r10 r11 r12 r13 b14 BK8.out BK5.out BK7.out BK9.out (by have:=GE8.out;omega) LT8_9.out (Nat.lt_succ_self _) (Nat.succ_le_of_lt (blk_lt BK9.out)) (Kd.R_mono HO.out (fun _ _=>trivial)) (by have:=HAC.out;have:=HI.out;have:=HL.out;omega)).mono ?_
              rintro e w12 ⟨rfl,v2,hbo,hbi,ho,hk,hb⟩
              rw [←HMK.out] at ho
              have n0_:=am_ ((hk.2 gb5 (blk_lt BK5.out) (by have:=LT5_8.out;omega) (by have:=LT5_9.out;omega) (Kd.R_ne HO.out BK5.out (by decide))).trans BK5.out)
              have n1_:=am_ ((hk.2 gb7 (blk_lt BK7.out) (by have:=LT7_8.out;omega) (by have:=LT7_9.out;omega) (Kd.R_ne HO.out BK7.out (by decide))).trans BK7.out)
              have n2_:=am_ ((hk.2 gb12 (blk_lt BK12.out) (by have:=LT8_12.out;omega) (by have:=LT9_12.out;omega) (eff_ne_old HO.out)).trans BK12.out)
              have n3_:=am_ (HB.out.trans hb)
              clear cgb5_1 cgb8_0 cgb9_0 cgb12_0 cgb12_1 cgb12_2 cgb12_3 cgb12_4 cgb12_5 BK5 BK7 BK8 BK9 BK12 HB HO
              have BK5:=n0_
              have BK7:=n1_
              have BK12:=n2_
              have HB:=n3_
              have BK8:=Aside0.mk hbo
              have BK9:=Aside0.mk hbi
              have HO:=Aside0.mk ho
              clear n0_ n1_ n2_ n3_ hbo hbi ho hk hb
              obtain ⟨Ap_,cp_,ep_⟩:=Kd.R_slice HO.out
              subst ep_
              simp only [List.length_append,List.length_cons,List.length_nil,Nat.zero_add] at HO BK8
              have cgb5_1:=(blk_cell BK5.out 1).trans rfl
              have cgb8_0:=(blk_cell BK8.out 0).trans rfl
              have cgb9_0:=(blk_cell BK9.out 0).trans rfl
              have cgb12_0:=(blk_cell BK12.out 0).trans rfl
              have cgb12_1:=(blk_cell BK12.out 1).trans rfl
              have cgb12_2:=(blk_cell BK12.out 2).trans rfl
              have cgb12_3:=(blk_cell BK12.out 3).trans rfl
              have cgb12_4:=(blk_cell BK12.out 4).trans rfl
              have cgb12_5:=(blk_cell BK12.out 5).trans rfl
              go_wp2_with (first|((with_reducible refine gate_builtin (b:= .append) (xs:=#[.tmp 48, .tmp 50]) rfl ?_);at_builtin;refine Kd.R_append k54 (w0:=w12) (gb9+1) rfl (.tmp 48) (.tmp 50) 35 54 (.agg #[(.string ⟨#[]⟩),(.string ⟨#[]⟩),(.int .i64 0),(.int .i64 0),(.int .i64 0),(.int .i64 0)]) 64 rfl Try.underlying35 info54 rfl (by decide) (by omega) _ (acc++ [mk]) (rd_T54 l0 (i:Int)) [.string (rd_T54 l0 (i:Int)).f0, .string (rd_T54 l0 (i:Int)).f1, .int .i64 (rd_T54 l0 (i:Int)).f2.f0, .int .i64 (rd_T54 l0 (i:Int)).f2.f1, .int .i64 (rd_T54 l0 (i:Int)).f2.f2, .int .i64 (rd_T54 l0 (i:Int)).f3] (fun _=>True) (fun _=>False) rfl (by first|(go_simp;done)|(go_simp;rfl)) ?aP (fun _ hk=>hk.elim) ?aF ?aO ?aB ?aS ?aL ?_;(case aP=>exact k54_mkM _ _ _ (rd_T54 l0 (i:Int)));(case aF=>exact fun _ _=>trivial);(case aO=>exact Kd.R_mono HO.out (fun _ _=>trivial));(case aB=>exact Below.refl _ _);(case aS=>exact Nat.succ_le_of_lt (blk_lt BK9.out));(case aL=>have:=HAC.out;have:=HI.out;have:=HL.out;(try simp only [List.length_append,List.length_singleton]);omega);intro v5 w13 ho hb hg hat;have HG8:=Aside0.mk hg;have ne5:some gb5≠_:=Kd.R_ne HO.out BK5.out (by decide);have ne7:some gb7≠_:=Kd.R_ne HO.out BK7.out (by decide);have ne8:some gb8≠_:=Kd.R_ne HO.out BK8.out (by decide);have ne9:some gb9≠_:=Kd.R_ne HO.out BK9.out (by decide);have n0_:=am_ (blk_grown BK5.out hg ne5);have n1_:=am_ (blk_grown BK7.out hg ne7);have n2_:=am_ (blk_grown BK8.out hg ne8);have n3_:=am_ (blk_grown BK9.out hg ne9);have n4_:=Aside0.mk ho;have n5_:=am_ (pw_below_grown HB.out _ (below_size HB.out) hg (fun k e=>by have:=(eff_own HO.out k e).1;have:=GE8.out;have:=LT8_9.out;omega));clear BK5 BK7 BK8 BK9 BK12 HO HB;have BK5:=n0_;have BK7:=n1_;have BK8:=n2_;have BK9:=n3_;have HO:=n4_;have HB:=n5_;clear n0_ n1_ n2_ n3_ n4_ n5_ ho hb hg hat ne5 ne7 ne8 ne9;obtain ⟨Ao,co_,eo⟩:=Kd.R_slice HO.out;subst eo)|((with_reducible refine gate_store (t:=35) (p:=8) (v:= .tmp 51) rfl ?_);refine store_all BK8.out 35 (.tmp 8) (.tmp 51) rfl rfl rfl _ [_] rfl rfl rfl (by kernel_rfl) rfl (by intro q hq;simp only [List.mem_cons,List.not_mem_nil,or_false] at hq;rcases hq with rfl;rfl) ?_;intro w14 hbk hg;have n0_:=am_ (blk_put_other BK5.out hg (by have:=LT5_8.out;omega));have n1_:=am_ (blk_put_other BK7.out hg (by have:=LT7_8.out;omega));have n2_:=am_ (blk_put_other BK9.out hg (by have:=LT8_9.out;omega));have n3_:=am_ (R_put HO.out BK8.out (by decide) hg);have n4_:=am_ (below_put HB.out (below_size HB.out) hg GE8.out);have n5_:=Aside0.mk hbk;clear BK5 BK7 BK8 BK9 HO HB hbk hg;have BK5:=n0_;have BK7:=n1_;have BK9:=n2_;have HO:=n3_;have HB:=n4_;have BK8:=n5_;clear n0_ n1_ n2_ n3_ n4_ n5_))
              go_roundg (l0.length - (i+1))
              case measure=>have:=HM.out;have:=HC.out;omega
              case rel=>exact ⟨i+1,_,_,_,(by have:=HC.out;omega),Nat.le_refl _,(by first|rfl|(rw [ei];done)|(simp [ei];done)|(simp [*];done)),HR2,⟨by have:=HAC.out;(try simp only [List.length_append,List.length_singleton]);omega⟩,⟨Kd.R_mono HO.out (fun _ _=>trivial)⟩,BK5,BK7,BK8,BK9,HB⟩
            · have c2b : ((rd_T54 l0 (i : Int)).f0.toList != s1.toList) = true := bne_iff_ne.mpr c2
              have c2a:((rd_T54 l0 (i:Int)).f0.toList==s1.toList)=false:=beq_eq_false_iff_ne.mpr c2
              have HR2:=am_ (show r=((acc++ [mk])++ [(rd_T54 l0 (i:Int))])++effL mk s1 true (l0.drop (i+1)) from by rw [HE.out,if_pos (show false=false∧Op.bytesLess (rd_T54 l0 (i:Int)).f0.toList s1.toList=false from ⟨rfl,cl⟩),if_pos (show false=false∧Op.bytesLess (rd_T54 l0 (i:Int)).f0.toList s1.toList=false from ⟨rfl,cl⟩),if_neg c2];simp only [List.nil_append,List.append_assoc])
              clear HE c2
              go_wp2_with (first|((with_reducible refine gate_dst (N:=12) rfl ?_);refine bx_ (N:=12) (cs:=#[.string ⟨#[]⟩, .string ⟨#[]⟩, .int .i64 0, .int .i64 0, .int .i64 0, .int .i64 0]) (t:=54) ?_;intro gb12 hg w10 hbox hb;have NE5_12:=am_ (show gb5≠gb12 from by have:=blk_lt BK5.out;rw [hg];exact Nat.ne_of_lt this);have LT5_12:=am_ (show gb5<gb12 from by have:=blk_lt BK5.out;rw [hg];exact this);have NE7_12:=am_ (show gb7≠gb12 from by have:=blk_lt BK7.out;rw [hg];exact Nat.ne_of_lt this);have LT7_12:=am_ (show gb7<gb12 from by have:=blk_lt BK7.out;rw [hg];exact this);have NE8_12:=am_ (show gb8≠gb12 from by have:=blk_lt BK8.out;rw [hg];exact Nat.ne_of_lt this);have LT8_12:=am_ (show gb8<gb12 from by have:=blk_lt BK8.out;rw [hg];exact this);have NE9_12:=am_ (show gb9≠gb12 from by have:=blk_lt BK9.out;rw [hg];exact Nat.ne_of_lt this);have LT9_12:=am_ (show gb9<gb12 from by have:=blk_lt BK9.out;rw [hg];exact this);have HOn:=am_ (show Kd.R k54 54 w10 (gb9+1) (fun k=>k<gb12) _ acc from by rw [hg];exact Kd.R_below (eff_old HO.out) hb);clear HO;have HO:=HOn;clear HOn;replace BK5:=am_ (blk_below BK5.out hb);replace BK7:=am_ (blk_below BK7.out hb);replace BK8:=am_ (blk_below BK8.out hb);replace BK9:=am_ (blk_below BK9.out hb);have BK12:=am_ (hbox);have GE12:=am_ ((by rw [hg];exact below_size HB.out:w.heap.size≤gb12));replace HB:=am_ (below_step HB.out hb);have EQ12:=am_ (hg);clear hb hbox hg;have cgb12_0:=(blk_cell BK12.out 0).trans rfl;have cgb12_1:=(blk_cell BK12.out 1).trans rfl;have cgb12_2:=(blk_cell BK12.out 2).trans rfl;have cgb12_3:=(blk_cell BK12.out 3).trans rfl;have cgb12_4:=(blk_cell BK12.out 4).trans rfl;have cgb12_5:=(blk_cell BK12.out 5).trans rfl)|((with_reducible refine gate_store (t:=54) (p:=12) (v:= .tmp 31) rfl ?_);refine store_all BK12.out 54 (.tmp 12) (.tmp 31) rfl rfl rfl (.agg #[.string (rd_T54 l0 (i:Int)).f0, .string (rd_T54 l0 (i:Int)).f1, .int .i64 (rd_T54 l0 (i:Int)).f2.f0, .int .i64 (rd_T54 l0 (i:Int)).f2.f1, .int .i64 (rd_T54 l0 (i:Int)).f2.f2, .int .i64 (rd_T54 l0 (i:Int)).f3]) [.string (rd_T54 l0 (i:Int)).f0, .string (rd_T54 l0 (i:Int)).f1, .int .i64 (rd_T54 l0 (i:Int)).f2.f0, .int .i64 (rd_T54 l0 (i:Int)).f2.f1, .int .i64 (rd_T54 l0 (i:Int)).f2.f2, .int .i64 (rd_T54 l0 (i:Int)).f3] rfl rfl rfl (by kernel_rfl) rfl (by intro q hq;simp only [List.mem_cons,List.not_mem_nil,or_false] at hq;rcases hq with rfl|rfl|rfl|rfl|rfl|rfl<;>rfl) ?_;intro w11 hbk hg;clear cgb12_0 cgb12_1 cgb12_2 cgb12_3 cgb12_4 cgb12_5;have HOn:=am_ (eff_put_old HO.out hg);clear HO;have HO:=HOn;clear HOn;replace BK5:=am_ (blk_put_other BK5.out hg (NE5_12.out));replace BK7:=am_ (blk_put_other BK7.out hg (NE7_12.out));replace BK8:=am_ (blk_put_other BK8.out hg (NE8_12.out));replace BK9:=am_ (blk_put_other BK9.out hg (NE9_12.out));replace HB:=am_ (below_put HB.out (below_size HB.out) hg GE12.out);replace BK12:=am_ (hbk);clear hbk hg;have cgb12_0:=(blk_cell BK12.out 0).trans rfl;have cgb12_1:=(blk_cell BK12.out 1).trans rfl;have cgb12_2:=(blk_cell BK12.out 2).trans rfl;have cgb12_3:=(blk_cell BK12.out 3).trans rfl;have cgb12_4:=(blk_cell BK12.out 4).trans rfl;have cgb12_5:=(blk_cell BK12.out 5).trans rfl;have cgb5_1:=(blk_cell BK5.out 1).trans rfl;have cgb8_0:=(blk_cell BK8.out 0).trans rfl;have cgb9_0:=(blk_cell BK9.out 0).trans rfl))
              refine (effPut_calls _ w.heap.size gb8 gb5 gb7 gb9 (gb9+1) l.length A c _ false acc s0 s3 s4 s5 s1 s2 r2 r3 r4 r5 r6 r7 r8 r9 r10 r11 r12 r13 b14 BK8.out BK5.out BK7.out BK9.out (by have:=GE8.out;omega) LT8_9.out (Nat.lt_succ_self _) (Nat.succ_le_of_lt (blk_lt BK9.out)) (Kd.R_mono HO.out (fun _ _=>trivial)) (by have:=HAC.out;have:=HI.out;have:=HL.out;omega)).mono ?_
              rintro e w12 ⟨rfl,v2,hbo,hbi,ho,hk,hb⟩
              rw [←HMK.out] at ho
              have n0_:=am_ ((hk.2 gb5 (blk_lt BK5.out) (by have:=LT5_8.out;omega) (by have:=LT5_9.out;omega) (Kd.R_ne HO.out BK5.out (by decide))).trans BK5.out)
              have n1_:=am_ ((hk.2 gb7 (blk_lt BK7.out) (by have:=LT7_8.out;omega) (by have:=LT7_9.out;omega) (Kd.R_ne HO.out BK7.out (by decide))).trans BK7.out)
              have n2_:=am_ ((hk.2 gb12 (blk_lt BK12.out) (by have:=LT8_12.out;omega) (by have:=LT9_12.out;omega) (eff_ne_old HO.out)).trans BK12.out)
              have n3_:=am_ (HB.out.trans hb)
              clear cgb5_1 cgb8_0 cgb9_0 cgb12_0 cgb12_1 cgb12_2 cgb12_3 cgb12_4 cgb12_5 BK5 BK7 BK8 BK9 BK12 HB HO
              have BK5:=n0_
              have BK7:=n1_
              have BK12:=n2_
              have HB:=n3_
              have BK8:=Aside0.mk hbo
              have BK9:=Aside0.mk hbi
              have HO:=Aside0.mk ho
              clear n0_ n1_ n2_ n3_ hbo hbi ho hk hb
              obtain ⟨Ap_,cp_,ep_⟩:=Kd.R_slice HO.out
              subst ep_
              simp only [List.length_append,List.length_cons,List.length_nil,Nat.zero_add] at HO BK8
              have cgb5_1:=(blk_cell BK5.out 1).trans rfl
              have cgb8_0:=(blk_cell BK8.out 0).trans rfl
              have cgb9_0:=(blk_cell BK9.out 0).trans rfl
              have cgb12_0:=(blk_cell BK12.out 0).trans rfl
              have cgb12_1:=(blk_cell BK12.out 1).trans rfl
              have cgb12_2:=(blk_cell BK12.out 2).trans rfl
              have cgb12_3:=(blk_cell BK12.out 3).trans rfl
              have cgb12_4:=(blk_cell BK12.out 4).trans rfl
              have cgb12_5:=(blk_cell BK12.out 5).trans rfl
              go_wp2_with (first|((with_reducible refine gate_builtin (b:= .append) (xs:=#[.tmp 48, .tmp 50]) rfl ?_);at_builtin;refine Kd.R_append k54 (w0:=w12) (gb9+1) rfl (.tmp 48) (.tmp 50) 35 54 (.agg #[(.string ⟨#[]⟩),(.string ⟨#[]⟩),(.int .i64 0),(.int .i64 0),(.int .i64 0),(.int .i64 0)]) 64 rfl Try.underlying35 info54 rfl (by decide) (by omega) _ (acc++ [mk]) (rd_T54 l0 (i:Int)) [.string (rd_T54 l0 (i:Int)).f0, .string (rd_T54 l0 (i:Int)).f1, .int .i64 (rd_T54 l0 (i:Int)).f2.f0, .int .i64 (rd_T54 l0 (i:Int)).f2.f1, .int .i64 (rd_T54 l0 (i:Int)).f2.f2, .int .i64 (rd_T54 l0 (i:Int)).f3] (fun _=>True) (fun _=>False) rfl (by first|(go_simp;done)|(go_simp;rfl)) ?aP (fun _ hk=>hk.elim) ?aF ?aO ?aB ?aS ?aL ?_;(case aP=>exact k54_mkM _ _ _ (rd_T54 l0 (i:Int)));(case aF=>exact fun _ _=>trivial);(case aO=>exact Kd.R_mono HO.out (fun _ _=>trivial));(case aB=>exact Below.refl _ _);(case aS=>exact Nat.succ_le_of_lt (blk_lt BK9.out));(case aL=>have:=HAC.out;have:=HI.out;have:=HL.out;(try simp only [List.length_append,List.length_singleton]);omega);intro v5 w13 ho hb hg hat;have HG8:=Aside0.mk hg;have ne5:some gb5≠_:=Kd.R_ne HO.out BK5.out (by decide);have ne7:some gb7≠_:=Kd.R_ne HO.out BK7.out (by decide);have ne8:some gb8≠_:=Kd.R_ne HO.out BK8.out (by decide);have ne9:some gb9≠_:=Kd.R_ne HO.out BK9.out (by decide);have n0_:=am_ (blk_grown BK5.out hg ne5);have n1_:=am_ (blk_grown BK7.out hg ne7);have n2_:=am_ (blk_grown BK8.out hg ne8);have n3_:=am_ (blk_grown BK9.out hg ne9);have n4_:=Aside0.mk ho;have n5_:=am_ (pw_below_grown HB.out _ (below_size HB.out) hg (fun k e=>by have:=(eff_own HO.out k e).1;have:=GE8.out;have:=LT8_9.out;omega));clear BK5 BK7 BK8 BK9 BK12 HO HB;have BK5:=n0_;have BK7:=n1_;have BK8:=n2_;have BK9:=n3_;have HO:=n4_;have HB:=n5_;clear n0_ n1_ n2_ n3_ n4_ n5_ ho hb hg hat ne5 ne7 ne8 ne9;obtain ⟨Ao,co_,eo⟩:=Kd.R_slice HO.out;subst eo)|((with_reducible refine gate_store (t:=35) (p:=8) (v:= .tmp 51) rfl ?_);refine store_all BK8.out 35 (.tmp 8) (.tmp 51) rfl rfl rfl _ [_] rfl rfl rfl (by kernel_rfl) rfl (by intro q hq;simp only [List.mem_cons,List.not_mem_nil,or_false] at hq;rcases hq with rfl;rfl) ?_;intro w14 hbk hg;have n0_:=am_ (blk_put_other BK5.out hg (by have:=LT5_8.out;omega));have n1_:=am_ (blk_put_other BK7.out hg (by have:=LT7_8.out;omega));have n2_:=am_ (blk_put_other BK9.out hg (by have:=LT8_9.out;omega));have n3_:=am_ (R_put HO.out BK8.out (by decide) hg);have n4_:=am_ (below_put HB.out (below_size HB.out) hg GE8.out);have n5_:=Aside0.mk hbk;clear BK5 BK7 BK8 BK9 HO HB hbk hg;have BK5:=n0_;have BK7:=n1_;have BK9:=n2_;have HO:=n3_;have HB:=n4_;have BK8:=n5_;clear n0_ n1_ n2_ n3_ n4_ n5_))
              go_roundg (l0.length - (i+1))
              case measure=>have:=HM.out;have:=HC.out;omega
              case rel=>exact ⟨i+1,_,_,_,(by have:=HC.out;omega),Nat.le_refl _,(by first|rfl|(rw [ei];done)|(simp [ei];done)|(simp [*];done)),HR2,⟨by have:=HAC.out;(try simp only [List.length_append,List.length_singleton]);omega⟩,⟨Kd.R_mono HO.out (fun _ _=>trivial)⟩,BK5,BK7,BK8,BK9,HB⟩
          · have cl : Op.bytesLess (rd_T54 l0 (i : Int)).f0.toList s1.toList = true := by simpa using cl
            by_cases c2:(rd_T54 l0 (i:Int)).f0.toList=s1.toList
            · have c2b : ((rd_T54 l0 (i : Int)).f0.toList != s1.toList) = false := bne_eq_false_iff_eq.mpr c2
              have c2a:((rd_T54 l0 (i:Int)).f0.toList==s1.toList)=true:=beq_iff_eq.mpr c2
              have HR2:=am_ (show r=acc++effL mk s1 false (l0.drop (i+1)) from by rw [HE.out,if_neg (show¬(false=false∧Op.bytesLess (rd_T54 l0 (i:Int)).f0.toList s1.toList=false) from fun q=>by rw [cl] at q;exact nomatch q.2),if_neg (show¬(false=false∧Op.bytesLess (rd_T54 l0 (i:Int)).f0.toList s1.toList=false) from fun q=>by rw [cl] at q;exact nomatch q.2),if_pos c2];simp only [List.nil_append,List.append_assoc])
              clear HE c2
              go_wp2_with (first|((with_reducible refine gate_dst (N:=12) rfl ?_);refine bx_ (N:=12) (cs:=#[.string ⟨#[]⟩, .string ⟨#[]⟩, .int .i64 0, .int .i64 0, .int .i64 0, .int .i64 0]) (t:=54) ?_;intro gb12 hg w10 hbox hb;have NE5_12:=am_ (show gb5≠gb12 from by have:=blk_lt BK5.out;rw [hg];exact Nat.ne_of_lt this);have LT5_12:=am_ (show gb5<gb12 from by have:=blk_lt BK5.out;rw [hg];exact this);have NE7_12:=am_ (show gb7≠gb12 from by have:=blk_lt BK7.out;rw [hg];exact Nat.ne_of_lt this);have LT7_12:=am_ (show gb7<gb12 from by have:=blk_lt BK7.out;rw [hg];exact this);have NE8_12:=am_ (show gb8≠gb12 from by have:=blk_lt BK8.out;rw [hg];exact Nat.ne_of_lt this);have LT8_12:=am_ (show gb8<gb12 from by have:=blk_lt BK8.out;rw [hg];exact this);have NE9_12:=am_ (show gb9≠gb12 from by have:=blk_lt BK9.out;rw [hg];exact Nat.ne_of_lt this);have LT9_12:=am_ (show gb9<gb12 from by have:=blk_lt BK9.out;rw [hg];exact this);have HOn:=am_ (show Kd.R k54 54 w10 (gb9+1) (fun k=>k<gb12) _ acc from by rw [hg];exact Kd.R_below (eff_old HO.out) hb);clear HO;have HO:=HOn;clear HOn;replace BK5:=am_ (blk_below BK5.out hb);replace BK7:=am_ (blk_below BK7.out hb);replace BK8:=am_ (blk_below BK8.out hb);replace BK9:=am_ (blk_below BK9.out hb);have BK12:=am_ (hbox);have GE12:=am_ ((by rw [hg];exact below_size HB.out:w.heap.size≤gb12));replace HB:=am_ (below_step HB.out hb);have EQ12:=am_ (hg);clear hb hbox hg;have cgb12_0:=(blk_cell BK12.out 0).trans rfl;have cgb12_1:=(blk_cell BK12.out 1).trans rfl;have cgb12_2:=(blk_cell BK12.out 2).trans rfl;have cgb12_3:=(blk_cell BK12.out 3).trans rfl;have cgb12_4:=(blk_cell BK12.out 4).trans rfl;have cgb12_5:=(blk_cell BK12.out 5).trans rfl)|((with_reducible refine gate_store (t:=54) (p:=12) (v:= .tmp 31) rfl ?_);refine store_all BK12.out 54 (.tmp 12) (.tmp 31) rfl rfl rfl (.agg #[.string (rd_T54 l0 (i:Int)).f0, .string (rd_T54 l0 (i:Int)).f1, .int .i64 (rd_T54 l0 (i:Int)).f2.f0, .int .i64 (rd_T54 l0 (i:Int)).f2.f1, .int .i64 (rd_T54 l0 (i:Int)).f2.f2, .int .i64 (rd_T54 l0 (i:Int)).f3]) [.string (rd_T54 l0 (i:Int)).f0, .string (rd_T54 l0 (i:Int)).f1, .int .i64 (rd_T54 l0 (i:Int)).f2.f0, .int .i64 (rd_T54 l0 (i:Int)).f2.f1, .int .i64 (rd_T54 l0 (i:Int)).f2.f2, .int .i64 (rd_T54 l0 (i:Int)).f3] rfl rfl rfl (by kernel_rfl) rfl (by intro q hq;simp only [List.mem_cons,List.not_mem_nil,or_false] at hq;rcases hq with rfl|rfl|rfl|rfl|rfl|rfl<;>rfl) ?_;intro w11 hbk hg;clear cgb12_0 cgb12_1 cgb12_2 cgb12_3 cgb12_4 cgb12_5;have HOn:=am_ (eff_put_old HO.out hg);clear HO;have HO:=HOn;clear HOn;replace BK5:=am_ (blk_put_other BK5.out hg (NE5_12.out));replace BK7:=am_ (blk_put_other BK7.out hg (NE7_12.out));replace BK8:=am_ (blk_put_other BK8.out hg (NE8_12.out));replace BK9:=am_ (blk_put_other BK9.out hg (NE9_12.out));replace HB:=am_ (below_put HB.out (below_size HB.out) hg GE12.out);replace BK12:=am_ (hbk);clear hbk hg;have cgb12_0:=(blk_cell BK12.out 0).trans rfl;have cgb12_1:=(blk_cell BK12.out 1).trans rfl;have cgb12_2:=(blk_cell BK12.out 2).trans rfl;have cgb12_3:=(blk_cell BK12.out 3).trans rfl;have cgb12_4:=(blk_cell BK12.out 4).trans rfl;have cgb12_5:=(blk_cell BK12.out 5).trans rfl;have cgb5_1:=(blk_cell BK5.out 1).trans rfl;have cgb8_0:=(blk_cell BK8.out 0).trans rfl;have cgb9_0:=(blk_cell BK9.out 0).trans rfl)|((with_reducible refine gate_builtin (b:= .append) (xs:=#[.tmp 48, .tmp 50]) rfl ?_);at_builtin;refine Kd.R_append k54 (w0:=w11) (gb9+1) rfl (.tmp 48) (.tmp 50) 35 54 (.agg #[(.string ⟨#[]⟩),(.string ⟨#[]⟩),(.int .i64 0),(.int .i64 0),(.int .i64 0),(.int .i64 0)]) 64 rfl Try.underlying35 info54 rfl (by decide) (by omega) _ acc (rd_T54 l0 (i:Int)) [.string (rd_T54 l0 (i:Int)).f0, .string (rd_T54 l0 (i:Int)).f1, .int .i64 (rd_T54 l0 (i:Int)).f2.f0, .int .i64 (rd_T54 l0 (i:Int)).f2.f1, .int .i64 (rd_T54 l0 (i:Int)).f2.f2, .int .i64 (rd_T54 l0 (i:Int)).f3] (fun _=>True) (fun _=>False) rfl (by first|(go_simp;done)|(go_simp;rfl)) ?aP (fun _ hk=>hk.elim) ?aF ?aO ?aB ?aS ?aL ?_;(case aP=>exact k54_mkM _ _ _ (rd_T54 l0 (i:Int)));(case aF=>exact fun _ _=>trivial);(case aO=>exact Kd.R_mono HO.out (fun _ _=>trivial));(case aB=>exact Below.refl _ _);(case aS=>exact Nat.succ_le_of_lt (blk_lt BK9.out));(case aL=>have:=HAC.out;have:=HI.out;have:=HL.out;(try simp only [List.length_append,List.length_singleton]);omega);intro v5 w13 ho hb hg hat;have HG8:=Aside0.mk hg;have ne5:some gb5≠_:=Kd.R_ne HO.out BK5.out (by decide);have ne7:some gb7≠_:=Kd.R_ne HO.out BK7.out (by decide);have ne8:some gb8≠_:=Kd.R_ne HO.out BK8.out (by decide);have ne9:some gb9≠_:=Kd.R_ne HO.out BK9.out (by decide);have n0_:=am_ (blk_grown BK5.out hg ne5);have n1_:=am_ (blk_grown BK7.out hg ne7);have n2_:=am_ (blk_grown BK8.out hg ne8);have n3_:=am_ (blk_grown BK9.out hg ne9);have n4_:=Aside0.mk ho;have n5_:=am_ (pw_below_grown HB.out _ (below_size HB.out) hg (fun k e=>by have:=(eff_own HO.out k e).1;have:=GE8.out;have:=LT8_9.out;omega));clear BK5 BK7 BK8 BK9 BK12 HO HB;have BK5:=n0_;have BK7:=n1_;have BK8:=n2_;have BK9:=n3_;have HO:=n4_;have HB:=n5_;clear n0_ n1_ n2_ n3_ n4_ n5_ ho hb hg hat ne5 ne7 ne8 ne9;obtain ⟨Ao,co_,eo⟩:=Kd.R_slice HO.out;subst eo)|((with_reducible refine gate_store (t:=35) (p:=8) (v:= .tmp 51) rfl ?_);refine store_all BK8.out 35 (.tmp 8) (.tmp 51) rfl rfl rfl _ [_] rfl rfl rfl (by kernel_rfl) rfl (by intro q hq;simp only [List.mem_cons,List.not_mem_nil,or_false] at hq;rcases hq with rfl;rfl) ?_;intro w14 hbk hg;have n0_:=am_ (blk_put_other BK5.out hg (by have:=LT5_8.out;omega));have n1_:=am_ (blk_put_other BK7.out hg (by have:=LT7_8.out;omega));have n2_:=am_ (blk_put_other BK9.out hg (by have:=LT8_9.out;omega));have n3_:=am_ (R_put HO.out BK8.out (by decide) hg);have n4_:=am_ (below_put HB.out (below_size HB.out) hg GE8.out);have n5_:=Aside0.mk hbk;clear BK5 BK7 BK8 BK9 HO HB hbk hg;have BK5:=n0_;have BK7:=n1_;have BK9:=n2_;have HO:=n3_;have HB:=n4_;have BK8:=n5_;clear n0_ n1_ n2_ n3_ n4_ n5_))
              go_roundg (l0.length - (i+1))
              case measure=>have:=HM.out;have:=HC.out;omega
              case rel=>exact ⟨i+1,_,_,_,(by have:=HC.out;omega),Nat.le_refl _,(by first|rfl|(rw [ei];done)|(simp [ei];done)|(simp [*];done)),HR2,⟨by have:=HAC.out;(try simp only [List.length_append,List.length_singleton]);omega⟩,⟨Kd.R_mono HO.out (fun _ _=>trivial)⟩,BK5,BK7,BK8,BK9,HB⟩
            · have c2b : ((rd_T54 l0 (i : Int)).f0.toList != s1.toList) = true := bne_iff_ne.mpr c2
              have c2a:((rd_T54 l0 (i:Int)).f0.toList==s1.toList)=false:=beq_eq_false_iff_ne.mpr c2
              have HR2:=am_ (show r=(acc++ [(rd_T54 l0 (i:Int))])++effL mk s1 false (l0.drop (i+1)) from by rw [HE.out,if_neg (show¬(false=false∧Op.bytesLess (rd_T54 l0 (i:Int)).f0.toList s1.toList=false) from fun q=>by rw [cl] at q;exact nomatch q.2),if_neg (show¬(false=false∧Op.bytesLess (rd_T54 l0 (i:Int)).f0.toList s1.toList=false) from fun q=>by rw [cl] at q;exact nomatch q.2),if_neg c2];simp only [List.nil_append,List.append_assoc])
              clear HE c2
              go_wp2_with (first|((with_reducible refine gate_dst (N:=12) rfl ?_);refine bx_ (N:=12) (cs:=#[.string ⟨#[]⟩, .string ⟨#[]⟩, .int .i64 0, .int .i64 0, .int .i64 0, .int .i64 0]) (t:=54) ?_;intro gb12 hg w10 hbox hb;have NE5_12:=am_ (show gb5≠gb12 from by have:=blk_lt BK5.out;rw [hg];exact Nat.ne_of_lt this);have LT5_12:=am_ (show gb5<gb12 from by have:=blk_lt BK5.out;rw [hg];exact this);have NE7_12:=am_ (show gb7≠gb12 from by have:=blk_lt BK7.out;rw [hg];exact Nat.ne_of_lt this);have LT7_12:=am_ (show gb7<gb12 from by have:=blk_lt BK7.out;rw [hg];exact this);have NE8_12:=am_ (show gb8≠gb12 from by have:=blk_lt BK8.out;rw [hg];exact Nat.ne_of_lt this);have LT8_12:=am_ (show gb8<gb12 from by have:=blk_lt BK8.out;rw [hg];exact this);have NE9_12:=am_ (show gb9≠gb12 from by have:=blk_lt BK9.out;rw [hg];exact Nat.ne_of_lt this);have LT9_12:=am_ (show gb9<gb12 from by have:=blk_lt BK9.out;rw [hg];exact this);have HOn:=am_ (show Kd.R k54 54 w10 (gb9+1) (fun k=>k<gb12) _ acc from by rw [hg];exact Kd.R_below (eff_old HO.out) hb);clear HO;have HO:=HOn;clear HOn;replace BK5:=am_ (blk_below BK5.out hb);replace BK7:=am_ (blk_below BK7.out hb);replace BK8:=am_ (blk_below BK8.out hb);replace BK9:=am_ (blk_below BK9.out hb);have BK12:=am_ (hbox);have GE12:=am_ ((by rw [hg];exact below_size HB.out:w.heap.size≤gb12));replace HB:=am_ (below_step HB.out hb);have EQ12:=am_ (hg);clear hb hbox hg;have cgb12_0:=(blk_cell BK12.out 0).trans rfl;have cgb12_1:=(blk_cell BK12.out 1).trans rfl;have cgb12_2:=(blk_cell BK12.out 2).trans rfl;have cgb12_3:=(blk_cell BK12.out 3).trans rfl;have cgb12_4:=(blk_cell BK12.out 4).trans rfl;have cgb12_5:=(blk_cell BK12.out 5).trans rfl)|((with_reducible refine gate_store (t:=54) (p:=12) (v:= .tmp 31) rfl ?_);refine store_all BK12.out 54 (.tmp 12) (.tmp 31) rfl rfl rfl (.agg #[.string (rd_T54 l0 (i:Int)).f0, .string (rd_T54 l0 (i:Int)).f1, .int .i64 (rd_T54 l0 (i:Int)).f2.f0, .int .i64 (rd_T54 l0 (i:Int)).f2.f1, .int .i64 (rd_T54 l0 (i:Int)).f2.f2, .int .i64 (rd_T54 l0 (i:Int)).f3]) [.string (rd_T54 l0 (i:Int)).f0, .string (rd_T54 l0 (i:Int)).f1, .int .i64 (rd_T54 l0 (i:Int)).f2.f0, .int .i64 (rd_T54 l0 (i:Int)).f2.f1, .int .i64 (rd_T54 l0 (i:Int)).f2.f2, .int .i64 (rd_T54 l0 (i:Int)).f3] rfl rfl rfl (by kernel_rfl) rfl (by intro q hq;simp only [List.mem_cons,List.not_mem_nil,or_false] at hq;rcases hq with rfl|rfl|rfl|rfl|rfl|rfl<;>rfl) ?_;intro w11 hbk hg;clear cgb12_0 cgb12_1 cgb12_2 cgb12_3 cgb12_4 cgb12_5;have HOn:=am_ (eff_put_old HO.out hg);clear HO;have HO:=HOn;clear HOn;replace BK5:=am_ (blk_put_other BK5.out hg (NE5_12.out));replace BK7:=am_ (blk_put_other BK7.out hg (NE7_12.out));replace BK8:=am_ (blk_put_other BK8.out hg (NE8_12.out));replace BK9:=am_ (blk_put_other BK9.out hg (NE9_12.out));replace HB:=am_ (below_put HB.out (below_size HB.out) hg GE12.out);replace BK12:=am_ (hbk);clear hbk hg;have cgb12_0:=(blk_cell BK12.out 0).trans rfl;have cgb12_1:=(blk_cell BK12.out 1).trans rfl;have cgb12_2:=(blk_cell BK12.out 2).trans rfl;have cgb12_3:=(blk_cell BK12.out 3).trans rfl;have cgb12_4:=(blk_cell BK12.out 4).trans rfl;have cgb12_5:=(blk_cell BK12.out 5).trans rfl;have cgb5_1:=(blk_cell BK5.out 1).trans rfl;have cgb8_0:=(blk_cell BK8.out 0).trans rfl;have cgb9_0:=(blk_cell BK9.out 0).trans rfl)|((with_reducible refine gate_builtin (b:= .append) (xs:=#[.tmp 48, .tmp 50]) rfl ?_);at_builtin;refine Kd.R_append k54 (w0:=w11) (gb9+1) rfl (.tmp 48) (.tmp 50) 35 54 (.agg #[(.string ⟨#[]⟩),(.string ⟨#[]⟩),(.int .i64 0),(.int .i64 0),(.int .i64 0),(.int .i64 0)]) 64 rfl Try.underlying35 info54 rfl (by decide) (by omega) _ acc (rd_T54 l0 (i:Int)) [.string (rd_T54 l0 (i:Int)).f0, .string (rd_T54 l0 (i:Int)).f1, .int .i64 (rd_T54 l0 (i:Int)).f2.f0, .int .i64 (rd_T54 l0 (i:Int)).f2.f1, .int .i64 (rd_T54 l0 (i:Int)).f2.f2, .int .i64 (rd_T54 l0 (i:Int)).f3] (fun _=>True) (fun _=>False) rfl (by first|(go_simp;done)|(go_simp;rfl)) ?aP (fun _ hk=>hk.elim) ?aF ?aO ?aB ?aS ?aL ?_;(case aP=>exact k54_mkM _ _ _ (rd_T54 l0 (i:Int)));(case aF=>exact fun _ _=>trivial);(case aO=>exact Kd.R_mono HO.out (fun _ _=>trivial));(case aB=>exact Below.refl _ _);(case aS=>exact Nat.succ_le_of_lt (blk_lt BK9.out));(case aL=>have:=HAC.out;have:=HI.out;have:=HL.out;(try simp only [List.length_append,List.length_singleton]);omega);intro v5 w13 ho hb hg hat;have HG8:=Aside0.mk hg;have ne5:some gb5≠_:=Kd.R_ne HO.out BK5.out (by decide);have ne7:some gb7≠_:=Kd.R_ne HO.out BK7.out (by decide);have ne8:some gb8≠_:=Kd.R_ne HO.out BK8.out (by decide);have ne9:some gb9≠_:=Kd.R_ne HO.out BK9.out (by decide);have n0_:=am_ (blk_grown BK5.out hg ne5);have n1_:=am_ (blk_grown BK7.out hg ne7);have n2_:=am_ (blk_grown BK8.out hg ne8);have n3_:=am_ (blk_grown BK9.out hg ne9);have n4_:=Aside0.mk ho;have n5_:=am_ (pw_below_grown HB.out _ (below_size HB.out) hg (fun k e=>by have:=(eff_own HO.out k e).1;have:=GE8.out;have:=LT8_9.out;omega));clear BK5 BK7 BK8 BK9 BK12 HO HB;have BK5:=n0_;have BK7:=n1_;have BK8:=n2_;have BK9:=n3_;have HO:=n4_;have HB:=n5_;clear n0_ n1_ n2_ n3_ n4_ n5_ ho hb hg hat ne5 ne7 ne8 ne9;obtain ⟨Ao,co_,eo⟩:=Kd.R_slice HO.out;subst eo)|((with_reducible refine gate_store (t:=35) (p:=8) (v:= .tmp 51) rfl ?_);refine store_all BK8.out 35 (.tmp 8) (.tmp 51) rfl rfl rfl _ [_] rfl rfl rfl (by kernel_rfl) rfl (by intro q hq;simp only [List.mem_cons,List.not_mem_nil,or_false] at hq;rcases hq with rfl;rfl) ?_;intro w14 hbk hg;have n0_:=am_ (blk_put_other BK5.out hg (by have:=LT5_8.out;omega));have n1_:=am_ (blk_put_other BK7.out hg (by have:=LT7_8.out;omega));have n2_:=am_ (blk_put_other BK9.out hg (by have:=LT8_9.out;omega));have n3_:=am_ (R_put HO.out BK8.out (by decide) hg);have n4_:=am_ (below_put HB.out (below_size HB.out) hg GE8.out);have n5_:=Aside0.mk hbk;clear BK5 BK7 BK8 BK9 HO HB hbk hg;have BK5:=n0_;have BK7:=n1_;have BK9:=n2_;have HO:=n3_;have HB:=n4_;have BK8:=n5_;clear n0_ n1_ n2_ n3_ n4_ n5_))
              go_roundg (l0.length - (i+1))
              case measure=>have:=HM.out;have:=HC.out;omega
              case rel=>exact ⟨i+1,_,_,_,(by have:=HC.out;omega),Nat.le_refl _,(by first|rfl|(rw [ei];done)|(simp [ei];done)|(simp [*];done)),HR2,⟨by have:=HAC.out;(try simp only [List.length_append,List.length_singleton]);omega⟩,⟨Kd.R_mono HO.out (fun _ _=>trivial)⟩,BK5,BK7,BK8,BK9,HB⟩
      · have c1b : decide ((i : Int) < (l0.length : Int)) = false := decide_eq_false (by omega)
        have c1c:decide (i<l0.length)=false:=decide_eq_false c1
        have c1d:(i<l0.length)=False:=eq_false c1
        have hh:=HE.out
        rw [List.drop_of_length_le (by omega)] at hh
        unfold effL at hh
        have HE:=Aside0.mk hh
        clear hh c1
        have cgb8_0:=(blk_cell BK8.out 0).trans rfl
        cases inb with
        | true =>
          have HR2:=am_ (show r=acc from by rw [HE.out,if_pos rfl,List.append_nil])
          have cgb9_0:=(blk_cell BK9.out 0).trans rfl
          go_wp2_with fail
          have hlen:acc.length<2199023255552:=by have:=HAC.out;have:=HI.out;have:=HL.out;(try simp only [List.length_append,List.length_singleton]);omega
          have hcf:slices_Clone_Mark.f acc=some acc:=by unfold slices_Clone_Mark.f;exact if_pos hlen
          have hcl:=slices_Clone_Mark.calls Au cu acc acc _ (Kd.R_reads' HO.out).2.2 (Kd.R_reads' HO.out).2.1 hcf
          (try simp only [List.length_append,List.length_cons,List.length_nil,Nat.zero_add] at hcl)
          refine hcl.mono ?_
          rintro e w15 ⟨v0_,rfl,ho,hb⟩
          have HOz:=am_ (Kd.R_lower ho (below_size HB.out))
          have HBz:=am_ (below_step HB.out hb)
          clear ho hb hcl hcf hlen
          go_wp2
          go_ret
          exact ⟨_,rfl,by rw [HR2.out];exact HOz.out,HBz.out⟩
        | false =>
          have HR2:=am_ (show r=acc++ [mk] from by rw [HE.out,if_neg (by simp)])
          have cgb9_0:=(blk_cell BK9.out 0).trans rfl
          go_wp2_with fail
          refine (effPut_calls _ w.heap.size gb8 gb5 gb7 gb9 (gb9+1) l.length A c _ false acc s0 s3 s4 s5 s1 s2 r2 r3 r4 r5 r6 r7 r8 r9 r10 r11 r12 r13 b14 BK8.out BK5.out BK7.out BK9.out (by have:=GE8.out;omega) LT8_9.out (Nat.lt_succ_self _) (Nat.succ_le_of_lt (blk_lt BK9.out)) HO.out (by have:=HAC.out;have:=HI.out;have:=HL.out;omega)).mono ?_
          rintro e w12 ⟨rfl,v2,hbo,hbi,ho,hk,hb⟩
          rw [←HMK.out] at ho
          have n3_:=am_ (HB.out.trans hb)
          clear cgb8_0 cgb9_0 BK8 BK9 HB HO
          have HB:=n3_
          have BK8:=Aside0.mk hbo
          have HO:=Aside0.mk ho
          clear n3_ hbo hbi ho hk hb
          obtain ⟨Ap_,cp_,ep_⟩:=Kd.R_slice HO.out
          subst ep_
          simp only [List.length_append,List.length_cons,List.length_nil,Nat.zero_add] at BK8
          have cgb8_0:=(blk_cell BK8.out 0).trans rfl
          go_wp2_with fail
          have hlen:(acc++ [mk]).length<2199023255552:=by have:=HAC.out;have:=HI.out;have:=HL.out;(try simp only [List.length_append,List.length_singleton]);omega
          have hcf:slices_Clone_Mark.f (acc++ [mk])=some (acc++ [mk]):=by unfold slices_Clone_Mark.f;exact if_pos hlen
          have hcl:=slices_Clone_Mark.calls Ap_ cp_ (acc++ [mk]) (acc++ [mk]) _ (Kd.R_reads' HO.out).2.2 (Kd.R_reads' HO.out).2.1 hcf
          (try simp only [List.length_append,List.length_cons,List.length_nil,Nat.zero_add] at hcl)
          refine hcl.mono ?_
          rintro e w15 ⟨v0_,rfl,ho,hb⟩
          have HOz:=am_ (Kd.R_lower ho (below_size HB.out))
          have HBz:=am_ (below_step HB.out hb)
          clear ho hb hcl hcf hlen
          go_wp2
          go_ret
          exact ⟨_,rfl,by rw [HR2.out];exact HOz.out,HBz.out⟩)


def r10_no.f (a0:Int):Option ((List (S31))×Int):=some (([]:List (S31)),a0)
set_option maxHeartbeats 8000000 in
set_option maxRecDepth 100000 in
theorem r10_no.calls (a0:Int) (r1:List (S31)) (r2:Int) (w:World) (h:r10_no.f a0=some (r1,r2)):
  Calls Try.prog 113 #[.int .i64 a0] w fun e w'=> ∃v0_:Value,e= .returned (.agg #[v0_, .int .i64 r2])∧Kd.R k31 31 w' w.heap.size (fun _=>True) v0_ r1∧Below w.heap.size w w':=by
 have hu67:=Try.underlying67
 have HB:=am_ (Below.refl w.heap.size w)
 have H:(some (([]:List (S31)),a0))=some (r1,r2):=h
 clear h
 simp only [Option.some.injEq,Prod.mk.injEq] at H
 obtain ⟨rfl,rfl⟩:=H
 go_enter Try.func113,Try.ntmps113
 go_wp2_with (first|((with_reducible refine gate_dst (N:=2) rfl ?_);refine bx_ (N:=2) (cs:=#[.slice none 0 0, .int .i64 0]) (t:=67) ?_;intro gb1 hg w2 hbox hb;have BK1:=am_ (hbox);have GW1:=am_ ((zg0_ HB hg:w.heap.size≤gb1));have GE1:=am_ ((zg0_ HB hg:w.heap.size≤gb1));replace HB:=am_ (below_step (zl0_ HB) hb);clear hb hbox hg;obtain ⟨hcz3_0,hcz3_1⟩:=x2_ BK1;have hfz3_0:=blk_frozen BK1.out 0;have hfz3_1:=blk_frozen BK1.out 1))
 refine bodyPost_ret (results_cell_row rfl _ _ gb1 67 #[.slice none 0 0, .int .i64 a0] (0,0) _ rfl (zw_ BK1) Try.underlying67 rfl (by kernel_rfl)) rfl ?_
 exact ⟨_,by first|rfl|(simp [errW_none,errW_some]<;>rfl)|(simp [*,errW_none,errW_some]<;>rfl),by first|exact Kd.R_nil _ _ _ _ _|exact Kd.N_nil _ _ _ _ _|exact Kd.V_nil _ _ _ _ _|exact Kd.Q_nil _ _ _ _ _|exact Kd.S_nil _ _ _ _ _,zl1_ HB GE1⟩

def r10_unit.f (a0:Int):Option (Bool):=if a0≥0 then (some (decide (a0≤1099511627776))) else (some false)
set_option maxHeartbeats 8000000 in
set_option maxRecDepth 100000 in
theorem r10_unit.calls (a0:Int) (r:Bool) (w:World) (h:r10_unit.f a0=some r):
  Calls Try.prog 123 #[.int .i64 a0] w fun e w'=>e= .returned (.bool r)∧Drawn0 w w':=by
 have H:(if a0≥0 then (some (decide (a0≤1099511627776))) else (some false))=some r:=h
 clear h
 by_cases c2:a0≥0
 ·rw [if_pos c2] at H
  have c2b0:decide (0≤a0)=true:=decide_eq_true c2
  clear c2
  obtain rfl:=Option.some.inj H
  go_enter Try.func123,Try.ntmps123
  go_wp2
  go_ret
  exact ⟨by first|rfl|(simp;done)|(simp [*];done),by repeat (first|exact Drawn0.refl _|apply Drawn0.step)⟩
 rw [if_neg c2] at H
 have c2b0:decide (0≤a0)=false:=decide_eq_false c2
 clear c2
 obtain rfl:=Option.some.inj H
 go_enter Try.func123,Try.ntmps123
 go_wp2
 go_ret
 exact ⟨by first|rfl|(simp;done)|(simp [*];done),by repeat (first|exact Drawn0.refl _|apply Drawn0.step)⟩

def r10_MayVec.f (a0_0:Int) (a0_1:Int) (a0_2:Int):Option (Bool):=(r10_unit.f a0_0).bind fun t2=>(if t2=true then ((r10_unit.f a0_1).bind fun t3=>(if t3=true then ((r10_unit.f a0_2).bind fun t4=>(some t4)) else (some false))) else (some false))
set_option maxHeartbeats 8000000 in
set_option maxRecDepth 100000 in
theorem r10_MayVec.calls (a0_0:Int) (a0_1:Int) (a0_2:Int) (r:Bool) (w:World) (h:r10_MayVec.f a0_0 a0_1 a0_2=some r):
  Calls Try.prog 65 #[.agg #[.int .i64 a0_0, .int .i64 a0_1, .int .i64 a0_2]] w fun e w'=>e= .returned (.bool r)∧Below w.heap.size w w':=by
 have hu27:=Try.underlying27
 have HB:=am_ (Below.refl w.heap.size w)
 have H:((r10_unit.f a0_0).bind fun t2=>(if t2=true then ((r10_unit.f a0_1).bind fun t3=>(if t3=true then ((r10_unit.f a0_2).bind fun t4=>(some t4)) else (some false))) else (some false)))=some r:=h
 clear h
 replace H:=Option.bind_eq_some_iff.mp H
 obtain ⟨t2,A20,H⟩:=H
 try dsimp only at H
 have A2:=Aside0.mk A20
 clear A20
 by_cases c3:t2=true
 rotate_left
 ·replace c3:=Bool.eq_false_iff.mpr c3
  subst c3
  have H1:(some false)=some r:=by rw [if_neg (show¬(false=true) by decide)] at H;exact H
  clear H
  have H:=H1
  clear H1
  obtain rfl:=Option.some.inj H
  go_enter Try.func65,Try.ntmps65
  go_wp2_with (first|((with_reducible refine gate_dst (N:=1) rfl ?_);refine bx_ (N:=1) (cs:=#[.int .i64 a0_0, .int .i64 a0_1, .int .i64 a0_2]) (t:=27) ?_;intro gb1 hg w11 hbox hb;have BK1:=am_ (hbox);have GW1:=am_ ((zg0_ HB hg:w.heap.size≤gb1));have GE1:=am_ ((zg0_ HB hg:w.heap.size≤gb1));replace HB:=am_ (below_step (zl0_ HB) hb);clear hb hbox hg;obtain ⟨hcz12_0,hcz12_1,hcz12_2⟩:=x3_ BK1;have hfz12_0:=blk_frozen BK1.out 0;have hfz12_1:=blk_frozen BK1.out 1;have hfz12_2:=blk_frozen BK1.out 2)|((with_reducible refine gate_callee (f:=123) rfl ?_);refine gl_ (some 5) Try.func123 #[.int .i64 a0_0] ?_;(with_reducible refine (r10_unit.calls a0_0 false _ A2.out).mono ?_);rintro e w' ⟨rfl,⟨nd,rfl⟩⟩;refine ⟨_,rfl, ?_⟩))
  go_ret
  exact ⟨by first|rfl|(simp [errW_none,errW_some]<;>rfl)|(simp [*,errW_none,errW_some]<;>rfl),zl1_ HB GE1⟩

 subst c3
 have H1:((r10_unit.f a0_1).bind fun t3=>(if t3=true then ((r10_unit.f a0_2).bind fun t4=>(some t4)) else (some false)))=some r:=by rw [if_pos rfl] at H;exact H
 clear H
 have H:=H1
 clear H1
 replace H:=Option.bind_eq_some_iff.mp H
 obtain ⟨t3,A40,H⟩:=H
 try dsimp only at H
 have A4:=Aside0.mk A40
 clear A40
 by_cases c5:t3=true
 rotate_left
 ·replace c5:=Bool.eq_false_iff.mpr c5
  subst c5
  have H1:(some false)=some r:=by rw [if_neg (show¬(false=true) by decide)] at H;exact H
  clear H
  have H:=H1
  clear H1
  obtain rfl:=Option.some.inj H
  go_enter Try.func65,Try.ntmps65
  go_wp2_with (first|((with_reducible refine gate_dst (N:=1) rfl ?_);refine bx_ (N:=1) (cs:=#[.int .i64 a0_0, .int .i64 a0_1, .int .i64 a0_2]) (t:=27) ?_;intro gb1 hg w9 hbox hb;have BK1:=am_ (hbox);have GW1:=am_ ((zg0_ HB hg:w.heap.size≤gb1));have GE1:=am_ ((zg0_ HB hg:w.heap.size≤gb1));replace HB:=am_ (below_step (zl0_ HB) hb);clear hb hbox hg;obtain ⟨hcz10_0,hcz10_1,hcz10_2⟩:=x3_ BK1;have hfz10_0:=blk_frozen BK1.out 0;have hfz10_1:=blk_frozen BK1.out 1;have hfz10_2:=blk_frozen BK1.out 2)|((with_reducible refine gate_callee (f:=123) rfl ?_);refine gl_ (some 5) Try.func123 #[.int .i64 a0_0] ?_;(with_reducible refine (r10_unit.calls a0_0 true _ A2.out).mono ?_);rintro e w' ⟨rfl,⟨nd,rfl⟩⟩;refine ⟨_,rfl, ?_⟩)|(go_at_call 123;(with_reducible refine (r10_unit.calls a0_1 false _ A4.out).mono ?_);rintro e w' ⟨rfl,⟨nd,rfl⟩⟩))
  go_ret
  exact ⟨by first|rfl|(simp [errW_none,errW_some]<;>rfl)|(simp [*,errW_none,errW_some]<;>rfl),zl1_ HB GE1⟩
 subst c5
 have H1:((r10_unit.f a0_2).bind fun t4=>(some t4))=some r:=by rw [if_pos rfl] at H;exact H
 clear H
 have H:=H1
 clear H1
 replace H:=Option.bind_eq_some_iff.mp H
 obtain ⟨t4,A60,H⟩:=H
 try dsimp only at H
 have A6:=Aside0.mk A60
 clear A60
 obtain rfl:=Option.some.inj H
 go_enter Try.func65,Try.ntmps65
 go_wp2_with (first|((with_reducible refine gate_dst (N:=1) rfl ?_);refine bx_ (N:=1) (cs:=#[.int .i64 a0_0, .int .i64 a0_1, .int .i64 a0_2]) (t:=27) ?_;intro gb1 hg w7 hbox hb;have BK1:=am_ (hbox);have GW1:=am_ ((zg0_ HB hg:w.heap.size≤gb1));have GE1:=am_ ((zg0_ HB hg:w.heap.size≤gb1));replace HB:=am_ (below_step (zl0_ HB) hb);clear hb hbox hg;obtain ⟨hcz8_0,hcz8_1,hcz8_2⟩:=x3_ BK1;have hfz8_0:=blk_frozen BK1.out 0;have hfz8_1:=blk_frozen BK1.out 1;have hfz8_2:=blk_frozen BK1.out 2)|((with_reducible refine gate_callee (f:=123) rfl ?_);refine gl_ (some 5) Try.func123 #[.int .i64 a0_0] ?_;(with_reducible refine (r10_unit.calls a0_0 true _ A2.out).mono ?_);rintro e w' ⟨rfl,⟨nd,rfl⟩⟩;refine ⟨_,rfl, ?_⟩)|(go_at_call 123;(with_reducible refine (r10_unit.calls a0_1 true _ A4.out).mono ?_);rintro e w' ⟨rfl,⟨nd,rfl⟩⟩)|(go_at_call 123;(with_reducible refine (r10_unit.calls a0_2 t4 _ A6.out).mono ?_);rintro e w' ⟨rfl,⟨nd,rfl⟩⟩))
 go_ret
 exact ⟨by first|rfl|(simp [errW_none,errW_some]<;>rfl)|(simp [*,errW_none,errW_some]<;>rfl),zl1_ HB GE1⟩
def r10_MayName.f (a0:ByteArray):Option (Bool):=if a0.toList=([]:List UInt8) then (some false) else (some (decide ((a0.size:Int)≤24)))
set_option maxHeartbeats 8000000 in
set_option maxRecDepth 100000 in
theorem r10_MayName.calls (a0:ByteArray) (r:Bool) (w:World) (h:r10_MayName.f a0=some r):
  Calls Try.prog 105 #[.string a0] w fun e w'=>e= .returned (.bool r)∧Drawn0 w w':=by
 have H:(if a0.toList=([]:List UInt8) then (some false) else (some (decide ((a0.size:Int)≤24))))=some r:=h
 clear h
 by_cases c2:a0.toList=([]:List UInt8)
 ·rw [if_pos c2] at H
  have c2b0:(a0.toList==([]:List UInt8))=true:=beq_iff_eq.mpr c2
  have c2b1:(a0.toList !=([]:List UInt8))=false:=bne_eq_false_iff_eq.mpr c2
  clear c2
  obtain rfl:=Option.some.inj H
  go_enter Try.func105,Try.ntmps105
  go_wp2
  go_ret
  exact ⟨by first|rfl|(simp;done)|(simp [*];done),by repeat (first|exact Drawn0.refl _|apply Drawn0.step)⟩
 rw [if_neg c2] at H
 have c2b0:(a0.toList==([]:List UInt8))=false:=beq_eq_false_iff_ne.mpr c2
 have c2b1:(a0.toList !=([]:List UInt8))=true:=bne_iff_ne.mpr c2
 obtain rfl:=Option.some.inj H
 go_enter Try.func105,Try.ntmps105
 go_wp2
 go_ret
 exact ⟨by first|rfl|(simp;done)|(simp [*];done),by repeat (first|exact Drawn0.refl _|apply Drawn0.step)⟩

def r10_copied.f (l0:List (S31)):Option ((List (S31))):=(some (([]:List (S31)):List (S31))).bind fun y1=>(if y1.length+l0.length<1256584717458 then (some (y1++l0)) else (none))
set_option maxHeartbeats 8000000 in
set_option maxRecDepth 100000 in
theorem r10_copied.calls (A0:Option Addr) (c0:Nat) (l0:List (S31)) (r:List (S31)) (w:World) (hr0:Kd.C k31 w A0 l0.length l0) (hc0:l0.length≤c0) (h:r10_copied.f l0=some r):
  Calls Try.prog 124 #[.slice A0 l0.length c0] w fun e w'=> ∃v0_:Value,e= .returned (v0_)∧Kd.R k31 31 w' w.heap.size (fun _=>True) v0_ r∧Below w.heap.size w w':=by
 have HR0:=Aside0.mk hr0
 have HC0:=Aside0.mk hc0
 clear hr0 hc0
 have HB:=am_ (Below.refl w.heap.size w)
 have H:((some (([]:List (S31)):List (S31))).bind fun y1=>(if y1.length+l0.length<1256584717458 then (some (y1++l0)) else (none)))=some r:=h
 clear h
 obtain ⟨y1,hy1⟩: ∃y_:List (S31),y_=(([]:List (S31))):=⟨_,rfl⟩
 replace H:(if y1.length+l0.length<1256584717458 then (some (y1++l0)) else (none))=some r:=by first|(rw [hy1];with_reducible exact H)|(have H2_:=(Option.bind_some _ _).symm.trans H;rw [hy1];with_reducible exact H2_)|(have H2_:=(Option.bind_some _ _).symm.trans H;with_reducible exact H2_)|with_reducible exact H|(rw [hy1];exact H)|exact H
 have Ny1:=Aside0.mk hy1
 clear hy1
 by_cases c2:y1.length+l0.length<1256584717458
 rotate_left
 ·rw [if_neg c2] at H
  exact absurd H (by simp)

 rw [if_pos c2] at H
 have LMc2:=Aside0.mk c2
 clear c2
 obtain ⟨y4,hy4⟩: ∃y_:List (S31),y_=(y1++l0):=⟨_,rfl⟩
 replace H:(some y4)=some r:=by first|(rw [hy4];with_reducible exact H)|(have H2_:=(Option.bind_some _ _).symm.trans H;rw [hy4];with_reducible exact H2_)|(have H2_:=(Option.bind_some _ _).symm.trans H;with_reducible exact H2_)|with_reducible exact H|(rw [hy4];exact H)|exact H
 have Ny4:=Aside0.mk hy4
 clear hy4
 obtain rfl:=Option.some.inj H
 go_enter Try.func124,Try.ntmps124
 go_wp2_with (first|((with_reducible refine gate_dst (N:=3) rfl ?_);refine Kd.R_lit k31 _ 31 ?hg (N:=3) ?hd (xs:=([]:List (S31))) (inner:=[]) (ok:=fun _=>True) (okp:=fun _=>True) ?hr ?hp (fun _ hk=>hk) trivial (Below.refl _ _) (Nat.le_refl _) (by simp) ?_;(case hd=>rfl);(case hg=>rfl);(case hr=>first|(go_simp;done)|(go_simp;rfl));(case hp=>exact (Reps.none _ _));intro v2 w3 ho4 hb hg_ hnew_;clear hg_ hnew_;(first|rw [←Ny1.out] at ho4|(simp only [Int.reduceToNat] at ho4;rw [←Ny1.out] at ho4));have HO3:=am_ (Kd.R_lower ho4 (below_size (zl0_ HB)));replace HB:=am_ (below_step (zl0_ HB) hb);clear hb ho4)|((with_reducible refine gate_builtin (b:= .append) (xs:=#[.tmp 3, .tmp 4]) rfl ?_);at_builtin;refine Kd.R_append_rows k31 (w0:=w) w.heap.size rfl (.tmp 3) (.tmp 4) 24 31 (.agg #[(.string ⟨#[]⟩),(.string ⟨#[]⟩),(.int .i64 0),(.int .i64 0),(.int .i64 0),(.int .i64 0),(.int .i64 0),(.int .i64 0),(.int .i64 0),(.int .i64 0),(.int .i64 0),(.int .i64 0)]) 112 rfl Try.underlying24 info31 rfl (by decide) (by omega) v2 y1 l0 _ _ _ (fun _=>True) (fun _=>False) rfl rfl ?aO ?aR (fun _ _ h=>h) (fun _ h=>h.elim) ?aF ?aB ?aS ?aL ?_;(case aR=>repeat (first|exact (Kd.C_below HR0.out HB.out)|(with_reducible refine Kd.C_alloc ?_ _)|(with_reducible refine Kd.C_drewN ?_ _)|(with_reducible refine Kd.C_drew ?_)));(case aB=>exact (zl0_ HB));(case aF=>exact (fun _ _=>trivial));(case aO=>exact (zr_ HO3));(case aS=>exact (below_size (zl0_ HB)));(case aL=>have:=LMc2.out;omega);intro v5 w5 ho hb hg hat;rw [←Ny4.out] at ho;have n0_:=am_ (hb);have n1_:=am_ (ho);clear HB;clear HO3;have HB:=n0_;have HO6:=n1_;clear n0_ n1_;clear ho hb hg hat))
 go_ret
 exact ⟨_,by first|rfl|(simp [errW_none,errW_some]<;>rfl)|(simp [*,errW_none,errW_some]<;>rfl),by (with_reducible repeat (first|apply Kd.R_alloc|apply Kd.R_drewN|apply Kd.R_drew));exact HO6.out,zl0_ HB⟩
mutual
def r10_Create.j0:Nat→List (S31)→ByteArray→ByteArray→Bool→Int→Int→Int→Option ((List (S31))×Int)
 |0,_,_,_,_,_,_,_=>none
 |k+1,x0,x1,x2,x11,x2000,x2001,x2002=>if x11=true then ((r10_no.f 1).bind fun bt5=>(some (bt5.1,bt5.2))) else ((r10_Find.f k x0 x1).bind fun t9=>(if t9≥0 then ((r10_no.f 3).bind fun bt10=>(some (bt10.1,bt10.2))) else (if x2.toList=([]:List UInt8) then (r10_Create.j1 k x0 x1 x2 false x2000 x2001 x2002) else ((r10_Find.f k x0 x2).bind fun t14=>(r10_Create.j1 k x0 x1 x2 (decide (t14<0)) x2000 x2001 x2002)))))
def r10_Create.j1:Nat→List (S31)→ByteArray→ByteArray→Bool→Int→Int→Int→Option ((List (S31))×Int)
 |0,_,_,_,_,_,_,_=>none
 |k+1,x0,x1,x2,x27,x2000,x2001,x2002=>if x27=true then ((r10_no.f 2).bind fun bt15=>(some (bt15.1,bt15.2))) else (if (x0.length:Int)≥120 then ((r10_no.f 4).bind fun bt19=>(some (bt19.1,bt19.2))) else (r10_Create.l0 k x0 x1 x2 0 x2000 x2001 x2002))
def r10_Create.l0:Nat→List (S31)→ByteArray→ByteArray→Int→Int→Int→Int→Option ((List (S31))×Int)
 |0,_,_,_,_,_,_,_=>none
 |k+1,x0,x1,x2,x9,x2000,x2001,x2002=>if x9<(x0.length:Int) then (if 0≤x9 then (if (Op.bytesLess (((rd_T31 x0 x9).f0).toList) x1.toList)=true then (r10_Create.l0 k x0 x1 x2 (wrap64 (x9+1)) x2000 x2001 x2002) else (if x9≤(x0.length:Int) then ((r10_copied.f (x0.take (x9:Int).toNat)).bind fun t28=>(if t28.length<1256584717458 then ((some (t28++ [(⟨x1,x2,(⟨x2000,x2001,x2002⟩:S27),(⟨0,0,0⟩:S27),(⟨0,0,0⟩:S27),1⟩:S31)]:List (S31))).bind fun y31=>((some (x0.drop (x9:Int).toNat:List (S31))).bind fun y34=>(if y31.length+y34.length<1256584717458 then (some ((y31++y34),0)) else (none)))) else (none))) else (none))) else (none)) else (if 0≤x9 then (if x9≤(x0.length:Int) then ((r10_copied.f (x0.take (x9:Int).toNat)).bind fun t45=>(if t45.length<1256584717458 then ((some (t45++ [(⟨x1,x2,(⟨x2000,x2001,x2002⟩:S27),(⟨0,0,0⟩:S27),(⟨0,0,0⟩:S27),1⟩:S31)]:List (S31))).bind fun y48=>((some (x0.drop (x9:Int).toNat:List (S31))).bind fun y51=>(if y48.length+y51.length<1256584717458 then (some ((y48++y51),0)) else (none)))) else (none))) else (none)) else (none))
end
def r10_Create.f (k:Nat) (l0:List (S31)) (a1:ByteArray) (a2:ByteArray) (a3_0:Int) (a3_1:Int) (a3_2:Int):Option ((List (S31))×Int):=(r10_MayName.f a1).bind fun t3=>(if t3=true then ((r10_MayVec.f a3_0 a3_1 a3_2).bind fun t4=>(r10_Create.j0 k l0 a1 a2 (!t4) a3_0 a3_1 a3_2)) else (r10_Create.j0 k l0 a1 a2 true a3_0 a3_1 a3_2))
theorem r10_Create.mono_l: ∀k,(∀y0 y1 y2 y3 y4 y5 y6,LeO (r10_Create.j0 k y0 y1 y2 y3 y4 y5 y6) (r10_Create.j0 (k+1) y0 y1 y2 y3 y4 y5 y6))∧(∀y0 y1 y2 y3 y4 y5 y6,LeO (r10_Create.j1 k y0 y1 y2 y3 y4 y5 y6) (r10_Create.j1 (k+1) y0 y1 y2 y3 y4 y5 y6))∧(∀y0 y1 y2 y3 y4 y5 y6,LeO (r10_Create.l0 k y0 y1 y2 y3 y4 y5 y6) (r10_Create.l0 (k+1) y0 y1 y2 y3 y4 y5 y6))
 |0=>⟨fun _ _ _ _ _ _ _ r h=>by simp [r10_Create.j0] at h,fun _ _ _ _ _ _ _ r h=>by simp [r10_Create.j1] at h,fun _ _ _ _ _ _ _ r h=>by simp [r10_Create.l0] at h⟩
 |k+1=>by
  obtain ⟨ih0,ih1,ih2⟩:=r10_Create.mono_l k
  refine ⟨?_, ?_, ?_⟩
  ·intro y0 y1 y2 y3 y4 y5 y6
   unfold r10_Create.j0
   repeat' first
   |(with_reducible exact ih0 _ _ _ _ _ _ _)
   |(with_reducible exact ih1 _ _ _ _ _ _ _)
   |(with_reducible exact ih2 _ _ _ _ _ _ _)
   |(with_reducible exact r10_Find.mono _ _ _)
   |(with_reducible exact LeO.refl _)
   |(with_reducible exact LeO.none _)
   |(with_reducible refine LeO.ite ?_ ?_)
   |(with_reducible refine LeO.bind ?_ (fun _=> ?_))
   |exact ih0 _ _ _ _ _ _ _
   |exact ih1 _ _ _ _ _ _ _
   |exact ih2 _ _ _ _ _ _ _
   |exact r10_Find.mono _ _ _
   |exact LeO.none _
   |refine LeO.ite ?_ ?_
   |refine LeO.bind ?_ (fun _=> ?_)
  ·intro y0 y1 y2 y3 y4 y5 y6
   unfold r10_Create.j1
   repeat' first
   |(with_reducible exact ih0 _ _ _ _ _ _ _)
   |(with_reducible exact ih1 _ _ _ _ _ _ _)
   |(with_reducible exact ih2 _ _ _ _ _ _ _)
   |(with_reducible exact r10_Find.mono _ _ _)
   |(with_reducible exact LeO.refl _)
   |(with_reducible exact LeO.none _)
   |(with_reducible refine LeO.ite ?_ ?_)
   |(with_reducible refine LeO.bind ?_ (fun _=> ?_))
   |exact ih0 _ _ _ _ _ _ _
   |exact ih1 _ _ _ _ _ _ _
   |exact ih2 _ _ _ _ _ _ _
   |exact r10_Find.mono _ _ _
   |exact LeO.none _
   |refine LeO.ite ?_ ?_
   |refine LeO.bind ?_ (fun _=> ?_)
  intro y0 y1 y2 y3 y4 y5 y6
  unfold r10_Create.l0
  repeat' first
  |(with_reducible exact ih0 _ _ _ _ _ _ _)
  |(with_reducible exact ih1 _ _ _ _ _ _ _)
  |(with_reducible exact ih2 _ _ _ _ _ _ _)
  |(with_reducible exact r10_Find.mono _ _ _)
  |(with_reducible exact LeO.refl _)
  |(with_reducible exact LeO.none _)
  |(with_reducible refine LeO.ite ?_ ?_)
  |(with_reducible refine LeO.bind ?_ (fun _=> ?_))
  |exact ih0 _ _ _ _ _ _ _
  |exact ih1 _ _ _ _ _ _ _
  |exact ih2 _ _ _ _ _ _ _
  |exact r10_Find.mono _ _ _
  |exact LeO.none _
  |refine LeO.ite ?_ ?_
  |refine LeO.bind ?_ (fun _=> ?_)
theorem r10_Create.mono: ∀a0 a1 a2 a3 a4 a5 k,LeO (r10_Create.f k a0 a1 a2 a3 a4 a5) (r10_Create.f (k+1) a0 a1 a2 a3 a4 a5):=by
 intro a0 a1 a2 a3 a4 a5 k
 obtain ⟨ih0,ih1,ih2⟩:=r10_Create.mono_l k
 unfold r10_Create.f
 repeat' first
  |(with_reducible exact ih0 _ _ _ _ _ _ _)
  |(with_reducible exact ih1 _ _ _ _ _ _ _)
  |(with_reducible exact ih2 _ _ _ _ _ _ _)
  |(with_reducible exact r10_Find.mono _ _ _)
  |(with_reducible exact LeO.refl _)
  |(with_reducible exact LeO.none _)
  |(with_reducible refine LeO.ite ?_ ?_)
  |(with_reducible refine LeO.bind ?_ (fun _=> ?_))
  |exact ih0 _ _ _ _ _ _ _
  |exact ih1 _ _ _ _ _ _ _
  |exact ih2 _ _ _ _ _ _ _
  |exact r10_Find.mono _ _ _
  |exact LeO.none _
  |refine LeO.ite ?_ ?_
  |refine LeO.bind ?_ (fun _=> ?_)
set_option maxHeartbeats 8000000 in
set_option maxRecDepth 100000 in
theorem r10_Create.calls (k:Nat) (A0:Option Addr) (c0:Nat) (l0:List (S31)) (a1:ByteArray) (a2:ByteArray) (a3_0:Int) (a3_1:Int) (a3_2:Int) (r1:List (S31)) (r2:Int) (w:World) (hr0:Kd.C k31 w A0 l0.length l0) (hc0:l0.length≤c0) (h:r10_Create.f k l0 a1 a2 a3_0 a3_1 a3_2=some (r1,r2)):
  Calls Try.prog 83 #[.slice A0 l0.length c0, .string a1, .string a2, .agg #[.int .i64 a3_0, .int .i64 a3_1, .int .i64 a3_2]] w fun e w'=> ∃v0_:Value,e= .returned (.agg #[v0_, .int .i64 r2])∧Kd.R k31 31 w' w.heap.size (fun _=>True) v0_ r1∧Below w.heap.size w w':=by
 have HR0:=Aside0.mk hr0
 have HC0:=Aside0.mk hc0
 clear hr0 hc0
 have HB:=am_ (Below.refl w.heap.size w)
 have H:((r10_MayName.f a1).bind fun t3=>(if t3=true then ((r10_MayVec.f a3_0 a3_1 a3_2).bind fun t4=>(r10_Create.j0 k l0 a1 a2 (!t4) a3_0 a3_1 a3_2)) else (r10_Create.j0 k l0 a1 a2 true a3_0 a3_1 a3_2)))=some (r1,r2):=h
 clear h
 have HC5:=Aside0.mk H
 clear H
 go_enter Try.func83,Try.ntmps83
 go_upto_region 1 with (first|((with_reducible refine gate_dst (N:=7) rfl ?_);refine bx_ (N:=7) (cs:=#[.int .i64 a3_0, .int .i64 a3_1, .int .i64 a3_2]) (t:=27) ?_;intro gb1 hg w6 hbox hb;have n0_:=am_ (below_step (zl0_ HB) hb);have n1_:=am_ (hbox);have n2_:=am_ ((zg0_ HB hg:w.heap.size≤gb1));have n3_:=am_ ((zg0_ HB hg:w.heap.size≤gb1));clear HB;have HB:=n0_;have BK1:=n1_;have GE1:=n3_;clear n0_ n1_ n2_ n3_;clear hb hbox hg)|((with_reducible refine gate_dst (N:=8) rfl ?_);refine bx_ (N:=8) (cs:=#[.slice none 0 0, .int .i64 0]) (t:=67) ?_;intro gb2 hg w7 hbox hb;have n0_:=am_ (blk_below (zb_ BK1) hb);have n1_:=am_ (below_step (zl1_ HB GE1) hb);have n2_:=am_ (hbox);have n3_:=am_ ((zg1_ HB GE1 hg:w.heap.size≤gb2));have n4_:=am_ ((zg1_ HB GE1 hg:w.heap.size≤gb2));have n5_:=am_ ((zn_ BK1 hg:gb1≠gb2));have n6_:=am_ ((zm_ BK1 hg:gb2≠gb1));clear BK1;clear HB;have BK1:=n0_;have HB:=n1_;have BK2:=n2_;have GE2:=n4_;clear n0_ n1_ n2_ n3_ n4_ n5_ n6_;clear hb hbox hg))
 (try simp only [Act.put,List.setIfInBounds_toArray,List.set_cons_zero,List.set_cons_succ])
 go_cut [11] (fun v11 wc=> ∃(kq:Nat) (x11_4:Bool),v11= .bool x11_4∧Aside0 (r10_Create.j0 kq l0 a1 a2 x11_4 a3_0 a3_1 a3_2=some (r1,r2))∧Aside0 (kq≤k)∧Aside0 (wc.heap[gb1]?=some (.cells #[.int .i64 a3_0, .int .i64 a3_1, .int .i64 a3_2] 27 (0,0)))∧Aside0 (wc.heap[gb2]?=some (.cells #[(.slice none 0 0), .int .i64 0] 67 (0,0)))∧Aside0 (Below w.heap.size w wc))
 case first=>
  have H:=HC5.out
  clear HC5
  replace H:=Option.bind_eq_some_iff.mp H
  obtain ⟨t3,A80,H⟩:=H
  try dsimp only at H
  have A8:=Aside0.mk A80
  clear A80
  by_cases c9:t3=true
  rotate_left
  ·replace c9:=Bool.eq_false_iff.mpr c9
   subst c9
   have H1:(r10_Create.j0 k l0 a1 a2 true a3_0 a3_1 a3_2)=some (r1,r2):=by rw [if_neg (show¬(false=true) by decide)] at H;exact H
   clear H
   have H:=H1
   clear H1
   have H':=Aside0.mk H
   clear H
   go_wp2_with (first|((with_reducible refine gate_callee (f:=105) rfl ?_);refine gl_ (some 13) Try.func105 #[.string a1] ?_;(with_reducible refine (r10_MayName.calls a1 false _ A8.out).mono ?_);rintro e w' ⟨rfl,⟨nd,rfl⟩⟩;refine ⟨_,rfl, ?_⟩))
   go_meet
   case rel=>exact ⟨_,(true),(by first|rfl|(simp;done)|(simp [*];done)),H',⟨by first|omega|exact Nat.le_refl _⟩,⟨by refine zk_ ?_;exact BK1.out⟩,⟨by refine zk_ ?_;exact BK2.out⟩,⟨zl2_ HB GE1 GE2⟩⟩
  subst c9
  have H1:((r10_MayVec.f a3_0 a3_1 a3_2).bind fun t4=>(r10_Create.j0 k l0 a1 a2 (!t4) a3_0 a3_1 a3_2))=some (r1,r2):=by rw [if_pos rfl] at H;exact H
  clear H
  have H:=H1
  clear H1
  replace H:=Option.bind_eq_some_iff.mp H
  obtain ⟨t4,A100,H⟩:=H
  try dsimp only at H
  have A10:=Aside0.mk A100
  clear A100
  have H':=Aside0.mk H
  clear H
  go_wp2_with (first|((with_reducible refine gate_callee (f:=105) rfl ?_);refine gl_ (some 13) Try.func105 #[.string a1] ?_;(with_reducible refine (r10_MayName.calls a1 true _ A8.out).mono ?_);rintro e w' ⟨rfl,⟨nd,rfl⟩⟩;refine ⟨_,rfl, ?_⟩;obtain ⟨hcz12_0,hcz12_1,hcz12_2⟩:=x3_ BK1)|(go_at_call 65;(with_reducible refine (r10_MayVec.calls a3_0 a3_1 a3_2 t4 _ A10.out).mono ?_);rintro e w13 ⟨rfl,hb⟩;replace BK1:=am_ (blk_below (zb_ BK1) hb);replace BK2:=am_ (blk_below (zb_ BK2) hb);replace HB:=am_ (below_step (zl2_ HB GE1 GE2) hb);(try clear hb);(try clear hb2);(try clear hk);(try clear hi)))
  go_meet
  case rel=>exact ⟨_,(!t4),(by first|rfl|(simp;done)|(simp [*];done)),H',⟨by first|omega|exact Nat.le_refl _⟩,⟨by refine zk_ ?_;exact BK1.out⟩,⟨by refine zk_ ?_;exact BK2.out⟩,⟨zl2_ HB GE1 GE2⟩⟩
 case rest=>
  clear HC5
  try clear c1
  try clear p2
  try clear c8
  try clear c9
  try clear c10
  try clear c11
  try clear hcz12_0
  try clear hcz12_1
  try clear hcz12_2
  obtain ⟨kq,x11_4,rfl,HA,HJ4,BK1,BK2,HB⟩:=hcut
  cases kq with
  |zero=>exact absurd HA.out (by simp [r10_Create.j0])
  |succ kj4=>
   have H:=HA.out
   clear HA
   simp only [r10_Create.j0] at H
   by_cases c14:x11_4=true
   ·subst c14
    have H1:((r10_no.f 1).bind fun bt5=>(some (bt5.1,bt5.2)))=some (r1,r2):=by rw [if_pos rfl] at H;exact H
    clear H
    have H:=H1
    clear H1
    replace H:=Option.bind_eq_some_iff.mp H
    obtain ⟨⟨t5,t8⟩,A150,H⟩:=H
    try dsimp only at H
    have A15:=Aside0.mk A150
    clear A150
    simp only [Option.some.injEq,Prod.mk.injEq] at H
    obtain ⟨rfl,rfl⟩:=H
    go_wp2_with (first|((with_reducible refine gate_callee (f:=113) rfl ?_);refine gl_ (some 20) Try.func113 #[.int .i64 1] ?_;(with_reducible refine (r10_no.calls 1 t5 t8 _ A15.out).mono ?_);rintro e w16 ⟨v6,rfl,ho0,hb⟩;refine ⟨_,rfl, ?_⟩;have HO7:=am_ (Kd.R_lower ho0 (below_size (zl2_ HB GE1 GE2)));replace BK1:=am_ (blk_below (zb_ BK1) hb);replace BK2:=am_ (blk_below (zb_ BK2) hb);replace HB:=am_ (below_step (zl2_ HB GE1 GE2) hb);(try clear hb);(try clear hb2);(try clear hk);(try clear hi);(try clear ho0);obtain ⟨Ao17,co17,eo17⟩:=Kd.R_slice HO7.out;subst eo17;obtain ⟨hcz19_0,hcz19_1⟩:=x2_ BK2;have hfz19_0:=blk_frozen BK2.out 0;have hfz19_1:=blk_frozen BK2.out 1))
    refine bodyPost_ret (results_cell_row rfl _ _ gb2 67 #[.slice Ao17 t5.length co17, .int .i64 t8] (0,0) _ rfl (zw_ BK2) Try.underlying67 rfl (by kernel_rfl)) rfl ?_
    exact ⟨_,by first|rfl|(simp [errW_none,errW_some]<;>rfl)|(simp [*,errW_none,errW_some]<;>rfl),zy_ HO7 BK2,zl2_ HB GE1 GE2⟩
   replace c14:=Bool.eq_false_iff.mpr c14
   subst c14
   have H1:((r10_Find.f kj4 l0 a1).bind fun t9=>(if t9≥0 then ((r10_no.f 3).bind fun bt10=>(some (bt10.1,bt10.2))) else (if a2.toList=([]:List UInt8) then (r10_Create.j1 kj4 l0 a1 a2 false a3_0 a3_1 a3_2) else ((r10_Find.f kj4 l0 a2).bind fun t14=>(r10_Create.j1 kj4 l0 a1 a2 (decide (t14<0)) a3_0 a3_1 a3_2)))))=some (r1,r2):=by rw [if_neg (show¬(false=true) by decide)] at H;exact H
   clear H
   have H:=H1
   clear H1
   replace H:=Option.bind_eq_some_iff.mp H
   obtain ⟨t9,A200,H⟩:=H
   try dsimp only at H
   have A20:=Aside0.mk A200
   clear A200
   by_cases c21:t9≥0
   ·rw [if_pos c21] at H
    have c21b0:decide (0≤t9)=true:=decide_eq_true c21
    clear c21
    replace H:=Option.bind_eq_some_iff.mp H
    obtain ⟨⟨t10,t13⟩,A220,H⟩:=H
    try dsimp only at H
    have A22:=Aside0.mk A220
    clear A220
    simp only [Option.some.injEq,Prod.mk.injEq] at H
    obtain ⟨rfl,rfl⟩:=H
    go_wp2_with (first|((with_reducible refine gate_callee (f:=50) rfl ?_);refine gl_ (some 24) Try.func50 #[.slice A0 l0.length c0, .string a1] ?_;(with_reducible refine (r10_Find.calls kj4 _ _ l0 a1 t9 _ ?side1 ?side2 A20.out).mono ?_);(case side1=>exact zc_ (Kd.C_below HR0.out HB.out));(case side2=>exact HC0.out);rintro e w' ⟨rfl,⟨nd,rfl⟩⟩;refine ⟨_,rfl, ?_⟩;(try (rw [drewN_self wc];generalize hq_:World.drewN wc _=wc;have n0_:Aside0 (wc.heap[gb1]?=some (.cells #[.int .i64 a3_0, .int .i64 a3_1, .int .i64 a3_2] 27 (0,0))):=⟨by rw [←hq_];exact (zb_ BK1)⟩;have n1_:Aside0 (wc.heap[gb2]?=some (.cells #[.slice none 0 0, .int .i64 0] 67 (0,0))):=⟨by rw [←hq_];exact (zb_ BK2)⟩;have n2_:Aside0 (Below w.heap.size w wc):=⟨by rw [←hq_];exact (zl2_ HB GE1 GE2)⟩;clear BK1 BK2 HB hq_;have BK1:=n0_;have BK2:=n1_;have HB:=n2_;clear n0_ n1_ n2_)))|((with_reducible refine gate_callee (f:=113) rfl ?_);refine gl_ (some 26) Try.func113 #[.int .i64 3] ?_;(with_reducible refine (r10_no.calls 3 t10 t13 _ A22.out).mono ?_);rintro e w23 ⟨v11,rfl,ho0,hb⟩;refine ⟨_,rfl, ?_⟩;have HO12:=am_ (Kd.R_lower ho0 (below_size (zl2_ HB GE1 GE2)));replace BK1:=am_ (blk_below (zb_ BK1) hb);replace BK2:=am_ (blk_below (zb_ BK2) hb);replace HB:=am_ (below_step (zl2_ HB GE1 GE2) hb);(try clear hb);(try clear hb2);(try clear hk);(try clear hi);(try clear ho0);obtain ⟨Ao24,co24,eo24⟩:=Kd.R_slice HO12.out;subst eo24;obtain ⟨hcz26_0,hcz26_1⟩:=x2_ BK2;have hfz26_0:=blk_frozen BK2.out 0;have hfz26_1:=blk_frozen BK2.out 1))
    refine bodyPost_ret (results_cell_row rfl _ _ gb2 67 #[.slice Ao24 t10.length co24, .int .i64 t13] (0,0) _ rfl (zw_ BK2) Try.underlying67 rfl (by kernel_rfl)) rfl ?_
    exact ⟨_,by first|rfl|(simp [errW_none,errW_some]<;>rfl)|(simp [*,errW_none,errW_some]<;>rfl),zy_ HO12 BK2,zl2_ HB GE1 GE2⟩
   rw [if_neg c21] at H
   have c21b0:decide (0≤t9)=false:=decide_eq_false c21
   clear c21
   have HC27:=Aside0.mk H
   clear H
   go_upto_region 5 with (first|((with_reducible refine gate_callee (f:=50) rfl ?_);refine gl_ (some 24) Try.func50 #[.slice A0 l0.length c0, .string a1] ?_;(with_reducible refine (r10_Find.calls kj4 _ _ l0 a1 t9 _ ?side1 ?side2 A20.out).mono ?_);(case side1=>exact zc_ (Kd.C_below HR0.out HB.out));(case side2=>exact HC0.out);rintro e w' ⟨rfl,⟨nd,rfl⟩⟩;refine ⟨_,rfl, ?_⟩))
   (try simp only [Act.put,List.setIfInBounds_toArray,List.set_cons_zero,List.set_cons_succ])
   go_cut [27] (fun v27 wc=> ∃(kq:Nat) (x27_26:Bool),v27= .bool x27_26∧Aside0 (r10_Create.j1 kq l0 a1 a2 x27_26 a3_0 a3_1 a3_2=some (r1,r2))∧Aside0 (kq≤kj4)∧Aside0 (wc.heap[gb1]?=some (.cells #[.int .i64 a3_0, .int .i64 a3_1, .int .i64 a3_2] 27 (0,0)))∧Aside0 (wc.heap[gb2]?=some (.cells #[(.slice none 0 0), .int .i64 0] 67 (0,0)))∧Aside0 (Below w.heap.size w wc))
   case first=>
    have H:=HC27.out
    clear HC27
    by_cases c28:a2.toList=([]:List UInt8)
    ·rw [if_pos c28] at H
     have c28b0:(a2.toList==([]:List UInt8))=true:=beq_iff_eq.mpr c28
     clear c28
     (first|rw [c28b0]|(simp only [i64_w,i32_w];rw [c28b0])|skip)
     have H':=Aside0.mk H
     clear H
     go_wp2
     go_meet
     case rel=>exact ⟨_,(false),(by first|rfl|(simp;done)|(simp [*];done)),H',⟨by have:=HJ4.out;first|omega|exact Nat.le_refl _⟩,⟨by refine zk_ ?_;exact BK1.out⟩,⟨by refine zk_ ?_;exact BK2.out⟩,⟨zl2_ HB GE1 GE2⟩⟩
    rw [if_neg c28] at H
    have c28b0:(a2.toList==([]:List UInt8))=false:=beq_eq_false_iff_ne.mpr c28
    (first|rw [c28b0]|(simp only [i64_w,i32_w];rw [c28b0])|skip)
    replace H:=Option.bind_eq_some_iff.mp H
    obtain ⟨t14,A290,H⟩:=H
    try dsimp only at H
    have A29:=Aside0.mk A290
    clear A290
    have H':=Aside0.mk H
    clear H
    go_wp2_with (first|(go_at_call 50;(with_reducible refine (r10_Find.calls kj4 _ _ l0 a2 t14 _ ?side1 ?side2 A29.out).mono ?_);(case side1=>exact zc_ (Kd.C_below HR0.out HB.out));(case side2=>exact HC0.out);rintro e w' ⟨rfl,⟨nd,rfl⟩⟩))
    go_meet
    case rel=>exact ⟨_,(decide (t14<0)),(by first|rfl|(simp;done)|(simp [*];done)),H',⟨by have:=HJ4.out;first|omega|exact Nat.le_refl _⟩,⟨by refine zk_ ?_;exact BK1.out⟩,⟨by refine zk_ ?_;exact BK2.out⟩,⟨zl2_ HB GE1 GE2⟩⟩
   case rest=>
    clear HC27
    try clear c1
    try clear c2
    try clear p2
    try clear c5
    try clear c8
    try clear c9
    try clear c10
    try clear c11
    try clear c14
    try clear c18
    try clear c21
    try clear c21b0
    try clear c25
    try clear c28
    try clear c28b0
    try clear hcz12_0
    try clear hcz12_1
    try clear hcz12_2
    try clear hcz19_0
    try clear hcz19_1
    try clear hcz26_0
    try clear hcz26_1
    try clear hfz19_0
    try clear hfz19_1
    try clear hfz26_0
    try clear hfz26_1
    try clear p2
    obtain ⟨kq,x27_26,rfl,HA,HJ26,BK1,BK2,HB⟩:=hcut
    cases kq with
    |zero=>exact absurd HA.out (by simp [r10_Create.j1])
    |succ kj26=>
     have H:=HA.out
     clear HA
     simp only [r10_Create.j1] at H
     by_cases c30:x27_26=true
     ·subst c30
      have H1:((r10_no.f 2).bind fun bt15=>(some (bt15.1,bt15.2)))=some (r1,r2):=by rw [if_pos rfl] at H;exact H
      clear H
      have H:=H1
      clear H1
      replace H:=Option.bind_eq_some_iff.mp H
      obtain ⟨⟨t15,t18⟩,A310,H⟩:=H
      try dsimp only at H
      have A31:=Aside0.mk A310
      clear A310
      simp only [Option.some.injEq,Prod.mk.injEq] at H
      obtain ⟨rfl,rfl⟩:=H
      go_wp2_with (first|((with_reducible refine gate_callee (f:=113) rfl ?_);refine gl_ (some 36) Try.func113 #[.int .i64 2] ?_;(with_reducible refine (r10_no.calls 2 t15 t18 _ A31.out).mono ?_);rintro e w32 ⟨v16,rfl,ho0,hb⟩;refine ⟨_,rfl, ?_⟩;have HO17:=am_ (Kd.R_lower ho0 (below_size (zl2_ HB GE1 GE2)));replace BK1:=am_ (blk_below (zb_ BK1) hb);replace BK2:=am_ (blk_below (zb_ BK2) hb);replace HB:=am_ (below_step (zl2_ HB GE1 GE2) hb);(try clear hb);(try clear hb2);(try clear hk);(try clear hi);(try clear ho0);obtain ⟨Ao33,co33,eo33⟩:=Kd.R_slice HO17.out;subst eo33;obtain ⟨hcz35_0,hcz35_1⟩:=x2_ BK2;have hfz35_0:=blk_frozen BK2.out 0;have hfz35_1:=blk_frozen BK2.out 1))
      refine bodyPost_ret (results_cell_row rfl _ _ gb2 67 #[.slice Ao33 t15.length co33, .int .i64 t18] (0,0) _ rfl (zw_ BK2) Try.underlying67 rfl (by kernel_rfl)) rfl ?_
      exact ⟨_,by first|rfl|(simp [errW_none,errW_some]<;>rfl)|(simp [*,errW_none,errW_some]<;>rfl),zy_ HO17 BK2,zl2_ HB GE1 GE2⟩
     replace c30:=Bool.eq_false_iff.mpr c30
     subst c30
     have H1:(if (l0.length:Int)≥120 then ((r10_no.f 4).bind fun bt19=>(some (bt19.1,bt19.2))) else (r10_Create.l0 kj26 l0 a1 a2 0 a3_0 a3_1 a3_2))=some (r1,r2):=by rw [if_neg (show¬(false=true) by decide)] at H;exact H
     clear H
     have H:=H1
     clear H1
     by_cases c36:(l0.length:Int)≥120
     ·rw [if_pos c36] at H
      have c36b0:decide (120≤(l0.length:Int))=true:=decide_eq_true c36
      clear c36
      replace H:=Option.bind_eq_some_iff.mp H
      obtain ⟨⟨t19,t22⟩,A370,H⟩:=H
      try dsimp only at H
      have A37:=Aside0.mk A370
      clear A370
      simp only [Option.some.injEq,Prod.mk.injEq] at H
      obtain ⟨rfl,rfl⟩:=H
      go_wp2_with (first|((with_reducible refine gate_callee (f:=113) rfl ?_);refine gl_ (some 41) Try.func113 #[.int .i64 4] ?_;(with_reducible refine (r10_no.calls 4 t19 t22 _ A37.out).mono ?_);rintro e w38 ⟨v20,rfl,ho0,hb⟩;refine ⟨_,rfl, ?_⟩;have HO21:=am_ (Kd.R_lower ho0 (below_size (zl2_ HB GE1 GE2)));replace BK1:=am_ (blk_below (zb_ BK1) hb);replace BK2:=am_ (blk_below (zb_ BK2) hb);replace HB:=am_ (below_step (zl2_ HB GE1 GE2) hb);(try clear hb);(try clear hb2);(try clear hk);(try clear hi);(try clear ho0);obtain ⟨Ao39,co39,eo39⟩:=Kd.R_slice HO21.out;subst eo39;obtain ⟨hcz41_0,hcz41_1⟩:=x2_ BK2;have hfz41_0:=blk_frozen BK2.out 0;have hfz41_1:=blk_frozen BK2.out 1))
      refine bodyPost_ret (results_cell_row rfl _ _ gb2 67 #[.slice Ao39 t19.length co39, .int .i64 t22] (0,0) _ rfl (zw_ BK2) Try.underlying67 rfl (by kernel_rfl)) rfl ?_
      exact ⟨_,by first|rfl|(simp [errW_none,errW_some]<;>rfl)|(simp [*,errW_none,errW_some]<;>rfl),zy_ HO21 BK2,zl2_ HB GE1 GE2⟩
     rw [if_neg c36] at H
     have c36b0:decide (120≤(l0.length:Int))=false:=decide_eq_false c36
     clear c36
     have H':=Aside0.mk H
     clear H
     go_wp2
     go_loopg [9] kj26 (fun kq v9 w'=> ∃(x9_3:Int),v9= .int .i64 x9_3∧Aside0 (r10_Create.l0 kq l0 a1 a2 x9_3 a3_0 a3_1 a3_2=some (r1,r2))∧Aside0 (kq≤kj26)∧Aside0 (w'.heap[gb1]?=some (.cells #[.int .i64 a3_0, .int .i64 a3_1, .int .i64 a3_2] 27 (0,0)))∧Aside0 (w'.heap[gb2]?=some (.cells #[(.slice none 0 0), .int .i64 0] 67 (0,0)))∧Aside0 (Below w.heap.size w w'))
     case atStart=>exact ⟨(0),(by first|rfl|(simp;done)|(simp [*];done)),H',⟨Nat.le_refl _⟩,⟨by refine zk_ ?_;exact BK1.out⟩,⟨by refine zk_ ?_;exact BK2.out⟩,⟨zl2_ HB GE1 GE2⟩⟩
     case round=>
      clear H'
      try clear c1
      try clear c2
      try clear p2
      try clear c3
      try clear c4
      try clear c5
      try clear c8
      try clear c9
      try clear c10
      try clear c11
      try clear c14
      try clear c18
      try clear c21
      try clear c21b0
      try clear c25
      try clear c28
      try clear c28b0
      try clear c30
      try clear c34
      try clear c36
      try clear c36b0
      try clear c40
      try clear hcz12_0
      try clear hcz12_1
      try clear hcz12_2
      try clear hcz19_0
      try clear hcz19_1
      try clear hcz26_0
      try clear hcz26_1
      try clear hcz35_0
      try clear hcz35_1
      try clear hcz41_0
      try clear hcz41_1
      try clear hfz19_0
      try clear hfz19_1
      try clear hfz26_0
      try clear hfz26_1
      try clear hfz35_0
      try clear hfz35_1
      try clear hfz41_0
      try clear hfz41_1
      try clear p2
      obtain ⟨x9_3,rfl,HA,HK3,BK1,BK2,HB⟩:=hrel
      cases gk with
      |zero=>exact absurd HA.out (by simp [r10_Create.l0])
      |succ k3=>
       have H:=HA.out
       clear HA
       simp only [r10_Create.l0] at H
       by_cases c42:x9_3<(l0.length:Int)
       rotate_left
       ·rw [if_neg c42] at H
        have c42b0:decide (x9_3<(l0.length:Int))=false:=decide_eq_false c42
        clear c42
        by_cases c61:0≤x9_3
        rotate_left
        ·rw [if_neg c61] at H
         exact absurd H (by simp)

        rw [if_pos c61] at H
        have c61b1:decide (0≤x9_3)=true:=decide_eq_true c61
        clear c61
        by_cases c62:x9_3≤(l0.length:Int)
        rotate_left
        ·rw [if_neg c62] at H
         exact absurd H (by simp)
        rw [if_pos c62] at H
        have c62b1:decide (x9_3≤(l0.length:Int))=true:=decide_eq_true c62
        clear c62
        obtain ⟨y41,hy41⟩: ∃y_:List (S31),y_=(l0.take (x9_3:Int).toNat):=⟨_,rfl⟩
        replace H:((r10_copied.f y41).bind fun t45=>(if t45.length<1256584717458 then ((some (t45++ [(⟨a1,a2,(⟨a3_0,a3_1,a3_2⟩:S27),(⟨0,0,0⟩:S27),(⟨0,0,0⟩:S27),1⟩:S31)]:List (S31))).bind fun y48=>((some (l0.drop (x9_3:Int).toNat:List (S31))).bind fun y51=>(if y48.length+y51.length<1256584717458 then (some ((y48++y51),0)) else (none)))) else (none)))=some (r1,r2):=by first|(rw [hy41];with_reducible exact H)|(have H2_:=(Option.bind_some _ _).symm.trans H;rw [hy41];with_reducible exact H2_)|(have H2_:=(Option.bind_some _ _).symm.trans H;with_reducible exact H2_)|with_reducible exact H|(rw [hy41];exact H)|exact H
        have Ny41:=Aside0.mk hy41
        clear hy41
        replace H:=Option.bind_eq_some_iff.mp H
        obtain ⟨t45,A630,H⟩:=H
        try dsimp only at H
        have A63:=Aside0.mk A630
        clear A630
        by_cases c64:t45.length<1256584717458
        rotate_left
        ·rw [if_neg c64] at H
         exact absurd H (by simp)
        rw [if_pos c64] at H
        have LMc64:=Aside0.mk c64
        clear c64
        obtain ⟨y48,hy48⟩: ∃y_:List (S31),y_=(t45++ [(⟨a1,a2,(⟨a3_0,a3_1,a3_2⟩:S27),(⟨0,0,0⟩:S27),(⟨0,0,0⟩:S27),1⟩:S31)]):=⟨_,rfl⟩
        replace H:((some (l0.drop (x9_3:Int).toNat:List (S31))).bind fun y51=>(if y48.length+y51.length<1256584717458 then (some ((y48++y51),0)) else (none)))=some (r1,r2):=by first|(rw [hy48];with_reducible exact H)|(have H2_:=(Option.bind_some _ _).symm.trans H;rw [hy48];with_reducible exact H2_)|(have H2_:=(Option.bind_some _ _).symm.trans H;with_reducible exact H2_)|with_reducible exact H|(rw [hy48];exact H)|exact H
        have Ny48:=Aside0.mk hy48
        clear hy48
        obtain ⟨y51,hy51⟩: ∃y_:List (S31),y_=(l0.drop (x9_3:Int).toNat):=⟨_,rfl⟩
        replace H:(if y48.length+y51.length<1256584717458 then (some ((y48++y51),0)) else (none))=some (r1,r2):=by first|(rw [hy51];with_reducible exact H)|(have H2_:=(Option.bind_some _ _).symm.trans H;rw [hy51];with_reducible exact H2_)|(have H2_:=(Option.bind_some _ _).symm.trans H;with_reducible exact H2_)|with_reducible exact H|(rw [hy51];exact H)|exact H
        have Ny51:=Aside0.mk hy51
        clear hy51
        by_cases c67:y48.length+y51.length<1256584717458
        rotate_left
        ·rw [if_neg c67] at H
         exact absurd H (by simp)
        rw [if_pos c67] at H
        have LMc67:=Aside0.mk c67
        clear c67
        obtain ⟨y55,hy55⟩: ∃y_:List (S31),y_=(y48++y51):=⟨_,rfl⟩
        replace H:(some (y55,0))=some (r1,r2):=by first|(rw [hy55];with_reducible exact H)|(have H2_:=(Option.bind_some _ _).symm.trans H;rw [hy55];with_reducible exact H2_)|(have H2_:=(Option.bind_some _ _).symm.trans H;with_reducible exact H2_)|with_reducible exact H|(rw [hy55];exact H)|exact H
        have Ny55:=Aside0.mk hy55
        clear hy55
        simp only [Option.some.injEq,Prod.mk.injEq] at H
        obtain ⟨rfl,rfl⟩:=H
        have q68:(x9_3:Int)≤((l0.length:Int):Int):=of_decide_eq_true zq_
        obtain ⟨i068,hi068,_,hsz68,_⟩:=info_parts info31
        have hroom68:l0.length≤c0:=HC0.out
        have hC68:Kd.C k31 _ A0 l0.length l0:=HR0.out
        have hcut68:=cut_to (P:=Try.prog) 24 31 .i64 Try.underlying24 hi068 A0 l0.length c0 x9_3 (of_decide_eq_true zq_) q68 hroom68
        have hr68:=Kd.C_take (m:=(x9_3:Int).toNat) hC68 (by omega)
        have hy68:y41.length=(x9_3:Int).toNat:=(by rw [Ny41.out,List.length_take];omega)
        rw [←Ny41.out] at hr68
        rw [←hy68] at hcut68
        have HR44:=Aside0.mk hr68
        have HC44:=am_ (show y41.length≤c0 from by omega)
        clear hr68 hC68 hroom68 hi068 hsz68
        clear hy68
        replace q68:=eq_true q68
        go_wp2_with (first|((with_reducible refine gate_callee (f:=124) rfl ?_);refine gl_ (some 60) Try.func124 #[.slice A0 y41.length c0] ?_;(with_reducible refine (r10_copied.calls _ _ y41 t45 _ ?side1 ?side2 A63.out).mono ?_);(case side1=>exact zc_ (Kd.C_below HR44.out HB.out));(case side2=>exact HC44.out);rintro e w69 ⟨v46,rfl,ho0,hb⟩;refine ⟨_,rfl, ?_⟩;have HO47:=am_ (Kd.R_lower ho0 (below_size (zl2_ HB GE1 GE2)));replace BK1:=am_ (blk_below (zb_ BK1) hb);replace BK2:=am_ (blk_below (zb_ BK2) hb);replace HB:=am_ (below_step (zl2_ HB GE1 GE2) hb);(try clear hb);(try clear hb2);(try clear hk);(try clear hi);(try clear ho0);obtain ⟨hcz71_0,hcz71_1,hcz71_2⟩:=x3_ BK1)|((with_reducible refine gate_builtin (b:= .append) (xs:=#[.tmp 61, .tmp 66]) rfl ?_);at_builtin;refine Kd.R_append k31 (w0:=w) w.heap.size rfl (.tmp 61) (.tmp 66) 24 31 (.agg #[(.string ⟨#[]⟩),(.string ⟨#[]⟩),(.int .i64 0),(.int .i64 0),(.int .i64 0),(.int .i64 0),(.int .i64 0),(.int .i64 0),(.int .i64 0),(.int .i64 0),(.int .i64 0),(.int .i64 0)]) 112 rfl Try.underlying24 info31 rfl (by decide) (by omega) v46 t45 (⟨a1,a2,(⟨a3_0,a3_1,a3_2⟩:S27),(⟨0,0,0⟩:S27),(⟨0,0,0⟩:S27),1⟩:S31) [.string a1, .string a2, .int .i64 a3_0, .int .i64 a3_1, .int .i64 a3_2, .int .i64 0, .int .i64 0, .int .i64 0, .int .i64 0, .int .i64 0, .int .i64 0, .int .i64 1] (fun _=>True) (fun _=>False) rfl rfl ?aP (fun _ hk=>hk.elim) ?aF ?aO ?aB ?aS ?aL ?_;(case aP=>exact k31_mkM _ _ _ (⟨a1,a2,(⟨a3_0,a3_1,a3_2⟩:S27),(⟨0,0,0⟩:S27),(⟨0,0,0⟩:S27),1⟩:S31));(case aB=>exact (zl2_ HB GE1 GE2));(case aF=>exact (fun _ _=>trivial));(case aO=>exact (zr_ HO47));(case aS=>exact (below_size (zl2_ HB GE1 GE2)));(case aL=>have:=LMc64.out;omega);intro v49 w72 ho hb hg hat;rw [←Ny48.out] at ho;have n0_:=am_ (blk_grown (zb_ BK1) hg (Kd.R_ne HO47.out BK1.out (by decide)));have n1_:=am_ (blk_grown (zb_ BK2) hg (Kd.R_ne HO47.out BK2.out (by decide)));have n2_:=am_ (hb);have n3_:=am_ (ho);clear BK1;clear BK2;clear HB;clear HO47;have BK1:=n0_;have BK2:=n1_;have HB:=n2_;have HO50:=n3_;clear n0_ n1_ n2_ n3_;clear ho hb hg hat;have q73:(x9_3:Int)≤((l0.length:Int):Int):=of_decide_eq_true zq_;obtain ⟨i073,hi073,_,hsz73,_⟩:=info_parts info31;have hroom73:l0.length≤c0:=HC0.out;have hC73:Kd.C k31 _ A0 l0.length l0:=HR0.out;have q073:(0:Int)≤(x9_3:Int):=of_decide_eq_true zq_;have hcut73:=cut_from (P:=Try.prog) 24 31 .i64 Try.underlying24 hi073 12 hsz73 A0 l0.length c0 x9_3 q073 q73;have hr73:=Kd.C_drop (m:=(x9_3:Int).toNat) (c:=c0) hC73 (by omega) hroom73;obtain ⟨A73,hA73⟩: ∃A1,A1=(if c0=(x9_3:Int).toNat then A0 else (A0:Option Addr).map (·.add ((x9_3:Int).toNat*12))):=⟨_,rfl⟩;obtain ⟨c73,hc73⟩: ∃c1,c1=c0 - (x9_3:Int).toNat:=⟨_,rfl⟩;have hy73:y51.length=l0.length - (x9_3:Int).toNat:=(by rw [Ny51.out,List.length_drop]<;>omega);rw [show (l0).drop (x9_3:Int).toNat=y51 from Ny51.out.symm] at hr73;replace hr73:Kd.C k31 _ A73 y51.length y51:=(by rw [hA73];exact hr73);rw [←hy73,←hA73,←hc73] at hcut73;have HR54:=Aside0.mk hr73;clear hr73 hC73 hroom73 hi073 hsz73 hc73;clear hy73 hA73;replace q73:=eq_true q73)|((with_reducible refine gate_builtin (b:= .append) (xs:=#[.tmp 68, .tmp 71]) rfl ?_);at_builtin;refine Kd.R_append_rows k31 (w0:=w) w.heap.size rfl (.tmp 68) (.tmp 71) 24 31 (.agg #[(.string ⟨#[]⟩),(.string ⟨#[]⟩),(.int .i64 0),(.int .i64 0),(.int .i64 0),(.int .i64 0),(.int .i64 0),(.int .i64 0),(.int .i64 0),(.int .i64 0),(.int .i64 0),(.int .i64 0)]) 112 rfl Try.underlying24 info31 rfl (by decide) (by omega) v49 y48 y51 _ _ _ (fun _=>True) (fun _=>False) rfl rfl ?aO ?aR (fun _ _ h=>h) (fun _ h=>h.elim) ?aF ?aB ?aS ?aL ?_;(case aR=>repeat (first|exact (Kd.C_below HR54.out HB.out)|(with_reducible refine Kd.C_alloc ?_ _)|(with_reducible refine Kd.C_drewN ?_ _)|(with_reducible refine Kd.C_drew ?_)));(case aB=>exact (zl2_ HB GE1 GE2));(case aF=>exact (fun _ _=>trivial));(case aO=>exact (zr_ HO50));(case aS=>exact (below_size (zl2_ HB GE1 GE2)));(case aL=>have:=LMc67.out;omega);intro v56 w74 ho hb hg hat;rw [←Ny55.out] at ho;have n0_:=am_ (blk_grown (zb_ BK1) hg (Kd.R_ne HO50.out BK1.out (by decide)));have n1_:=am_ (blk_grown (zb_ BK2) hg (Kd.R_ne HO50.out BK2.out (by decide)));have n2_:=am_ (hb);have n3_:=am_ (ho);clear BK1;clear BK2;clear HB;clear HO50;have BK1:=n0_;have BK2:=n1_;have HB:=n2_;have HO57:=n3_;clear n0_ n1_ n2_ n3_;clear ho hb hg hat;obtain ⟨Ao75,co75,eo75⟩:=Kd.R_slice HO57.out;subst eo75;obtain ⟨hcz76_0,hcz76_1⟩:=x2_ BK2;have hfz76_0:=blk_frozen BK2.out 0;have hfz76_1:=blk_frozen BK2.out 1))
        refine bodyPost_ret (results_cell_row rfl _ _ gb2 67 #[.slice Ao75 y55.length co75, .int .i64 0] (0,0) _ rfl (zw_ BK2) Try.underlying67 rfl (by kernel_rfl)) rfl ?_
        exact ⟨_,by first|rfl|(simp [errW_none,errW_some]<;>rfl)|(simp [*,errW_none,errW_some]<;>rfl),zy_ HO57 BK2,zl2_ HB GE1 GE2⟩
       rw [if_pos c42] at H
       have c42b0:decide (x9_3<(l0.length:Int))=true:=decide_eq_true c42
       clear c42
       by_cases c43:0≤x9_3
       rotate_left
       ·rw [if_neg c43] at H
        exact absurd H (by simp)
       rw [if_pos c43] at H
       have c43b0:decide (0≤x9_3)=true:=decide_eq_true c43
       clear c43
       by_cases c44:(Op.bytesLess (((rd_T31 l0 x9_3).f0).toList) a1.toList)=true
       ·rw [if_pos c44] at H
        have c44b0:(Op.bytesLess (((rd_T31 l0 x9_3).f0).toList) a1.toList)=true:=c44
        clear c44
        have H':=Aside0.mk H
        clear H
        have p23:0≤(x9_3:Int):=of_decide_eq_true zq_
        have q23:x9_3<(l0.length:Int):=of_decide_eq_true zq_
        obtain ⟨ad23,e23,hx23_0,hx23_1,hx23_2,hx23_3,hx23_4,hx23_5,hx23_6,hx23_7,hx23_8,hx23_9,hx23_10,hx23_11⟩:=at_T31 HR0.out x9_3 p23 q23
        cases e23
        replace hx23_0:=zx_ HB hx23_0
        replace hx23_1:=zx_ HB hx23_1
        replace hx23_2:=zx_ HB hx23_2
        replace hx23_3:=zx_ HB hx23_3
        replace hx23_4:=zx_ HB hx23_4
        replace hx23_5:=zx_ HB hx23_5
        replace hx23_6:=zx_ HB hx23_6
        replace hx23_7:=zx_ HB hx23_7
        replace hx23_8:=zx_ HB hx23_8
        replace hx23_9:=zx_ HB hx23_9
        replace hx23_10:=zx_ HB hx23_10
        replace hx23_11:=zx_ HB hx23_11
        replace p23:=eq_true p23
        replace q23:=eq_true q23
        go_wp2
        go_roundg k3
        case measure=>have:=HJ4.out;have:=HJ26.out;have:=HK3.out;omega
        case rel=>exact ⟨(wrap64 (x9_3+1)),(by first|rfl|(simp;done)|(simp [*];done)),H',⟨by have:=HJ4.out;have:=HJ26.out;have:=HK3.out;omega⟩,⟨by refine zk_ ?_;exact BK1.out⟩,⟨by refine zk_ ?_;exact BK2.out⟩,⟨zl2_ HB GE1 GE2⟩⟩
       rw [if_neg c44] at H
       have c44b0:(Op.bytesLess (((rd_T31 l0 x9_3).f0).toList) a1.toList)=false:=by simpa using c44
       clear c44
       have c45b0:=eq_true (of_decide_eq_true zq_:0≤x9_3)
       by_cases c46:x9_3≤(l0.length:Int)
       rotate_left
       ·rw [if_neg c46] at H
        exact absurd H (by simp)
       rw [if_pos c46] at H
       have c46b1:decide (x9_3≤(l0.length:Int))=true:=decide_eq_true c46
       clear c46
       obtain ⟨y24,hy24⟩: ∃y_:List (S31),y_=(l0.take (x9_3:Int).toNat):=⟨_,rfl⟩
       replace H:((r10_copied.f y24).bind fun t28=>(if t28.length<1256584717458 then ((some (t28++ [(⟨a1,a2,(⟨a3_0,a3_1,a3_2⟩:S27),(⟨0,0,0⟩:S27),(⟨0,0,0⟩:S27),1⟩:S31)]:List (S31))).bind fun y31=>((some (l0.drop (x9_3:Int).toNat:List (S31))).bind fun y34=>(if y31.length+y34.length<1256584717458 then (some ((y31++y34),0)) else (none)))) else (none)))=some (r1,r2):=by first|(rw [hy24];with_reducible exact H)|(have H2_:=(Option.bind_some _ _).symm.trans H;rw [hy24];with_reducible exact H2_)|(have H2_:=(Option.bind_some _ _).symm.trans H;with_reducible exact H2_)|with_reducible exact H|(rw [hy24];exact H)|exact H
       have Ny24:=Aside0.mk hy24
       clear hy24
       replace H:=Option.bind_eq_some_iff.mp H
       obtain ⟨t28,A470,H⟩:=H
       try dsimp only at H
       have A47:=Aside0.mk A470
       clear A470
       by_cases c48:t28.length<1256584717458
       rotate_left
       ·rw [if_neg c48] at H
        exact absurd H (by simp)
       rw [if_pos c48] at H
       have LMc48:=Aside0.mk c48
       clear c48
       obtain ⟨y31,hy31⟩: ∃y_:List (S31),y_=(t28++ [(⟨a1,a2,(⟨a3_0,a3_1,a3_2⟩:S27),(⟨0,0,0⟩:S27),(⟨0,0,0⟩:S27),1⟩:S31)]):=⟨_,rfl⟩
       replace H:((some (l0.drop (x9_3:Int).toNat:List (S31))).bind fun y34=>(if y31.length+y34.length<1256584717458 then (some ((y31++y34),0)) else (none)))=some (r1,r2):=by first|(rw [hy31];with_reducible exact H)|(have H2_:=(Option.bind_some _ _).symm.trans H;rw [hy31];with_reducible exact H2_)|(have H2_:=(Option.bind_some _ _).symm.trans H;with_reducible exact H2_)|with_reducible exact H|(rw [hy31];exact H)|exact H
       have Ny31:=Aside0.mk hy31
       clear hy31
       obtain ⟨y34,hy34⟩: ∃y_:List (S31),y_=(l0.drop (x9_3:Int).toNat):=⟨_,rfl⟩
       replace H:(if y31.length+y34.length<1256584717458 then (some ((y31++y34),0)) else (none))=some (r1,r2):=by first|(rw [hy34];with_reducible exact H)|(have H2_:=(Option.bind_some _ _).symm.trans H;rw [hy34];with_reducible exact H2_)|(have H2_:=(Option.bind_some _ _).symm.trans H;with_reducible exact H2_)|with_reducible exact H|(rw [hy34];exact H)|exact H
       have Ny34:=Aside0.mk hy34
       clear hy34
       by_cases c51:y31.length+y34.length<1256584717458
       rotate_left
       ·rw [if_neg c51] at H
        exact absurd H (by simp)
       rw [if_pos c51] at H
       have LMc51:=Aside0.mk c51
       clear c51
       obtain ⟨y38,hy38⟩: ∃y_:List (S31),y_=(y31++y34):=⟨_,rfl⟩
       replace H:(some (y38,0))=some (r1,r2):=by first|(rw [hy38];with_reducible exact H)|(have H2_:=(Option.bind_some _ _).symm.trans H;rw [hy38];with_reducible exact H2_)|(have H2_:=(Option.bind_some _ _).symm.trans H;with_reducible exact H2_)|with_reducible exact H|(rw [hy38];exact H)|exact H
       have Ny38:=Aside0.mk hy38
       clear hy38
       simp only [Option.some.injEq,Prod.mk.injEq] at H
       obtain ⟨rfl,rfl⟩:=H
       have p23:0≤(x9_3:Int):=of_decide_eq_true zq_
       have q23:x9_3<(l0.length:Int):=of_decide_eq_true zq_
       obtain ⟨ad23,e23,hx23_0,hx23_1,hx23_2,hx23_3,hx23_4,hx23_5,hx23_6,hx23_7,hx23_8,hx23_9,hx23_10,hx23_11⟩:=at_T31 HR0.out x9_3 p23 q23
       cases e23
       replace hx23_0:=zx_ HB hx23_0
       replace hx23_1:=zx_ HB hx23_1
       replace hx23_2:=zx_ HB hx23_2
       replace hx23_3:=zx_ HB hx23_3
       replace hx23_4:=zx_ HB hx23_4
       replace hx23_5:=zx_ HB hx23_5
       replace hx23_6:=zx_ HB hx23_6
       replace hx23_7:=zx_ HB hx23_7
       replace hx23_8:=zx_ HB hx23_8
       replace hx23_9:=zx_ HB hx23_9
       replace hx23_10:=zx_ HB hx23_10
       replace hx23_11:=zx_ HB hx23_11
       replace p23:=eq_true p23
       replace q23:=eq_true q23
       have q52:(x9_3:Int)≤((l0.length:Int):Int):=of_decide_eq_true zq_
       obtain ⟨i052,hi052,_,hsz52,_⟩:=info_parts info31
       have hroom52:l0.length≤c0:=HC0.out
       have hC52:Kd.C k31 _ (some ad23) l0.length l0:=HR0.out
       have hcut52:=cut_to (P:=Try.prog) 24 31 .i64 Try.underlying24 hi052 (some ad23) l0.length c0 x9_3 (of_decide_eq_true zq_) q52 hroom52
       have hr52:=Kd.C_take (m:=(x9_3:Int).toNat) hC52 (by omega)
       have hy52:y24.length=(x9_3:Int).toNat:=(by rw [Ny24.out,List.length_take];omega)
       rw [←Ny24.out] at hr52
       rw [←hy52] at hcut52
       have HR27:=Aside0.mk hr52
       have HC27:=am_ (show y24.length≤c0 from by omega)
       clear hr52 hC52 hroom52 hi052 hsz52
       clear hy52
       replace q52:=eq_true q52
       go_wp2_with (first|((with_reducible refine gate_callee (f:=124) rfl ?_);refine gl_ (some 60) Try.func124 #[.slice (some ad23) y24.length c0] ?_;(with_reducible refine (r10_copied.calls _ _ y24 t28 _ ?side1 ?side2 A47.out).mono ?_);(case side1=>exact zc_ (Kd.C_below HR27.out HB.out));(case side2=>exact HC27.out);rintro e w53 ⟨v29,rfl,ho0,hb⟩;refine ⟨_,rfl, ?_⟩;have HO30:=am_ (Kd.R_lower ho0 (below_size (zl2_ HB GE1 GE2)));replace BK1:=am_ (blk_below (zb_ BK1) hb);replace BK2:=am_ (blk_below (zb_ BK2) hb);replace HB:=am_ (below_step (zl2_ HB GE1 GE2) hb);(try clear hb);(try clear hb2);(try clear hk);(try clear hi);(try clear ho0);obtain ⟨hcz55_0,hcz55_1,hcz55_2⟩:=x3_ BK1)|((with_reducible refine gate_builtin (b:= .append) (xs:=#[.tmp 61, .tmp 66]) rfl ?_);at_builtin;refine Kd.R_append k31 (w0:=w) w.heap.size rfl (.tmp 61) (.tmp 66) 24 31 (.agg #[(.string ⟨#[]⟩),(.string ⟨#[]⟩),(.int .i64 0),(.int .i64 0),(.int .i64 0),(.int .i64 0),(.int .i64 0),(.int .i64 0),(.int .i64 0),(.int .i64 0),(.int .i64 0),(.int .i64 0)]) 112 rfl Try.underlying24 info31 rfl (by decide) (by omega) v29 t28 (⟨a1,a2,(⟨a3_0,a3_1,a3_2⟩:S27),(⟨0,0,0⟩:S27),(⟨0,0,0⟩:S27),1⟩:S31) [.string a1, .string a2, .int .i64 a3_0, .int .i64 a3_1, .int .i64 a3_2, .int .i64 0, .int .i64 0, .int .i64 0, .int .i64 0, .int .i64 0, .int .i64 0, .int .i64 1] (fun _=>True) (fun _=>False) rfl rfl ?aP (fun _ hk=>hk.elim) ?aF ?aO ?aB ?aS ?aL ?_;(case aP=>exact k31_mkM _ _ _ (⟨a1,a2,(⟨a3_0,a3_1,a3_2⟩:S27),(⟨0,0,0⟩:S27),(⟨0,0,0⟩:S27),1⟩:S31));(case aB=>exact (zl2_ HB GE1 GE2));(case aF=>exact (fun _ _=>trivial));(case aO=>exact (zr_ HO30));(case aS=>exact (below_size (zl2_ HB GE1 GE2)));(case aL=>have:=LMc48.out;omega);intro v32 w56 ho hb hg hat;rw [←Ny31.out] at ho;have n0_:=am_ (blk_grown (zb_ BK1) hg (Kd.R_ne HO30.out BK1.out (by decide)));have n1_:=am_ (blk_grown (zb_ BK2) hg (Kd.R_ne HO30.out BK2.out (by decide)));have n2_:=am_ (hb);have n3_:=am_ (ho);clear BK1;clear BK2;clear HB;clear HO30;have BK1:=n0_;have BK2:=n1_;have HB:=n2_;have HO33:=n3_;clear n0_ n1_ n2_ n3_;clear ho hb hg hat;have q57:(x9_3:Int)≤((l0.length:Int):Int):=of_decide_eq_true zq_;obtain ⟨i057,hi057,_,hsz57,_⟩:=info_parts info31;have hroom57:l0.length≤c0:=HC0.out;have hC57:Kd.C k31 _ (some ad23) l0.length l0:=HR0.out;have q057:(0:Int)≤(x9_3:Int):=of_decide_eq_true zq_;have hcut57:=cut_from (P:=Try.prog) 24 31 .i64 Try.underlying24 hi057 12 hsz57 (some ad23) l0.length c0 x9_3 q057 q57;have hr57:=Kd.C_drop (m:=(x9_3:Int).toNat) (c:=c0) hC57 (by omega) hroom57;obtain ⟨A57,hA57⟩: ∃A1,A1=(if c0=(x9_3:Int).toNat then (some ad23) else ((some ad23):Option Addr).map (·.add ((x9_3:Int).toNat*12))):=⟨_,rfl⟩;obtain ⟨c57,hc57⟩: ∃c1,c1=c0 - (x9_3:Int).toNat:=⟨_,rfl⟩;have hy57:y34.length=l0.length - (x9_3:Int).toNat:=(by rw [Ny34.out,List.length_drop]<;>omega);rw [show (l0).drop (x9_3:Int).toNat=y34 from Ny34.out.symm] at hr57;replace hr57:Kd.C k31 _ A57 y34.length y34:=(by rw [hA57];exact hr57);rw [←hy57,←hA57,←hc57] at hcut57;have HR37:=Aside0.mk hr57;clear hr57 hC57 hroom57 hi057 hsz57 hc57;clear hy57 hA57;replace q57:=eq_true q57)|((with_reducible refine gate_builtin (b:= .append) (xs:=#[.tmp 68, .tmp 71]) rfl ?_);at_builtin;refine Kd.R_append_rows k31 (w0:=w) w.heap.size rfl (.tmp 68) (.tmp 71) 24 31 (.agg #[(.string ⟨#[]⟩),(.string ⟨#[]⟩),(.int .i64 0),(.int .i64 0),(.int .i64 0),(.int .i64 0),(.int .i64 0),(.int .i64 0),(.int .i64 0),(.int .i64 0),(.int .i64 0),(.int .i64 0)]) 112 rfl Try.underlying24 info31 rfl (by decide) (by omega) v32 y31 y34 _ _ _ (fun _=>True) (fun _=>False) rfl rfl ?aO ?aR (fun _ _ h=>h) (fun _ h=>h.elim) ?aF ?aB ?aS ?aL ?_;(case aR=>repeat (first|exact (Kd.C_below HR37.out HB.out)|(with_reducible refine Kd.C_alloc ?_ _)|(with_reducible refine Kd.C_drewN ?_ _)|(with_reducible refine Kd.C_drew ?_)));(case aB=>exact (zl2_ HB GE1 GE2));(case aF=>exact (fun _ _=>trivial));(case aO=>exact (zr_ HO33));(case aS=>exact (below_size (zl2_ HB GE1 GE2)));(case aL=>have:=LMc51.out;omega);intro v39 w58 ho hb hg hat;rw [←Ny38.out] at ho;have n0_:=am_ (blk_grown (zb_ BK1) hg (Kd.R_ne HO33.out BK1.out (by decide)));have n1_:=am_ (blk_grown (zb_ BK2) hg (Kd.R_ne HO33.out BK2.out (by decide)));have n2_:=am_ (hb);have n3_:=am_ (ho);clear BK1;clear BK2;clear HB;clear HO33;have BK1:=n0_;have BK2:=n1_;have HB:=n2_;have HO40:=n3_;clear n0_ n1_ n2_ n3_;clear ho hb hg hat;obtain ⟨Ao59,co59,eo59⟩:=Kd.R_slice HO40.out;subst eo59;obtain ⟨hcz60_0,hcz60_1⟩:=x2_ BK2;have hfz60_0:=blk_frozen BK2.out 0;have hfz60_1:=blk_frozen BK2.out 1))
       refine bodyPost_ret (results_cell_row rfl _ _ gb2 67 #[.slice Ao59 y38.length co59, .int .i64 0] (0,0) _ rfl (zw_ BK2) Try.underlying67 rfl (by kernel_rfl)) rfl ?_
       exact ⟨_,by first|rfl|(simp [errW_none,errW_some]<;>rfl)|(simp [*,errW_none,errW_some]<;>rfl),zy_ HO40 BK2,zl2_ HB GE1 GE2⟩
def r10_Le.f (a0_0:Int) (a0_1:Int) (a0_2:Int) (a1_0:Int) (a1_1:Int) (a1_2:Int):Option (Bool):=if a0_0≤a1_0 then (if a0_1≤a1_1 then (some (decide (a0_2≤a1_2))) else (some false)) else (some false)
set_option maxHeartbeats 8000000 in
set_option maxRecDepth 100000 in
theorem r10_Le.calls (a0_0:Int) (a0_1:Int) (a0_2:Int) (a1_0:Int) (a1_1:Int) (a1_2:Int) (r:Bool) (w:World) (h:r10_Le.f a0_0 a0_1 a0_2 a1_0 a1_1 a1_2=some r):
  Calls Try.prog 34 #[.agg #[.int .i64 a0_0, .int .i64 a0_1, .int .i64 a0_2], .agg #[.int .i64 a1_0, .int .i64 a1_1, .int .i64 a1_2]] w fun e w'=>e= .returned (.bool r)∧Below w.heap.size w w':=by
 have hu27:=Try.underlying27
 have HB:=am_ (Below.refl w.heap.size w)
 have H:(if a0_0≤a1_0 then (if a0_1≤a1_1 then (some (decide (a0_2≤a1_2))) else (some false)) else (some false))=some r:=h
 clear h
 by_cases c3:a0_0≤a1_0
 rotate_left
 ·rw [if_neg c3] at H
  have c3b0:decide (a0_0≤a1_0)=false:=decide_eq_false c3
  clear c3
  obtain rfl:=Option.some.inj H
  go_enter Try.func34,Try.ntmps34
  go_wp2_with (first|((with_reducible refine gate_dst (N:=2) rfl ?_);refine bx_ (N:=2) (cs:=#[.int .i64 a0_0, .int .i64 a0_1, .int .i64 a0_2]) (t:=27) ?_;intro gb1 hg w15 hbox hb;have BK1:=am_ (hbox);have GW1:=am_ ((zg0_ HB hg:w.heap.size≤gb1));have GE1:=am_ ((zg0_ HB hg:w.heap.size≤gb1));replace HB:=am_ (below_step (zl0_ HB) hb);clear hb hbox hg)|((with_reducible refine gate_dst (N:=3) rfl ?_);refine bx_ (N:=3) (cs:=#[.int .i64 a1_0, .int .i64 a1_1, .int .i64 a1_2]) (t:=27) ?_;intro gb2 hg w16 hbox hb;have BK2:=am_ (hbox);have GW2:=am_ ((zg1_ HB GE1 hg:w.heap.size≤gb2));have GE2:=am_ ((zg1_ HB GE1 hg:w.heap.size≤gb2));replace HB:=am_ (below_step (zl1_ HB GE1) hb);have NB1_2:=am_ ((zn_ BK1 hg:gb1≠gb2));have NB2_1:=am_ ((zm_ BK1 hg:gb2≠gb1));replace BK1:=am_ (blk_below (zb_ BK1) hb);clear hb hbox hg;have hnb17:=NB1_2.out;have hnc17:=NB2_1.out;obtain ⟨hcz18_0,hcz18_1,hcz18_2,hfz18_0,hfz18_1,hfz18_2⟩:=y3_ BK1;obtain ⟨hcz19_0,hcz19_1,hcz19_2⟩:=x3_ BK2;have hfz19_0:=blk_frozen BK2.out 0;have hfz19_1:=blk_frozen BK2.out 1;have hfz19_2:=blk_frozen BK2.out 2))
  go_ret
  exact ⟨by first|rfl|(simp [errW_none,errW_some]<;>rfl)|(simp [*,errW_none,errW_some]<;>rfl),zl2_ HB GE1 GE2⟩

 rw [if_pos c3] at H
 have c3b0:decide (a0_0≤a1_0)=true:=decide_eq_true c3
 clear c3
 by_cases c4:a0_1≤a1_1
 ·rw [if_pos c4] at H
  have c4b0:decide (a0_1≤a1_1)=true:=decide_eq_true c4
  clear c4
  obtain rfl:=Option.some.inj H
  go_enter Try.func34,Try.ntmps34
  go_wp2_with (first|((with_reducible refine gate_dst (N:=2) rfl ?_);refine bx_ (N:=2) (cs:=#[.int .i64 a0_0, .int .i64 a0_1, .int .i64 a0_2]) (t:=27) ?_;intro gb1 hg w5 hbox hb;have BK1:=am_ (hbox);have GW1:=am_ ((zg0_ HB hg:w.heap.size≤gb1));have GE1:=am_ ((zg0_ HB hg:w.heap.size≤gb1));replace HB:=am_ (below_step (zl0_ HB) hb);clear hb hbox hg)|((with_reducible refine gate_dst (N:=3) rfl ?_);refine bx_ (N:=3) (cs:=#[.int .i64 a1_0, .int .i64 a1_1, .int .i64 a1_2]) (t:=27) ?_;intro gb2 hg w6 hbox hb;have BK2:=am_ (hbox);have GW2:=am_ ((zg1_ HB GE1 hg:w.heap.size≤gb2));have GE2:=am_ ((zg1_ HB GE1 hg:w.heap.size≤gb2));replace HB:=am_ (below_step (zl1_ HB GE1) hb);have NB1_2:=am_ ((zn_ BK1 hg:gb1≠gb2));have NB2_1:=am_ ((zm_ BK1 hg:gb2≠gb1));replace BK1:=am_ (blk_below (zb_ BK1) hb);clear hb hbox hg;have hnb7:=NB1_2.out;have hnc7:=NB2_1.out;obtain ⟨hcz8_0,hcz8_1,hcz8_2,hfz8_0,hfz8_1,hfz8_2⟩:=y3_ BK1;obtain ⟨hcz9_0,hcz9_1,hcz9_2⟩:=x3_ BK2;have hfz9_0:=blk_frozen BK2.out 0;have hfz9_1:=blk_frozen BK2.out 1;have hfz9_2:=blk_frozen BK2.out 2))
  go_ret
  exact ⟨by first|rfl|(simp [errW_none,errW_some]<;>rfl)|(simp [*,errW_none,errW_some]<;>rfl),zl2_ HB GE1 GE2⟩
 rw [if_neg c4] at H
 have c4b0:decide (a0_1≤a1_1)=false:=decide_eq_false c4
 clear c4
 obtain rfl:=Option.some.inj H
 go_enter Try.func34,Try.ntmps34
 go_wp2_with (first|((with_reducible refine gate_dst (N:=2) rfl ?_);refine bx_ (N:=2) (cs:=#[.int .i64 a0_0, .int .i64 a0_1, .int .i64 a0_2]) (t:=27) ?_;intro gb1 hg w10 hbox hb;have BK1:=am_ (hbox);have GW1:=am_ ((zg0_ HB hg:w.heap.size≤gb1));have GE1:=am_ ((zg0_ HB hg:w.heap.size≤gb1));replace HB:=am_ (below_step (zl0_ HB) hb);clear hb hbox hg)|((with_reducible refine gate_dst (N:=3) rfl ?_);refine bx_ (N:=3) (cs:=#[.int .i64 a1_0, .int .i64 a1_1, .int .i64 a1_2]) (t:=27) ?_;intro gb2 hg w11 hbox hb;have BK2:=am_ (hbox);have GW2:=am_ ((zg1_ HB GE1 hg:w.heap.size≤gb2));have GE2:=am_ ((zg1_ HB GE1 hg:w.heap.size≤gb2));replace HB:=am_ (below_step (zl1_ HB GE1) hb);have NB1_2:=am_ ((zn_ BK1 hg:gb1≠gb2));have NB2_1:=am_ ((zm_ BK1 hg:gb2≠gb1));replace BK1:=am_ (blk_below (zb_ BK1) hb);clear hb hbox hg;have hnb12:=NB1_2.out;have hnc12:=NB2_1.out;obtain ⟨hcz13_0,hcz13_1,hcz13_2,hfz13_0,hfz13_1,hfz13_2⟩:=y3_ BK1;obtain ⟨hcz14_0,hcz14_1,hcz14_2⟩:=x3_ BK2;have hfz14_0:=blk_frozen BK2.out 0;have hfz14_1:=blk_frozen BK2.out 1;have hfz14_2:=blk_frozen BK2.out 2))
 go_ret
 exact ⟨by first|rfl|(simp [errW_none,errW_some]<;>rfl)|(simp [*,errW_none,errW_some]<;>rfl),zl2_ HB GE1 GE2⟩
def r10_old.f (k:Nat) (l0:List (S31)) (a1:ByteArray) (a2:Int):Option (Int):=(r10_Find.f k l0 a1).bind fun t1=>(if t1<0 then (some 2) else (if a2≥0 then (if 0≤t1 then (if t1<(l0.length:Int) then (if ((rd_T31 l0 t1).f5)=a2 then (some 0) else (some 14)) else (none)) else (none)) else (some 0)))
theorem r10_old.mono: ∀a0 a1 a2 k,LeO (r10_old.f k a0 a1 a2) (r10_old.f (k+1) a0 a1 a2):=by
 intro a0 a1 a2 k
 unfold r10_old.f
 repeat' first
  |(with_reducible exact r10_Find.mono _ _ _)
  |(with_reducible exact LeO.refl _)
  |(with_reducible exact LeO.none _)
  |(with_reducible refine LeO.ite ?_ ?_)
  |(with_reducible refine LeO.bind ?_ (fun _=> ?_))
  |exact r10_Find.mono _ _ _
  |exact LeO.none _
  |refine LeO.ite ?_ ?_
  |refine LeO.bind ?_ (fun _=> ?_)
set_option maxHeartbeats 8000000 in
set_option maxRecDepth 100000 in
theorem r10_old.calls (k:Nat) (A0:Option Addr) (c0:Nat) (l0:List (S31)) (a1:ByteArray) (a2:Int) (r:Int) (w:World) (hr0:Kd.C k31 w A0 l0.length l0) (hc0:l0.length≤c0) (h:r10_old.f k l0 a1 a2=some r):
  Calls Try.prog 147 #[.slice A0 l0.length c0, .string a1, .int .i64 a2] w fun e w'=>e= .returned (.int .i64 r)∧Drawn0 w w':=by
 have HR0:=Aside0.mk hr0
 have HC0:=Aside0.mk hc0
 clear hr0 hc0
 have H:((r10_Find.f k l0 a1).bind fun t1=>(if t1<0 then (some 2) else (if a2≥0 then (if 0≤t1 then (if t1<(l0.length:Int) then (if ((rd_T31 l0 t1).f5)=a2 then (some 0) else (some 14)) else (none)) else (none)) else (some 0))))=some r:=h
 clear h
 replace H:=Option.bind_eq_some_iff.mp H
 obtain ⟨t1,A40,H⟩:=H
 try dsimp only at H
 have A4:=Aside0.mk A40
 clear A40
 by_cases c5:t1<0
 ·rw [if_pos c5] at H
  have c5b0:decide (t1<0)=true:=decide_eq_true c5
  clear c5
  obtain rfl:=Option.some.inj H
  go_enter Try.func147,Try.ntmps147
  go_wp2_with (first|((with_reducible refine gate_callee (f:=50) rfl ?_);refine gl_ (some 10) Try.func50 #[.slice A0 l0.length c0, .string a1] ?_;(with_reducible refine (r10_Find.calls k _ _ l0 a1 t1 _ ?side1 ?side2 A4.out).mono ?_);(case side1=>repeat (first|exact HR0.out|(with_reducible refine Kd.C_alloc ?_ _)|(with_reducible refine Kd.C_drewN ?_ _)|(with_reducible refine Kd.C_drew ?_)));(case side2=>exact HC0.out);rintro e w' ⟨rfl,⟨nd,rfl⟩⟩;refine ⟨_,rfl, ?_⟩))
  go_ret
  exact ⟨by first|rfl|(simp;done)|(simp [*];done),by repeat (first|exact Drawn0.refl _|apply Drawn0.step)⟩
 rw [if_neg c5] at H
 have c5b0:decide (t1<0)=false:=decide_eq_false c5
 clear c5
 by_cases c6:a2≥0
 rotate_left
 ·rw [if_neg c6] at H
  have c6b0:decide (0≤a2)=false:=decide_eq_false c6
  clear c6
  obtain rfl:=Option.some.inj H
  go_enter Try.func147,Try.ntmps147
  go_wp2_with (first|((with_reducible refine gate_callee (f:=50) rfl ?_);refine gl_ (some 10) Try.func50 #[.slice A0 l0.length c0, .string a1] ?_;(with_reducible refine (r10_Find.calls k _ _ l0 a1 t1 _ ?side1 ?side2 A4.out).mono ?_);(case side1=>repeat (first|exact HR0.out|(with_reducible refine Kd.C_alloc ?_ _)|(with_reducible refine Kd.C_drewN ?_ _)|(with_reducible refine Kd.C_drew ?_)));(case side2=>exact HC0.out);rintro e w' ⟨rfl,⟨nd,rfl⟩⟩;refine ⟨_,rfl, ?_⟩))
  go_ret
  exact ⟨by first|rfl|(simp;done)|(simp [*];done),by repeat (first|exact Drawn0.refl _|apply Drawn0.step)⟩

 rw [if_pos c6] at H
 have c6b0:decide (0≤a2)=true:=decide_eq_true c6
 clear c6
 by_cases c7:0≤t1
 rotate_left
 ·rw [if_neg c7] at H
  exact absurd H (by simp)
 rw [if_pos c7] at H
 have c7b0:decide (0≤t1)=true:=decide_eq_true c7
 clear c7
 by_cases c8:t1<(l0.length:Int)
 rotate_left
 ·rw [if_neg c8] at H
  exact absurd H (by simp)
 rw [if_pos c8] at H
 have c8b0:decide (t1<(l0.length:Int))=true:=decide_eq_true c8
 clear c8
 by_cases c9:((rd_T31 l0 t1).f5)=a2
 ·rw [if_pos c9] at H
  have c9b0:(((rd_T31 l0 t1).f5)==a2)=true:=beq_iff_eq.mpr c9
  have c9b1:(((rd_T31 l0 t1).f5) !=a2)=false:=bne_eq_false_iff_eq.mpr c9
  clear c9
  obtain rfl:=Option.some.inj H
  go_enter Try.func147,Try.ntmps147
  go_wp2_with (first|((with_reducible refine gate_callee (f:=50) rfl ?_);refine gl_ (some 10) Try.func50 #[.slice A0 l0.length c0, .string a1] ?_;(with_reducible refine (r10_Find.calls k _ _ l0 a1 t1 _ ?side1 ?side2 A4.out).mono ?_);(case side1=>repeat (first|exact HR0.out|(with_reducible refine Kd.C_alloc ?_ _)|(with_reducible refine Kd.C_drewN ?_ _)|(with_reducible refine Kd.C_drew ?_)));(case side2=>exact HC0.out);rintro e w' ⟨rfl,⟨nd,rfl⟩⟩;refine ⟨_,rfl, ?_⟩;have p2:0≤(t1:Int):=of_decide_eq_true zq_;have q2:t1<(l0.length:Int):=of_decide_eq_true zq_;obtain ⟨ad2,e2,hx2_0,hx2_1,hx2_2,hx2_3,hx2_4,hx2_5,hx2_6,hx2_7,hx2_8,hx2_9,hx2_10,hx2_11⟩:=at_T31 HR0.out t1 p2 q2;cases e2;replace p2:=eq_true p2;replace q2:=eq_true q2))
  go_ret
  exact ⟨by first|rfl|(simp;done)|(simp [*];done),by repeat (first|exact Drawn0.refl _|apply Drawn0.step)⟩
 rw [if_neg c9] at H
 have c9b0:(((rd_T31 l0 t1).f5)==a2)=false:=beq_eq_false_iff_ne.mpr c9
 have c9b1:(((rd_T31 l0 t1).f5) !=a2)=true:=bne_iff_ne.mpr c9
 obtain rfl:=Option.some.inj H
 go_enter Try.func147,Try.ntmps147
 go_wp2_with (first|((with_reducible refine gate_callee (f:=50) rfl ?_);refine gl_ (some 10) Try.func50 #[.slice A0 l0.length c0, .string a1] ?_;(with_reducible refine (r10_Find.calls k _ _ l0 a1 t1 _ ?side1 ?side2 A4.out).mono ?_);(case side1=>repeat (first|exact HR0.out|(with_reducible refine Kd.C_alloc ?_ _)|(with_reducible refine Kd.C_drewN ?_ _)|(with_reducible refine Kd.C_drew ?_)));(case side2=>exact HC0.out);rintro e w' ⟨rfl,⟨nd,rfl⟩⟩;refine ⟨_,rfl, ?_⟩;have p2:0≤(t1:Int):=of_decide_eq_true zq_;have q2:t1<(l0.length:Int):=of_decide_eq_true zq_;obtain ⟨ad2,e2,hx2_0,hx2_1,hx2_2,hx2_3,hx2_4,hx2_5,hx2_6,hx2_7,hx2_8,hx2_9,hx2_10,hx2_11⟩:=at_T31 HR0.out t1 p2 q2;cases e2;replace p2:=eq_true p2;replace q2:=eq_true q2))
 go_ret
 exact ⟨by first|rfl|(simp;done)|(simp [*];done),by repeat (first|exact Drawn0.refl _|apply Drawn0.step)⟩
def r10_Limit.f (k:Nat) (l0:List (S31)) (a1:ByteArray) (a2_0:Int) (a2_1:Int) (a2_2:Int) (a3:Int):Option ((List (S31))×Int):=(r10_MayVec.f a2_0 a2_1 a2_2).bind fun t3=>(if t3=true then ((r10_old.f k l0 a1 a3).bind fun t8=>(if t8=0 then ((r10_copied.f l0).bind fun t13=>((r10_Find.f k t13 a1).bind fun t16=>(if 0≤t16 then (if t16<(t13.length:Int) then (if ((rd_T31 t13 t16).f5)≥9007199254740992 then ((r10_no.f 4).bind fun bt18=>(some (bt18.1,bt18.2))) else ((r10_Le.f ((rd_T31 t13 t16).f4.f0) ((rd_T31 t13 t16).f4.f1) ((rd_T31 t13 t16).f4.f2) a2_0 a2_1 a2_2).bind fun t23=>(if t23=true then ((some (t13.set (t16:Int).toNat (⟨(rd_T31 t13 t16).f0,(rd_T31 t13 t16).f1,(⟨a2_0,a2_1,a2_2⟩:S27),(⟨(rd_T31 t13 t16).f3.f0,(rd_T31 t13 t16).f3.f1,(rd_T31 t13 t16).f3.f2⟩:S27),(⟨(rd_T31 t13 t16).f4.f0,(rd_T31 t13 t16).f4.f1,(rd_T31 t13 t16).f4.f2⟩:S27),(rd_T31 t13 t16).f5⟩:S31):List (S31))).bind fun y24=>(some ((y24.set (t16:Int).toNat (⟨(rd_T31 y24 t16).f0,(rd_T31 y24 t16).f1,(⟨(rd_T31 y24 t16).f2.f0,(rd_T31 y24 t16).f2.f1,(rd_T31 y24 t16).f2.f2⟩:S27),(⟨(rd_T31 y24 t16).f3.f0,(rd_T31 y24 t16).f3.f1,(rd_T31 y24 t16).f3.f2⟩:S27),(⟨(rd_T31 y24 t16).f4.f0,(rd_T31 y24 t16).f4.f1,(rd_T31 y24 t16).f4.f2⟩:S27),wrap64 (((rd_T31 y24 t16).f5)+1)⟩:S31)),0))) else ((r10_no.f 12).bind fun bt27=>(some (bt27.1,bt27.2)))))) else (none)) else (none)))) else ((r10_no.f t8).bind fun bt9=>(some (bt9.1,bt9.2))))) else ((r10_no.f 1).bind fun bt4=>(some (bt4.1,bt4.2))))
theorem r10_Limit.mono: ∀a0 a1 a2 a3 a4 a5 k,LeO (r10_Limit.f k a0 a1 a2 a3 a4 a5) (r10_Limit.f (k+1) a0 a1 a2 a3 a4 a5):=by
 intro a0 a1 a2 a3 a4 a5 k
 unfold r10_Limit.f
 repeat' first
  |(with_reducible exact r10_Find.mono _ _ _)
  |(with_reducible exact r10_old.mono _ _ _ _)
  |(with_reducible exact LeO.refl _)
  |(with_reducible exact LeO.none _)
  |(with_reducible refine LeO.ite ?_ ?_)
  |(with_reducible refine LeO.bind ?_ (fun _=> ?_))
  |exact r10_Find.mono _ _ _
  |exact r10_old.mono _ _ _ _
  |exact LeO.none _
  |refine LeO.ite ?_ ?_
  |refine LeO.bind ?_ (fun _=> ?_)
def r10_Limit.T10:Bool×List (List Nat×List Nat):=(true,[([],[]),([],[]),([0,1],[0,1]),([2],[2]),([3],[3]),([],[]),([4,5],[4,5]),([6],[6]),([7,6],[7])])
def r10_Limit.B10:List Nat:=[0,0,3,7,15,0,63,127,255]
theorem r10_Limit.tab10:rtab .any (opsOf Try.f91 10)=r10_Limit.T10:=by kernel_rfl
theorem r10_Limit.bits10:waitsOk r10_Limit.T10.2 r10_Limit.B10=true:=by kernel_rfl
set_option maxHeartbeats 8000000 in
set_option maxRecDepth 100000 in
theorem r10_Limit.calls (k:Nat) (A0:Option Addr) (c0:Nat) (l0:List (S31)) (a1:ByteArray) (a2_0:Int) (a2_1:Int) (a2_2:Int) (a3:Int) (r1:List (S31)) (r2:Int) (w:World) (hr0:Kd.C k31 w A0 l0.length l0) (hc0:l0.length≤c0) (h:r10_Limit.f k l0 a1 a2_0 a2_1 a2_2 a3=some (r1,r2)):
  Calls Try.prog 91 #[.slice A0 l0.length c0, .string a1, .agg #[.int .i64 a2_0, .int .i64 a2_1, .int .i64 a2_2], .int .i64 a3] w fun e w'=> ∃v0_:Value,e= .returned (.agg #[v0_, .int .i64 r2])∧Kd.R k31 31 w' w.heap.size (fun _=>True) v0_ r1∧Below w.heap.size w w':=by
 have HR0:=Aside0.mk hr0
 have HC0:=Aside0.mk hc0
 clear hr0 hc0
 have HB:=am_ (Below.refl w.heap.size w)
 have H:((r10_MayVec.f a2_0 a2_1 a2_2).bind fun t3=>(if t3=true then ((r10_old.f k l0 a1 a3).bind fun t8=>(if t8=0 then ((r10_copied.f l0).bind fun t13=>((r10_Find.f k t13 a1).bind fun t16=>(if 0≤t16 then (if t16<(t13.length:Int) then (if ((rd_T31 t13 t16).f5)≥9007199254740992 then ((r10_no.f 4).bind fun bt18=>(some (bt18.1,bt18.2))) else ((r10_Le.f ((rd_T31 t13 t16).f4.f0) ((rd_T31 t13 t16).f4.f1) ((rd_T31 t13 t16).f4.f2) a2_0 a2_1 a2_2).bind fun t23=>(if t23=true then ((some (t13.set (t16:Int).toNat (⟨(rd_T31 t13 t16).f0,(rd_T31 t13 t16).f1,(⟨a2_0,a2_1,a2_2⟩:S27),(⟨(rd_T31 t13 t16).f3.f0,(rd_T31 t13 t16).f3.f1,(rd_T31 t13 t16).f3.f2⟩:S27),(⟨(rd_T31 t13 t16).f4.f0,(rd_T31 t13 t16).f4.f1,(rd_T31 t13 t16).f4.f2⟩:S27),(rd_T31 t13 t16).f5⟩:S31):List (S31))).bind fun y24=>(some ((y24.set (t16:Int).toNat (⟨(rd_T31 y24 t16).f0,(rd_T31 y24 t16).f1,(⟨(rd_T31 y24 t16).f2.f0,(rd_T31 y24 t16).f2.f1,(rd_T31 y24 t16).f2.f2⟩:S27),(⟨(rd_T31 y24 t16).f3.f0,(rd_T31 y24 t16).f3.f1,(rd_T31 y24 t16).f3.f2⟩:S27),(⟨(rd_T31 y24 t16).f4.f0,(rd_T31 y24 t16).f4.f1,(rd_T31 y24 t16).f4.f2⟩:S27),wrap64 (((rd_T31 y24 t16).f5)+1)⟩:S31)),0))) else ((r10_no.f 12).bind fun bt27=>(some (bt27.1,bt27.2)))))) else (none)) else (none)))) else ((r10_no.f t8).bind fun bt9=>(some (bt9.1,bt9.2))))) else ((r10_no.f 1).bind fun bt4=>(some (bt4.1,bt4.2)))))=some (r1,r2):=h
 clear h
 replace H:=Option.bind_eq_some_iff.mp H
 obtain ⟨t3,A50,H⟩:=H
 try dsimp only at H
 have A5:=Aside0.mk A50
 clear A50
 by_cases c6:t3=true
 rotate_left
 ·replace c6:=Bool.eq_false_iff.mpr c6
  subst c6
  have H1:((r10_no.f 1).bind fun bt4=>(some (bt4.1,bt4.2)))=some (r1,r2):=by rw [if_neg (show¬(false=true) by decide)] at H;exact H
  clear H
  have H:=H1
  clear H1
  replace H:=Option.bind_eq_some_iff.mp H
  obtain ⟨⟨t4,t7⟩,A660,H⟩:=H
  try dsimp only at H
  have A66:=Aside0.mk A660
  clear A660
  simp only [Option.some.injEq,Prod.mk.injEq] at H
  obtain ⟨rfl,rfl⟩:=H
  go_enter Try.func91,Try.ntmps91
  go_wp2_with (first|((with_reducible refine gate_dst (N:=6) rfl ?_);refine bx_ (N:=6) (cs:=#[.int .i64 a2_0, .int .i64 a2_1, .int .i64 a2_2]) (t:=27) ?_;intro gb1 hg w67 hbox hb;have n0_:=am_ (below_step (zl0_ HB) hb);have n1_:=am_ (hbox);have n2_:=am_ ((zg0_ HB hg:w.heap.size≤gb1));have n3_:=am_ ((zg0_ HB hg:w.heap.size≤gb1));clear HB;have HB:=n0_;have BK1:=n1_;have GE1:=n3_;clear n0_ n1_ n2_ n3_;clear hb hbox hg)|((with_reducible refine gate_dst (N:=8) rfl ?_);refine bx_ (N:=8) (cs:=#[.slice none 0 0, .int .i64 0]) (t:=67) ?_;intro gb2 hg w68 hbox hb;have n0_:=am_ (blk_below (zb_ BK1) hb);have n1_:=am_ (below_step (zl1_ HB GE1) hb);have n2_:=am_ (hbox);have n3_:=am_ ((zg1_ HB GE1 hg:w.heap.size≤gb2));have n4_:=am_ ((zg1_ HB GE1 hg:w.heap.size≤gb2));have n5_:=am_ ((zn_ BK1 hg:gb1≠gb2));have n6_:=am_ ((zm_ BK1 hg:gb2≠gb1));clear BK1;clear HB;have BK1:=n0_;have HB:=n1_;have BK2:=n2_;have GE2:=n4_;clear n0_ n1_ n2_ n3_ n4_ n5_ n6_;clear hb hbox hg;obtain ⟨hcz70_0,hcz70_1,hcz70_2⟩:=x3_ BK1)|((with_reducible refine gate_callee (f:=65) rfl ?_);refine gl_ (some 13) Try.func65 #[.agg #[.int .i64 a2_0, .int .i64 a2_1, .int .i64 a2_2]] ?_;(with_reducible refine (r10_MayVec.calls a2_0 a2_1 a2_2 false _ A5.out).mono ?_);rintro e w71 ⟨rfl,hb⟩;refine ⟨_,rfl, ?_⟩;replace BK1:=am_ (blk_below (zb_ BK1) hb);replace BK2:=am_ (blk_below (zb_ BK2) hb);replace HB:=am_ (below_step (zl2_ HB GE1 GE2) hb);(try clear hb);(try clear hb2);(try clear hk);(try clear hi))|((with_reducible refine gate_callee (f:=113) rfl ?_);refine gl_ (some 15) Try.func113 #[.int .i64 1] ?_;(with_reducible refine (r10_no.calls 1 t4 t7 _ A66.out).mono ?_);rintro e w72 ⟨v5,rfl,ho0,hb⟩;refine ⟨_,rfl, ?_⟩;have HO6:=am_ (Kd.R_lower ho0 (below_size (zl2_ HB GE1 GE2)));replace BK1:=am_ (blk_below (zb_ BK1) hb);replace BK2:=am_ (blk_below (zb_ BK2) hb);replace HB:=am_ (below_step (zl2_ HB GE1 GE2) hb);(try clear hb);(try clear hb2);(try clear hk);(try clear hi);(try clear ho0);obtain ⟨Ao73,co73,eo73⟩:=Kd.R_slice HO6.out;subst eo73;obtain ⟨hcz74_0,hcz74_1⟩:=x2_ BK2;have hfz74_0:=blk_frozen BK2.out 0;have hfz74_1:=blk_frozen BK2.out 1))
  refine bodyPost_ret (results_cell_row rfl _ _ gb2 67 #[.slice Ao73 t4.length co73, .int .i64 t7] (0,0) _ rfl (zw_ BK2) Try.underlying67 rfl (by kernel_rfl)) rfl ?_
  exact ⟨_,by first|rfl|(simp [errW_none,errW_some]<;>rfl)|(simp [*,errW_none,errW_some]<;>rfl),zy_ HO6 BK2,zl2_ HB GE1 GE2⟩

 subst c6
 have H1:((r10_old.f k l0 a1 a3).bind fun t8=>(if t8=0 then ((r10_copied.f l0).bind fun t13=>((r10_Find.f k t13 a1).bind fun t16=>(if 0≤t16 then (if t16<(t13.length:Int) then (if ((rd_T31 t13 t16).f5)≥9007199254740992 then ((r10_no.f 4).bind fun bt18=>(some (bt18.1,bt18.2))) else ((r10_Le.f ((rd_T31 t13 t16).f4.f0) ((rd_T31 t13 t16).f4.f1) ((rd_T31 t13 t16).f4.f2) a2_0 a2_1 a2_2).bind fun t23=>(if t23=true then ((some (t13.set (t16:Int).toNat (⟨(rd_T31 t13 t16).f0,(rd_T31 t13 t16).f1,(⟨a2_0,a2_1,a2_2⟩:S27),(⟨(rd_T31 t13 t16).f3.f0,(rd_T31 t13 t16).f3.f1,(rd_T31 t13 t16).f3.f2⟩:S27),(⟨(rd_T31 t13 t16).f4.f0,(rd_T31 t13 t16).f4.f1,(rd_T31 t13 t16).f4.f2⟩:S27),(rd_T31 t13 t16).f5⟩:S31):List (S31))).bind fun y24=>(some ((y24.set (t16:Int).toNat (⟨(rd_T31 y24 t16).f0,(rd_T31 y24 t16).f1,(⟨(rd_T31 y24 t16).f2.f0,(rd_T31 y24 t16).f2.f1,(rd_T31 y24 t16).f2.f2⟩:S27),(⟨(rd_T31 y24 t16).f3.f0,(rd_T31 y24 t16).f3.f1,(rd_T31 y24 t16).f3.f2⟩:S27),(⟨(rd_T31 y24 t16).f4.f0,(rd_T31 y24 t16).f4.f1,(rd_T31 y24 t16).f4.f2⟩:S27),wrap64 (((rd_T31 y24 t16).f5)+1)⟩:S31)),0))) else ((r10_no.f 12).bind fun bt27=>(some (bt27.1,bt27.2)))))) else (none)) else (none)))) else ((r10_no.f t8).bind fun bt9=>(some (bt9.1,bt9.2)))))=some (r1,r2):=by rw [if_pos rfl] at H;exact H
 clear H
 have H:=H1
 clear H1
 replace H:=Option.bind_eq_some_iff.mp H
 obtain ⟨t8,A70,H⟩:=H
 try dsimp only at H
 have A7:=Aside0.mk A70
 clear A70
 by_cases c8:t8=0
 rotate_left
 ·rw [if_neg c8] at H
  have c8b1:(t8 !=0)=true:=bne_iff_ne.mpr c8
  replace H:=Option.bind_eq_some_iff.mp H
  obtain ⟨⟨t9,t12⟩,A570,H⟩:=H
  try dsimp only at H
  have A57:=Aside0.mk A570
  clear A570
  simp only [Option.some.injEq,Prod.mk.injEq] at H
  obtain ⟨rfl,rfl⟩:=H
  go_enter Try.func91,Try.ntmps91
  go_wp2_with (first|((with_reducible refine gate_dst (N:=6) rfl ?_);refine bx_ (N:=6) (cs:=#[.int .i64 a2_0, .int .i64 a2_1, .int .i64 a2_2]) (t:=27) ?_;intro gb1 hg w58 hbox hb;have n0_:=am_ (below_step (zl0_ HB) hb);have n1_:=am_ (hbox);have n2_:=am_ ((zg0_ HB hg:w.heap.size≤gb1));have n3_:=am_ ((zg0_ HB hg:w.heap.size≤gb1));clear HB;have HB:=n0_;have BK1:=n1_;have GE1:=n3_;clear n0_ n1_ n2_ n3_;clear hb hbox hg)|((with_reducible refine gate_dst (N:=8) rfl ?_);refine bx_ (N:=8) (cs:=#[.slice none 0 0, .int .i64 0]) (t:=67) ?_;intro gb2 hg w59 hbox hb;have n0_:=am_ (blk_below (zb_ BK1) hb);have n1_:=am_ (below_step (zl1_ HB GE1) hb);have n2_:=am_ (hbox);have n3_:=am_ ((zg1_ HB GE1 hg:w.heap.size≤gb2));have n4_:=am_ ((zg1_ HB GE1 hg:w.heap.size≤gb2));have n5_:=am_ ((zn_ BK1 hg:gb1≠gb2));have n6_:=am_ ((zm_ BK1 hg:gb2≠gb1));clear BK1;clear HB;have BK1:=n0_;have HB:=n1_;have BK2:=n2_;have GE2:=n4_;clear n0_ n1_ n2_ n3_ n4_ n5_ n6_;clear hb hbox hg;obtain ⟨hcz61_0,hcz61_1,hcz61_2⟩:=x3_ BK1)|((with_reducible refine gate_callee (f:=65) rfl ?_);refine gl_ (some 13) Try.func65 #[.agg #[.int .i64 a2_0, .int .i64 a2_1, .int .i64 a2_2]] ?_;(with_reducible refine (r10_MayVec.calls a2_0 a2_1 a2_2 true _ A5.out).mono ?_);rintro e w62 ⟨rfl,hb⟩;refine ⟨_,rfl, ?_⟩;replace BK1:=am_ (blk_below (zb_ BK1) hb);replace BK2:=am_ (blk_below (zb_ BK2) hb);replace HB:=am_ (below_step (zl2_ HB GE1 GE2) hb);(try clear hb);(try clear hb2);(try clear hk);(try clear hi))|((with_reducible refine gate_callee (f:=147) rfl ?_);refine gl_ (some 19) Try.func147 #[.slice A0 l0.length c0, .string a1, .int .i64 a3] ?_;(with_reducible refine (r10_old.calls k _ _ l0 a1 a3 t8 _ ?side1 ?side2 A7.out).mono ?_);(case side1=>exact zc_ (Kd.C_below HR0.out HB.out));(case side2=>exact HC0.out);rintro e w' ⟨rfl,⟨nd,rfl⟩⟩;refine ⟨_,rfl, ?_⟩;(try (rw [drewN_self w62];generalize hq_:World.drewN w62 _=w62;have n0_:Aside0 (w62.heap[gb1]?=some (.cells #[.int .i64 a2_0, .int .i64 a2_1, .int .i64 a2_2] 27 (0,0))):=⟨by rw [←hq_];exact (zb_ BK1)⟩;have n1_:Aside0 (w62.heap[gb2]?=some (.cells #[.slice none 0 0, .int .i64 0] 67 (0,0))):=⟨by rw [←hq_];exact (zb_ BK2)⟩;have n2_:Aside0 (Below w.heap.size w w62):=⟨by rw [←hq_];exact (zl2_ HB GE1 GE2)⟩;clear BK1 BK2 HB hq_;have BK1:=n0_;have BK2:=n1_;have HB:=n2_;clear n0_ n1_ n2_)))|((with_reducible refine gate_callee (f:=113) rfl ?_);refine gl_ (some 23) Try.func113 #[.int .i64 t8] ?_;(with_reducible refine (r10_no.calls t8 t9 t12 _ A57.out).mono ?_);rintro e w63 ⟨v10,rfl,ho0,hb⟩;refine ⟨_,rfl, ?_⟩;have HO11:=am_ (Kd.R_lower ho0 (below_size (zl2_ HB GE1 GE2)));replace BK1:=am_ (blk_below (zb_ BK1) hb);replace BK2:=am_ (blk_below (zb_ BK2) hb);replace HB:=am_ (below_step (zl2_ HB GE1 GE2) hb);(try clear hb);(try clear hb2);(try clear hk);(try clear hi);(try clear ho0);obtain ⟨Ao64,co64,eo64⟩:=Kd.R_slice HO11.out;subst eo64;obtain ⟨hcz65_0,hcz65_1⟩:=x2_ BK2;have hfz65_0:=blk_frozen BK2.out 0;have hfz65_1:=blk_frozen BK2.out 1))
  refine bodyPost_ret (results_cell_row rfl _ _ gb2 67 #[.slice Ao64 t9.length co64, .int .i64 t12] (0,0) _ rfl (zw_ BK2) Try.underlying67 rfl (by kernel_rfl)) rfl ?_
  exact ⟨_,by first|rfl|(simp [errW_none,errW_some]<;>rfl)|(simp [*,errW_none,errW_some]<;>rfl),zy_ HO11 BK2,zl2_ HB GE1 GE2⟩
 rw [if_pos c8] at H
 have c8b1:(t8 !=0)=false:=bne_eq_false_iff_eq.mpr c8
 clear c8
 replace H:=Option.bind_eq_some_iff.mp H
 obtain ⟨t13,A90,H⟩:=H
 try dsimp only at H
 have A9:=Aside0.mk A90
 clear A90
 replace H:=Option.bind_eq_some_iff.mp H
 obtain ⟨t16,A100,H⟩:=H
 try dsimp only at H
 have A10:=Aside0.mk A100
 clear A100
 by_cases c11:0≤t16
 rotate_left
 ·rw [if_neg c11] at H
  exact absurd H (by simp)
 rw [if_pos c11] at H
 have c11b0:decide (0≤t16)=true:=decide_eq_true c11
 clear c11
 by_cases c12:t16<(t13.length:Int)
 rotate_left
 ·rw [if_neg c12] at H
  exact absurd H (by simp)
 rw [if_pos c12] at H
 have c12b0:decide (t16<(t13.length:Int))=true:=decide_eq_true c12
 clear c12
 by_cases c13:((rd_T31 t13 t16).f5)≥9007199254740992
 ·rw [if_pos c13] at H
  have c13b0:decide (9007199254740992≤((rd_T31 t13 t16).f5))=true:=decide_eq_true c13
  clear c13
  replace H:=Option.bind_eq_some_iff.mp H
  obtain ⟨⟨t18,t21⟩,A140,H⟩:=H
  try dsimp only at H
  have A14:=Aside0.mk A140
  clear A140
  simp only [Option.some.injEq,Prod.mk.injEq] at H
  obtain ⟨rfl,rfl⟩:=H
  go_enter Try.func91,Try.ntmps91
  go_wp2_with (first|((with_reducible refine gate_dst (N:=6) rfl ?_);refine bx_ (N:=6) (cs:=#[.int .i64 a2_0, .int .i64 a2_1, .int .i64 a2_2]) (t:=27) ?_;intro gb1 hg w15 hbox hb;have n0_:=am_ (below_step (zl0_ HB) hb);have n1_:=am_ (hbox);have n2_:=am_ ((zg0_ HB hg:w.heap.size≤gb1));have n3_:=am_ ((zg0_ HB hg:w.heap.size≤gb1));clear HB;have HB:=n0_;have BK1:=n1_;have GE1:=n3_;clear n0_ n1_ n2_ n3_;clear hb hbox hg)|((with_reducible refine gate_dst (N:=8) rfl ?_);refine bx_ (N:=8) (cs:=#[.slice none 0 0, .int .i64 0]) (t:=67) ?_;intro gb2 hg w16 hbox hb;have n0_:=am_ (blk_below (zb_ BK1) hb);have n1_:=am_ (below_step (zl1_ HB GE1) hb);have n2_:=am_ (hbox);have n3_:=am_ ((zg1_ HB GE1 hg:w.heap.size≤gb2));have n4_:=am_ ((zg1_ HB GE1 hg:w.heap.size≤gb2));have n5_:=am_ ((zn_ BK1 hg:gb1≠gb2));have n6_:=am_ ((zm_ BK1 hg:gb2≠gb1));clear BK1;clear HB;have BK1:=n0_;have HB:=n1_;have BK2:=n2_;have GE2:=n4_;clear n0_ n1_ n2_ n3_ n4_ n5_ n6_;clear hb hbox hg;obtain ⟨hcz18_0,hcz18_1,hcz18_2⟩:=x3_ BK1)|((with_reducible refine gate_callee (f:=65) rfl ?_);refine gl_ (some 13) Try.func65 #[.agg #[.int .i64 a2_0, .int .i64 a2_1, .int .i64 a2_2]] ?_;(with_reducible refine (r10_MayVec.calls a2_0 a2_1 a2_2 true _ A5.out).mono ?_);rintro e w19 ⟨rfl,hb⟩;refine ⟨_,rfl, ?_⟩;replace BK1:=am_ (blk_below (zb_ BK1) hb);replace BK2:=am_ (blk_below (zb_ BK2) hb);replace HB:=am_ (below_step (zl2_ HB GE1 GE2) hb);(try clear hb);(try clear hb2);(try clear hk);(try clear hi))|((with_reducible refine gate_callee (f:=147) rfl ?_);refine gl_ (some 19) Try.func147 #[.slice A0 l0.length c0, .string a1, .int .i64 a3] ?_;(with_reducible refine (r10_old.calls k _ _ l0 a1 a3 t8 _ ?side1 ?side2 A7.out).mono ?_);(case side1=>exact zc_ (Kd.C_below HR0.out HB.out));(case side2=>exact HC0.out);rintro e w' ⟨rfl,⟨nd,rfl⟩⟩;refine ⟨_,rfl, ?_⟩;(try (rw [drewN_self w19];generalize hq_:World.drewN w19 _=w19;have n0_:Aside0 (w19.heap[gb1]?=some (.cells #[.int .i64 a2_0, .int .i64 a2_1, .int .i64 a2_2] 27 (0,0))):=⟨by rw [←hq_];exact (zb_ BK1)⟩;have n1_:Aside0 (w19.heap[gb2]?=some (.cells #[.slice none 0 0, .int .i64 0] 67 (0,0))):=⟨by rw [←hq_];exact (zb_ BK2)⟩;have n2_:Aside0 (Below w.heap.size w w19):=⟨by rw [←hq_];exact (zl2_ HB GE1 GE2)⟩;clear BK1 BK2 HB hq_;have BK1:=n0_;have BK2:=n1_;have HB:=n2_;clear n0_ n1_ n2_)))|((with_reducible refine gate_callee (f:=124) rfl ?_);refine gl_ (some 25) Try.func124 #[.slice A0 l0.length c0] ?_;(with_reducible refine (r10_copied.calls _ _ l0 t13 _ ?side1 ?side2 A9.out).mono ?_);(case side1=>exact zc_ (Kd.C_below HR0.out HB.out));(case side2=>exact HC0.out);rintro e w20 ⟨v14,rfl,ho0,hb⟩;refine ⟨_,rfl, ?_⟩;have HO15:=am_ (Kd.R_lower ho0 (below_size (zl2_ HB GE1 GE2)));replace BK1:=am_ (blk_below (zb_ BK1) hb);replace BK2:=am_ (blk_below (zb_ BK2) hb);replace HB:=am_ (below_step (zl2_ HB GE1 GE2) hb);(try clear hb);(try clear hb2);(try clear hk);(try clear hi);(try clear ho0);obtain ⟨Ao21,co21,eo21⟩:=Kd.R_slice HO15.out;subst eo21)|((with_reducible refine gate_callee (f:=50) rfl ?_);refine gl_ (some 28) Try.func50 #[.slice Ao21 t13.length co21, .string a1] ?_;(with_reducible refine (r10_Find.calls k _ _ t13 a1 t16 _ ?side1 ?side2 A10.out).mono ?_);(case side1=>exact zc_ (Kd.R_reads' HO15.out).2.2);(case side2=>exact (Kd.R_reads' HO15.out).2.1);rintro e w' ⟨rfl,⟨nd,rfl⟩⟩;refine ⟨_,rfl, ?_⟩;(try (rw [drewN_self w20];generalize hq_:World.drewN w20 _=w20;have n0_:Aside0 (Kd.R k31 31 w20 w.heap.size (fun _=>True) (.slice Ao21 t13.length co21) t13):=⟨by rw [←hq_];exact (zr_ HO15)⟩;have n1_:Aside0 (w20.heap[gb1]?=some (.cells #[.int .i64 a2_0, .int .i64 a2_1, .int .i64 a2_2] 27 (0,0))):=⟨by rw [←hq_];exact (zb_ BK1)⟩;have n2_:Aside0 (w20.heap[gb2]?=some (.cells #[.slice none 0 0, .int .i64 0] 67 (0,0))):=⟨by rw [←hq_];exact (zb_ BK2)⟩;have n3_:Aside0 (Below w.heap.size w w20):=⟨by rw [←hq_];exact (zl2_ HB GE1 GE2)⟩;clear HO15 BK1 BK2 HB hq_;have HO15:=n0_;have BK1:=n1_;have BK2:=n2_;have HB:=n3_;clear n0_ n1_ n2_ n3_));have p17:0≤(t16:Int):=of_decide_eq_true zq_;have q17:t16<(t13.length:Int):=of_decide_eq_true zq_;obtain ⟨ad17,e17,hx17_0,hx17_1,hx17_2,hx17_3,hx17_4,hx17_5,hx17_6,hx17_7,hx17_8,hx17_9,hx17_10,hx17_11⟩:=at_T31 (Kd.R_reads' HO15.out).2.2 t16 p17 q17;cases e17;replace p17:=eq_true p17;replace q17:=eq_true q17)|((with_reducible refine gate_callee (f:=113) rfl ?_);refine gl_ (some 36) Try.func113 #[.int .i64 4] ?_;(with_reducible refine (r10_no.calls 4 t18 t21 _ A14.out).mono ?_);rintro e w22 ⟨v19,rfl,ho0,hb⟩;refine ⟨_,rfl, ?_⟩;have HO20:=am_ (Kd.R_lower (Kd.R_new' ho0 (Kd.R_lt (zr_ HO15))) (below_size (zl2_ HB GE1 GE2)));replace HO15:=am_ (Kd.R_elder' (zr_ HO15) (Kd.R_base ho0) hb);replace BK1:=am_ (blk_below (zb_ BK1) hb);replace BK2:=am_ (blk_below (zb_ BK2) hb);replace HB:=am_ (below_step (zl2_ HB GE1 GE2) hb);(try clear hb);(try clear hb2);(try clear hk);(try clear hi);(try clear ho0);obtain ⟨Ao23,co23,eo23⟩:=Kd.R_slice HO20.out;subst eo23;obtain ⟨hcz24_0,hcz24_1⟩:=x2_ BK2;have hfz24_0:=blk_frozen BK2.out 0;have hfz24_1:=blk_frozen BK2.out 1))
  refine bodyPost_ret (results_cell_row rfl _ _ gb2 67 #[.slice Ao23 t18.length co23, .int .i64 t21] (0,0) _ rfl (zw_ BK2) Try.underlying67 rfl (by kernel_rfl)) rfl ?_
  exact ⟨_,by first|rfl|(simp [errW_none,errW_some]<;>rfl)|(simp [*,errW_none,errW_some]<;>rfl),zy_ HO20 BK2,zl2_ HB GE1 GE2⟩
 rw [if_neg c13] at H
 have c13b0:decide (9007199254740992≤((rd_T31 t13 t16).f5))=false:=decide_eq_false c13
 clear c13
 replace H:=Option.bind_eq_some_iff.mp H
 obtain ⟨t23,A250,H⟩:=H
 try dsimp only at H
 have A25:=Aside0.mk A250
 clear A250
 by_cases c26:t23=true
 rotate_left
 ·replace c26:=Bool.eq_false_iff.mpr c26
  subst c26
  have H1:((r10_no.f 12).bind fun bt27=>(some (bt27.1,bt27.2)))=some (r1,r2):=by rw [if_neg (show¬(false=true) by decide)] at H;exact H
  clear H
  have H:=H1
  clear H1
  replace H:=Option.bind_eq_some_iff.mp H
  obtain ⟨⟨t27,t30⟩,A440,H⟩:=H
  try dsimp only at H
  have A44:=Aside0.mk A440
  clear A440
  simp only [Option.some.injEq,Prod.mk.injEq] at H
  obtain ⟨rfl,rfl⟩:=H
  go_enter Try.func91,Try.ntmps91
  try go_wp2_with (first|((with_reducible refine gate_dst (N:=6) rfl ?_);refine bx_ (N:=6) (cs:=#[.int .i64 a2_0, .int .i64 a2_1, .int .i64 a2_2]) (t:=27) ?_;intro gb1 hg w45 hbox hb;have n0_:=am_ (below_step (zl0_ HB) hb);have n1_:=am_ (hbox);have n2_:=am_ ((zg0_ HB hg:w.heap.size≤gb1));have n3_:=am_ ((zg0_ HB hg:w.heap.size≤gb1));clear HB;have HB:=n0_;have BK1:=n1_;have GE1:=n3_;clear n0_ n1_ n2_ n3_;clear hb hbox hg)|((with_reducible refine gate_dst (N:=8) rfl ?_);refine bx_ (N:=8) (cs:=#[.slice none 0 0, .int .i64 0]) (t:=67) ?_;intro gb2 hg w46 hbox hb;have n0_:=am_ (blk_below (zb_ BK1) hb);have n1_:=am_ (below_step (zl1_ HB GE1) hb);have n2_:=am_ (hbox);have n3_:=am_ ((zg1_ HB GE1 hg:w.heap.size≤gb2));have n4_:=am_ ((zg1_ HB GE1 hg:w.heap.size≤gb2));have n5_:=am_ ((zn_ BK1 hg:gb1≠gb2));have n6_:=am_ ((zm_ BK1 hg:gb2≠gb1));clear BK1;clear HB;have BK1:=n0_;have HB:=n1_;have BK2:=n2_;have GE2:=n4_;clear n0_ n1_ n2_ n3_ n4_ n5_ n6_;clear hb hbox hg;obtain ⟨hcz48_0,hcz48_1,hcz48_2⟩:=x3_ BK1)|((with_reducible refine gate_callee (f:=65) rfl ?_);refine gl_ (some 13) Try.func65 #[.agg #[.int .i64 a2_0, .int .i64 a2_1, .int .i64 a2_2]] ?_;(with_reducible refine (r10_MayVec.calls a2_0 a2_1 a2_2 true _ A5.out).mono ?_);rintro e w49 ⟨rfl,hb⟩;refine ⟨_,rfl, ?_⟩;replace BK1:=am_ (blk_below (zb_ BK1) hb);replace BK2:=am_ (blk_below (zb_ BK2) hb);replace HB:=am_ (below_step (zl2_ HB GE1 GE2) hb);(try clear hb);(try clear hb2);(try clear hk);(try clear hi))|((with_reducible refine gate_callee (f:=147) rfl ?_);refine gl_ (some 19) Try.func147 #[.slice A0 l0.length c0, .string a1, .int .i64 a3] ?_;(with_reducible refine (r10_old.calls k _ _ l0 a1 a3 t8 _ ?side1 ?side2 A7.out).mono ?_);(case side1=>exact zc_ (Kd.C_below HR0.out HB.out));(case side2=>exact HC0.out);rintro e w' ⟨rfl,⟨nd,rfl⟩⟩;refine ⟨_,rfl, ?_⟩;(try (rw [drewN_self w49];generalize hq_:World.drewN w49 _=w49;have n0_:Aside0 (w49.heap[gb1]?=some (.cells #[.int .i64 a2_0, .int .i64 a2_1, .int .i64 a2_2] 27 (0,0))):=⟨by rw [←hq_];exact (zb_ BK1)⟩;have n1_:Aside0 (w49.heap[gb2]?=some (.cells #[.slice none 0 0, .int .i64 0] 67 (0,0))):=⟨by rw [←hq_];exact (zb_ BK2)⟩;have n2_:Aside0 (Below w.heap.size w w49):=⟨by rw [←hq_];exact (zl2_ HB GE1 GE2)⟩;clear BK1 BK2 HB hq_;have BK1:=n0_;have BK2:=n1_;have HB:=n2_;clear n0_ n1_ n2_)))|((with_reducible refine gate_callee (f:=124) rfl ?_);refine gl_ (some 25) Try.func124 #[.slice A0 l0.length c0] ?_;(with_reducible refine (r10_copied.calls _ _ l0 t13 _ ?side1 ?side2 A9.out).mono ?_);(case side1=>exact zc_ (Kd.C_below HR0.out HB.out));(case side2=>exact HC0.out);rintro e w50 ⟨v14,rfl,ho0,hb⟩;refine ⟨_,rfl, ?_⟩;have HO15:=am_ (Kd.R_lower ho0 (below_size (zl2_ HB GE1 GE2)));replace BK1:=am_ (blk_below (zb_ BK1) hb);replace BK2:=am_ (blk_below (zb_ BK2) hb);replace HB:=am_ (below_step (zl2_ HB GE1 GE2) hb);(try clear hb);(try clear hb2);(try clear hk);(try clear hi);(try clear ho0);obtain ⟨Ao51,co51,eo51⟩:=Kd.R_slice HO15.out;subst eo51)|((with_reducible refine gate_callee (f:=50) rfl ?_);refine gl_ (some 28) Try.func50 #[.slice Ao51 t13.length co51, .string a1] ?_;(with_reducible refine (r10_Find.calls k _ _ t13 a1 t16 _ ?side1 ?side2 A10.out).mono ?_);(case side1=>exact zc_ (Kd.R_reads' HO15.out).2.2);(case side2=>exact (Kd.R_reads' HO15.out).2.1);rintro e w' ⟨rfl,⟨nd,rfl⟩⟩;refine ⟨_,rfl, ?_⟩;(try (rw [drewN_self w50];generalize hq_:World.drewN w50 _=w50;have n0_:Aside0 (Kd.R k31 31 w50 w.heap.size (fun _=>True) (.slice Ao51 t13.length co51) t13):=⟨by rw [←hq_];exact (zr_ HO15)⟩;have n1_:Aside0 (w50.heap[gb1]?=some (.cells #[.int .i64 a2_0, .int .i64 a2_1, .int .i64 a2_2] 27 (0,0))):=⟨by rw [←hq_];exact (zb_ BK1)⟩;have n2_:Aside0 (w50.heap[gb2]?=some (.cells #[.slice none 0 0, .int .i64 0] 67 (0,0))):=⟨by rw [←hq_];exact (zb_ BK2)⟩;have n3_:Aside0 (Below w.heap.size w w50):=⟨by rw [←hq_];exact (zl2_ HB GE1 GE2)⟩;clear HO15 BK1 BK2 HB hq_;have HO15:=n0_;have BK1:=n1_;have BK2:=n2_;have HB:=n3_;clear n0_ n1_ n2_ n3_));have p17:0≤(t16:Int):=of_decide_eq_true zq_;have q17:t16<(t13.length:Int):=of_decide_eq_true zq_;obtain ⟨ad17,e17,hx17_0,hx17_1,hx17_2,hx17_3,hx17_4,hx17_5,hx17_6,hx17_7,hx17_8,hx17_9,hx17_10,hx17_11⟩:=at_T31 (Kd.R_reads' HO15.out).2.2 t16 p17 q17;cases e17;replace p17:=eq_true p17;replace q17:=eq_true q17))
  replace HO15:=am_ (Kd.R_drew HO15.out)
  replace BK1:=am_ (blk_drew BK1.out)
  replace BK2:=am_ (blk_drew BK2.out)
  replace HB:=am_ (below_drew1 HB.out)
  have p22:0≤(t16:Int):=of_decide_eq_true zq_
  have q22:t16<(t13.length:Int):=of_decide_eq_true zq_
  obtain ⟨ad22,e22,hx22_0,hx22_1,hx22_2,hx22_3,hx22_4,hx22_5,hx22_6,hx22_7,hx22_8,hx22_9,hx22_10,hx22_11⟩:=at_T31 (Kd.R_reads' HO15.out).2.2 t16 p22 q22
  obtain rfl:ad17=ad22:=(by injection e22)
  replace p22:=eq_true p22
  replace q22:=eq_true q22
  refine start_ (n:=9) (S:=fun w'=>w'.cell? ⟨gb1,0,none⟩=some (.int .i64 a2_0)∧w'.cell? ⟨gb1,1,none⟩=some (.int .i64 a2_1)∧w'.cell? ⟨gb1,2,none⟩=some (.int .i64 a2_2)∧w'.cell? (ad17.add ((t16).toNat*12))=some (.string ((rd_T31 t13 t16).f0))∧w'.cell? ⟨(ad17.add ((t16).toNat*12)).block,(ad17.add ((t16).toNat*12)).off+1,none⟩=some (.string ((rd_T31 t13 t16).f1))∧w'.cell? ⟨(ad17.add ((t16).toNat*12)).block,(ad17.add ((t16).toNat*12)).off+2,none⟩=some (.int .i64 ((rd_T31 t13 t16).f2.f0))∧w'.cell? ⟨(ad17.add ((t16).toNat*12)).block,(ad17.add ((t16).toNat*12)).off+3,none⟩=some (.int .i64 ((rd_T31 t13 t16).f2.f1))∧w'.cell? ⟨(ad17.add ((t16).toNat*12)).block,(ad17.add ((t16).toNat*12)).off+4,none⟩=some (.int .i64 ((rd_T31 t13 t16).f2.f2))∧w'.cell? ⟨(ad17.add ((t16).toNat*12)).block,(ad17.add ((t16).toNat*12)).off+5,none⟩=some (.int .i64 ((rd_T31 t13 t16).f3.f0))∧w'.cell? ⟨(ad17.add ((t16).toNat*12)).block,(ad17.add ((t16).toNat*12)).off+6,none⟩=some (.int .i64 ((rd_T31 t13 t16).f3.f1))∧w'.cell? ⟨(ad17.add ((t16).toNat*12)).block,(ad17.add ((t16).toNat*12)).off+7,none⟩=some (.int .i64 ((rd_T31 t13 t16).f3.f2))∧w'.cell? ⟨(ad17.add ((t16).toNat*12)).block,(ad17.add ((t16).toNat*12)).off+8,none⟩=some (.int .i64 ((rd_T31 t13 t16).f4.f0))∧w'.cell? ⟨(ad17.add ((t16).toNat*12)).block,(ad17.add ((t16).toNat*12)).off+9,none⟩=some (.int .i64 ((rd_T31 t13 t16).f4.f1))∧w'.cell? ⟨(ad17.add ((t16).toNat*12)).block,(ad17.add ((t16).toNat*12)).off+10,none⟩=some (.int .i64 ((rd_T31 t13 t16).f4.f2))∧w'.cell? ⟨(ad17.add ((t16).toNat*12)).block,(ad17.add ((t16).toNat*12)).off+11,none⟩=some (.int .i64 ((rd_T31 t13 t16).f5))) (ds:=[]) (bt_ 9 0) (by kernel_rfl) rfl rfl ⟨(blk_cell BK1.out 0).trans rfl,(blk_cell BK1.out 1).trans rfl,(blk_cell BK1.out 2).trans rfl,hx22_0,hx22_1,hx22_2,hx22_3,hx22_4,hx22_5,hx22_6,hx22_7,hx22_8,hx22_9,hx22_10,hx22_11⟩ (fun hHeld=> ?_);refine with_tabW r10_Limit.tab10 r10_Limit.bits10 (fun HT_ HW_=> ?_)
  generalize w50.drew=w52 at HO15 BK1 BK2 HB hx22_0 hx22_1 hx22_10 hx22_11 hx22_2 hx22_3 hx22_4 hx22_5 hx22_6 hx22_7 hx22_8 hx22_9 hHeld ⊢
  refine pu_ (i:=0) (N:=some 38) (bt_ 9 1) HT_ ?_
  refine pu_ (i:=1) (N:=some 39) (bt_ 9 3) HT_ ?_
  refine pu_ (i:=2) (N:=some 40) (bt_ 9 7) HT_ ?_
  refine pu_ (i:=3) (N:=some 41) (bt_ 9 15) HT_ ?_
  refine tk_ (i:=4) (N:=some 42) (bt_ 9 31) HT_ HW_ hHeld ?_
  refine tk_ (i:=5) (N:=some 43) (bt_ 9 63) HT_ HW_ hHeld ?_
  refine on_ (i:=6) (N:=some 44) (bt_ 9 127) HT_ (fun K hK=> ?_)
  refine gs_ Try.func34 #[.agg #[.int .i64 ((rd_T31 t13 t16).f4.f0), .int .i64 ((rd_T31 t13 t16).f4.f1), .int .i64 ((rd_T31 t13 t16).f4.f2)], .agg #[.int .i64 a2_0, .int .i64 a2_1, .int .i64 a2_2]] ?_
  with_reducible refine (r10_Le.calls ((rd_T31 t13 t16).f4.f0) ((rd_T31 t13 t16).f4.f1) ((rd_T31 t13 t16).f4.f2) a2_0 a2_1 a2_2 false _ A25.out).mono ?_
  rintro e w53 ⟨rfl,hb⟩
  have HS3_:=zh_ hb (hHeld.2.2.2.1)
  have HS4_:=zh_ hb (hHeld.2.2.2.2.1)
  have HS5_:=zh_ hb (hHeld.2.2.2.2.2.1)
  have HS6_:=zh_ hb (hHeld.2.2.2.2.2.2.1)
  have HS7_:=zh_ hb (hHeld.2.2.2.2.2.2.2.1)
  have HS8_:=zh_ hb (hHeld.2.2.2.2.2.2.2.2.1)
  have HS9_:=zh_ hb (hHeld.2.2.2.2.2.2.2.2.2.1)
  have HS10_:=zh_ hb (hHeld.2.2.2.2.2.2.2.2.2.2.1)
  have HS11_:=zh_ hb (hHeld.2.2.2.2.2.2.2.2.2.2.2.1)
  have HS12_:=zh_ hb (hHeld.2.2.2.2.2.2.2.2.2.2.2.2.1)
  have HS13_:=zh_ hb (hHeld.2.2.2.2.2.2.2.2.2.2.2.2.2.1)
  have HS14_:=zh_ hb (hHeld.2.2.2.2.2.2.2.2.2.2.2.2.2.2)
  refine ⟨_,rfl, ?_⟩
  replace HO15:=am_ (Kd.R_below (zr_ HO15) hb)
  replace BK1:=am_ (blk_below (zb_ BK1) hb)
  replace BK2:=am_ (blk_below (zb_ BK2) hb)
  replace HB:=am_ (below_step (zl2_ HB GE1 GE2) hb)
  (try clear hb)
  (try clear hb2)
  (try clear hk)
  (try clear hi)
  refine hK.out _ _ ⟨(blk_cell BK1.out 0).trans rfl,(blk_cell BK1.out 1).trans rfl,(blk_cell BK1.out 2).trans rfl,HS3_,HS4_,HS5_,HS6_,HS7_,HS8_,HS9_,HS10_,HS11_,HS12_,HS13_,HS14_⟩ (fun hHeld=> ?_)
  clear hK K
  refine no_ (N:=some 44) ?_
  refine pu_ (i:=7) (N:=some 45) (bt_ 9 255) HT_ ?_
  refine pu_ (i:=8) (N:=some 37) (bt_ 9 511) HT_ ?_
  refine done_ (done_of HT_.out (by kernel_rfl)) ?_
  try go_wp2_with (first|((with_reducible refine gate_callee (f:=113) rfl ?_);refine gl_ (some 46) Try.func113 #[.int .i64 12] ?_;(with_reducible refine (r10_no.calls 12 t27 t30 _ A44.out).mono ?_);rintro e w54 ⟨v28,rfl,ho0,hb⟩;refine ⟨_,rfl, ?_⟩;have HO29:=am_ (Kd.R_lower (Kd.R_new' ho0 (Kd.R_lt (zr_ HO15))) (below_size (zl2_ HB GE1 GE2)));replace HO15:=am_ (Kd.R_elder' (zr_ HO15) (Kd.R_base ho0) hb);replace BK1:=am_ (blk_below (zb_ BK1) hb);replace BK2:=am_ (blk_below (zb_ BK2) hb);replace HB:=am_ (below_step (zl2_ HB GE1 GE2) hb);(try clear hb);(try clear hb2);(try clear hk);(try clear hi);(try clear ho0);obtain ⟨Ao55,co55,eo55⟩:=Kd.R_slice HO29.out;subst eo55;obtain ⟨hcz56_0,hcz56_1⟩:=x2_ BK2;have hfz56_0:=blk_frozen BK2.out 0;have hfz56_1:=blk_frozen BK2.out 1))
  refine bodyPost_ret (results_cell_row rfl _ _ gb2 67 #[.slice Ao55 t27.length co55, .int .i64 t30] (0,0) _ rfl (zw_ BK2) Try.underlying67 rfl (by kernel_rfl)) rfl ?_
  exact ⟨_,by first|rfl|(simp [errW_none,errW_some]<;>rfl)|(simp [*,errW_none,errW_some]<;>rfl),zy_ HO29 BK2,zl2_ HB GE1 GE2⟩
 subst c26
 have H1:((some (t13.set (t16:Int).toNat (⟨(rd_T31 t13 t16).f0,(rd_T31 t13 t16).f1,(⟨a2_0,a2_1,a2_2⟩:S27),(⟨(rd_T31 t13 t16).f3.f0,(rd_T31 t13 t16).f3.f1,(rd_T31 t13 t16).f3.f2⟩:S27),(⟨(rd_T31 t13 t16).f4.f0,(rd_T31 t13 t16).f4.f1,(rd_T31 t13 t16).f4.f2⟩:S27),(rd_T31 t13 t16).f5⟩:S31):List (S31))).bind fun y24=>(some ((y24.set (t16:Int).toNat (⟨(rd_T31 y24 t16).f0,(rd_T31 y24 t16).f1,(⟨(rd_T31 y24 t16).f2.f0,(rd_T31 y24 t16).f2.f1,(rd_T31 y24 t16).f2.f2⟩:S27),(⟨(rd_T31 y24 t16).f3.f0,(rd_T31 y24 t16).f3.f1,(rd_T31 y24 t16).f3.f2⟩:S27),(⟨(rd_T31 y24 t16).f4.f0,(rd_T31 y24 t16).f4.f1,(rd_T31 y24 t16).f4.f2⟩:S27),wrap64 (((rd_T31 y24 t16).f5)+1)⟩:S31)),0)))=some (r1,r2):=by rw [if_pos rfl] at H;exact H
 clear H
 have H:=H1
 clear H1
 obtain ⟨y24,hy24⟩: ∃y_:List (S31),y_=(t13.set (t16:Int).toNat (⟨(rd_T31 t13 t16).f0,(rd_T31 t13 t16).f1,(⟨a2_0,a2_1,a2_2⟩:S27),(⟨(rd_T31 t13 t16).f3.f0,(rd_T31 t13 t16).f3.f1,(rd_T31 t13 t16).f3.f2⟩:S27),(⟨(rd_T31 t13 t16).f4.f0,(rd_T31 t13 t16).f4.f1,(rd_T31 t13 t16).f4.f2⟩:S27),(rd_T31 t13 t16).f5⟩:S31)):=⟨_,rfl⟩
 replace H:(some ((y24.set (t16:Int).toNat (⟨(rd_T31 y24 t16).f0,(rd_T31 y24 t16).f1,(⟨(rd_T31 y24 t16).f2.f0,(rd_T31 y24 t16).f2.f1,(rd_T31 y24 t16).f2.f2⟩:S27),(⟨(rd_T31 y24 t16).f3.f0,(rd_T31 y24 t16).f3.f1,(rd_T31 y24 t16).f3.f2⟩:S27),(⟨(rd_T31 y24 t16).f4.f0,(rd_T31 y24 t16).f4.f1,(rd_T31 y24 t16).f4.f2⟩:S27),wrap64 (((rd_T31 y24 t16).f5)+1)⟩:S31)),0))=some (r1,r2):=by first|(rw [hy24];with_reducible exact H)|(have H2_:=(Option.bind_some _ _).symm.trans H;rw [hy24];with_reducible exact H2_)|(have H2_:=(Option.bind_some _ _).symm.trans H;with_reducible exact H2_)|with_reducible exact H|(rw [hy24];exact H)|exact H
 have Ny24:=Aside0.mk hy24
 clear hy24
 obtain ⟨y26,hy26⟩: ∃y_:List (S31),y_=(y24.set (t16:Int).toNat (⟨(rd_T31 y24 t16).f0,(rd_T31 y24 t16).f1,(⟨(rd_T31 y24 t16).f2.f0,(rd_T31 y24 t16).f2.f1,(rd_T31 y24 t16).f2.f2⟩:S27),(⟨(rd_T31 y24 t16).f3.f0,(rd_T31 y24 t16).f3.f1,(rd_T31 y24 t16).f3.f2⟩:S27),(⟨(rd_T31 y24 t16).f4.f0,(rd_T31 y24 t16).f4.f1,(rd_T31 y24 t16).f4.f2⟩:S27),wrap64 (((rd_T31 y24 t16).f5)+1)⟩:S31)):=⟨_,rfl⟩
 replace H:(some (y26,0))=some (r1,r2):=by first|(rw [hy26];with_reducible exact H)|(have H2_:=(Option.bind_some _ _).symm.trans H;rw [hy26];with_reducible exact H2_)|(have H2_:=(Option.bind_some _ _).symm.trans H;with_reducible exact H2_)|with_reducible exact H|(rw [hy26];exact H)|exact H
 have Ny26:=Aside0.mk hy26
 clear hy26
 simp only [Option.some.injEq,Prod.mk.injEq] at H
 obtain ⟨rfl,rfl⟩:=H
 go_enter Try.func91,Try.ntmps91
 try go_wp2_with (first|((with_reducible refine gate_dst (N:=6) rfl ?_);refine bx_ (N:=6) (cs:=#[.int .i64 a2_0, .int .i64 a2_1, .int .i64 a2_2]) (t:=27) ?_;intro gb1 hg w29 hbox hb;have n0_:=am_ (below_step (zl0_ HB) hb);have n1_:=am_ (hbox);have n2_:=am_ ((zg0_ HB hg:w.heap.size≤gb1));have n3_:=am_ ((zg0_ HB hg:w.heap.size≤gb1));clear HB;have HB:=n0_;have BK1:=n1_;have GE1:=n3_;clear n0_ n1_ n2_ n3_;clear hb hbox hg)|((with_reducible refine gate_dst (N:=8) rfl ?_);refine bx_ (N:=8) (cs:=#[.slice none 0 0, .int .i64 0]) (t:=67) ?_;intro gb2 hg w30 hbox hb;have n0_:=am_ (blk_below (zb_ BK1) hb);have n1_:=am_ (below_step (zl1_ HB GE1) hb);have n2_:=am_ (hbox);have n3_:=am_ ((zg1_ HB GE1 hg:w.heap.size≤gb2));have n4_:=am_ ((zg1_ HB GE1 hg:w.heap.size≤gb2));have n5_:=am_ ((zn_ BK1 hg:gb1≠gb2));have n6_:=am_ ((zm_ BK1 hg:gb2≠gb1));clear BK1;clear HB;have BK1:=n0_;have HB:=n1_;have BK2:=n2_;have GE2:=n4_;clear n0_ n1_ n2_ n3_ n4_ n5_ n6_;clear hb hbox hg;obtain ⟨hcz32_0,hcz32_1,hcz32_2⟩:=x3_ BK1)|((with_reducible refine gate_callee (f:=65) rfl ?_);refine gl_ (some 13) Try.func65 #[.agg #[.int .i64 a2_0, .int .i64 a2_1, .int .i64 a2_2]] ?_;(with_reducible refine (r10_MayVec.calls a2_0 a2_1 a2_2 true _ A5.out).mono ?_);rintro e w33 ⟨rfl,hb⟩;refine ⟨_,rfl, ?_⟩;replace BK1:=am_ (blk_below (zb_ BK1) hb);replace BK2:=am_ (blk_below (zb_ BK2) hb);replace HB:=am_ (below_step (zl2_ HB GE1 GE2) hb);(try clear hb);(try clear hb2);(try clear hk);(try clear hi))|((with_reducible refine gate_callee (f:=147) rfl ?_);refine gl_ (some 19) Try.func147 #[.slice A0 l0.length c0, .string a1, .int .i64 a3] ?_;(with_reducible refine (r10_old.calls k _ _ l0 a1 a3 t8 _ ?side1 ?side2 A7.out).mono ?_);(case side1=>exact zc_ (Kd.C_below HR0.out HB.out));(case side2=>exact HC0.out);rintro e w' ⟨rfl,⟨nd,rfl⟩⟩;refine ⟨_,rfl, ?_⟩;(try (rw [drewN_self w33];generalize hq_:World.drewN w33 _=w33;have n0_:Aside0 (w33.heap[gb1]?=some (.cells #[.int .i64 a2_0, .int .i64 a2_1, .int .i64 a2_2] 27 (0,0))):=⟨by rw [←hq_];exact (zb_ BK1)⟩;have n1_:Aside0 (w33.heap[gb2]?=some (.cells #[.slice none 0 0, .int .i64 0] 67 (0,0))):=⟨by rw [←hq_];exact (zb_ BK2)⟩;have n2_:Aside0 (Below w.heap.size w w33):=⟨by rw [←hq_];exact (zl2_ HB GE1 GE2)⟩;clear BK1 BK2 HB hq_;have BK1:=n0_;have BK2:=n1_;have HB:=n2_;clear n0_ n1_ n2_)))|((with_reducible refine gate_callee (f:=124) rfl ?_);refine gl_ (some 25) Try.func124 #[.slice A0 l0.length c0] ?_;(with_reducible refine (r10_copied.calls _ _ l0 t13 _ ?side1 ?side2 A9.out).mono ?_);(case side1=>exact zc_ (Kd.C_below HR0.out HB.out));(case side2=>exact HC0.out);rintro e w34 ⟨v14,rfl,ho0,hb⟩;refine ⟨_,rfl, ?_⟩;have HO15:=am_ (Kd.R_lower ho0 (below_size (zl2_ HB GE1 GE2)));replace BK1:=am_ (blk_below (zb_ BK1) hb);replace BK2:=am_ (blk_below (zb_ BK2) hb);replace HB:=am_ (below_step (zl2_ HB GE1 GE2) hb);(try clear hb);(try clear hb2);(try clear hk);(try clear hi);(try clear ho0);obtain ⟨Ao35,co35,eo35⟩:=Kd.R_slice HO15.out;subst eo35)|((with_reducible refine gate_callee (f:=50) rfl ?_);refine gl_ (some 28) Try.func50 #[.slice Ao35 t13.length co35, .string a1] ?_;(with_reducible refine (r10_Find.calls k _ _ t13 a1 t16 _ ?side1 ?side2 A10.out).mono ?_);(case side1=>exact zc_ (Kd.R_reads' HO15.out).2.2);(case side2=>exact (Kd.R_reads' HO15.out).2.1);rintro e w' ⟨rfl,⟨nd,rfl⟩⟩;refine ⟨_,rfl, ?_⟩;(try (rw [drewN_self w34];generalize hq_:World.drewN w34 _=w34;have n0_:Aside0 (Kd.R k31 31 w34 w.heap.size (fun _=>True) (.slice Ao35 t13.length co35) t13):=⟨by rw [←hq_];exact (zr_ HO15)⟩;have n1_:Aside0 (w34.heap[gb1]?=some (.cells #[.int .i64 a2_0, .int .i64 a2_1, .int .i64 a2_2] 27 (0,0))):=⟨by rw [←hq_];exact (zb_ BK1)⟩;have n2_:Aside0 (w34.heap[gb2]?=some (.cells #[.slice none 0 0, .int .i64 0] 67 (0,0))):=⟨by rw [←hq_];exact (zb_ BK2)⟩;have n3_:Aside0 (Below w.heap.size w w34):=⟨by rw [←hq_];exact (zl2_ HB GE1 GE2)⟩;clear HO15 BK1 BK2 HB hq_;have HO15:=n0_;have BK1:=n1_;have BK2:=n2_;have HB:=n3_;clear n0_ n1_ n2_ n3_));have p17:0≤(t16:Int):=of_decide_eq_true zq_;have q17:t16<(t13.length:Int):=of_decide_eq_true zq_;obtain ⟨ad17,e17,hx17_0,hx17_1,hx17_2,hx17_3,hx17_4,hx17_5,hx17_6,hx17_7,hx17_8,hx17_9,hx17_10,hx17_11⟩:=at_T31 (Kd.R_reads' HO15.out).2.2 t16 p17 q17;cases e17;replace p17:=eq_true p17;replace q17:=eq_true q17))
 replace HO15:=am_ (Kd.R_drew HO15.out)
 replace BK1:=am_ (blk_drew BK1.out)
 replace BK2:=am_ (blk_drew BK2.out)
 replace HB:=am_ (below_drew1 HB.out)
 have p22:0≤(t16:Int):=of_decide_eq_true zq_
 have q22:t16<(t13.length:Int):=of_decide_eq_true zq_
 obtain ⟨ad22,e22,hx22_0,hx22_1,hx22_2,hx22_3,hx22_4,hx22_5,hx22_6,hx22_7,hx22_8,hx22_9,hx22_10,hx22_11⟩:=at_T31 (Kd.R_reads' HO15.out).2.2 t16 p22 q22
 obtain rfl:ad17=ad22:=(by injection e22)
 replace p22:=eq_true p22
 replace q22:=eq_true q22
 refine start_ (n:=9) (S:=fun w'=>w'.cell? ⟨gb1,0,none⟩=some (.int .i64 a2_0)∧w'.cell? ⟨gb1,1,none⟩=some (.int .i64 a2_1)∧w'.cell? ⟨gb1,2,none⟩=some (.int .i64 a2_2)∧w'.cell? (ad17.add ((t16).toNat*12))=some (.string ((rd_T31 t13 t16).f0))∧w'.cell? ⟨(ad17.add ((t16).toNat*12)).block,(ad17.add ((t16).toNat*12)).off+1,none⟩=some (.string ((rd_T31 t13 t16).f1))∧w'.cell? ⟨(ad17.add ((t16).toNat*12)).block,(ad17.add ((t16).toNat*12)).off+2,none⟩=some (.int .i64 ((rd_T31 t13 t16).f2.f0))∧w'.cell? ⟨(ad17.add ((t16).toNat*12)).block,(ad17.add ((t16).toNat*12)).off+3,none⟩=some (.int .i64 ((rd_T31 t13 t16).f2.f1))∧w'.cell? ⟨(ad17.add ((t16).toNat*12)).block,(ad17.add ((t16).toNat*12)).off+4,none⟩=some (.int .i64 ((rd_T31 t13 t16).f2.f2))∧w'.cell? ⟨(ad17.add ((t16).toNat*12)).block,(ad17.add ((t16).toNat*12)).off+5,none⟩=some (.int .i64 ((rd_T31 t13 t16).f3.f0))∧w'.cell? ⟨(ad17.add ((t16).toNat*12)).block,(ad17.add ((t16).toNat*12)).off+6,none⟩=some (.int .i64 ((rd_T31 t13 t16).f3.f1))∧w'.cell? ⟨(ad17.add ((t16).toNat*12)).block,(ad17.add ((t16).toNat*12)).off+7,none⟩=some (.int .i64 ((rd_T31 t13 t16).f3.f2))∧w'.cell? ⟨(ad17.add ((t16).toNat*12)).block,(ad17.add ((t16).toNat*12)).off+8,none⟩=some (.int .i64 ((rd_T31 t13 t16).f4.f0))∧w'.cell? ⟨(ad17.add ((t16).toNat*12)).block,(ad17.add ((t16).toNat*12)).off+9,none⟩=some (.int .i64 ((rd_T31 t13 t16).f4.f1))∧w'.cell? ⟨(ad17.add ((t16).toNat*12)).block,(ad17.add ((t16).toNat*12)).off+10,none⟩=some (.int .i64 ((rd_T31 t13 t16).f4.f2))∧w'.cell? ⟨(ad17.add ((t16).toNat*12)).block,(ad17.add ((t16).toNat*12)).off+11,none⟩=some (.int .i64 ((rd_T31 t13 t16).f5))) (ds:=[]) (bt_ 9 0) (by kernel_rfl) rfl rfl ⟨(blk_cell BK1.out 0).trans rfl,(blk_cell BK1.out 1).trans rfl,(blk_cell BK1.out 2).trans rfl,hx22_0,hx22_1,hx22_2,hx22_3,hx22_4,hx22_5,hx22_6,hx22_7,hx22_8,hx22_9,hx22_10,hx22_11⟩ (fun hHeld=> ?_);refine with_tabW r10_Limit.tab10 r10_Limit.bits10 (fun HT_ HW_=> ?_)
 generalize w34.drew=w36 at HO15 BK1 BK2 HB hx22_0 hx22_1 hx22_10 hx22_11 hx22_2 hx22_3 hx22_4 hx22_5 hx22_6 hx22_7 hx22_8 hx22_9 hHeld ⊢
 refine pu_ (i:=0) (N:=some 38) (bt_ 9 1) HT_ ?_
 refine pu_ (i:=1) (N:=some 39) (bt_ 9 3) HT_ ?_
 refine pu_ (i:=2) (N:=some 40) (bt_ 9 7) HT_ ?_
 refine pu_ (i:=3) (N:=some 41) (bt_ 9 15) HT_ ?_
 refine tk_ (i:=4) (N:=some 42) (bt_ 9 31) HT_ HW_ hHeld ?_
 refine tk_ (i:=5) (N:=some 43) (bt_ 9 63) HT_ HW_ hHeld ?_
 refine on_ (i:=6) (N:=some 44) (bt_ 9 127) HT_ (fun K hK=> ?_)
 refine gs_ Try.func34 #[.agg #[.int .i64 ((rd_T31 t13 t16).f4.f0), .int .i64 ((rd_T31 t13 t16).f4.f1), .int .i64 ((rd_T31 t13 t16).f4.f2)], .agg #[.int .i64 a2_0, .int .i64 a2_1, .int .i64 a2_2]] ?_
 with_reducible refine (r10_Le.calls ((rd_T31 t13 t16).f4.f0) ((rd_T31 t13 t16).f4.f1) ((rd_T31 t13 t16).f4.f2) a2_0 a2_1 a2_2 true _ A25.out).mono ?_
 rintro e w37 ⟨rfl,hb⟩
 have HS3_:=zh_ hb (hHeld.2.2.2.1)
 have HS4_:=zh_ hb (hHeld.2.2.2.2.1)
 have HS5_:=zh_ hb (hHeld.2.2.2.2.2.1)
 have HS6_:=zh_ hb (hHeld.2.2.2.2.2.2.1)
 have HS7_:=zh_ hb (hHeld.2.2.2.2.2.2.2.1)
 have HS8_:=zh_ hb (hHeld.2.2.2.2.2.2.2.2.1)
 have HS9_:=zh_ hb (hHeld.2.2.2.2.2.2.2.2.2.1)
 have HS10_:=zh_ hb (hHeld.2.2.2.2.2.2.2.2.2.2.1)
 have HS11_:=zh_ hb (hHeld.2.2.2.2.2.2.2.2.2.2.2.1)
 have HS12_:=zh_ hb (hHeld.2.2.2.2.2.2.2.2.2.2.2.2.1)
 have HS13_:=zh_ hb (hHeld.2.2.2.2.2.2.2.2.2.2.2.2.2.1)
 have HS14_:=zh_ hb (hHeld.2.2.2.2.2.2.2.2.2.2.2.2.2.2)
 refine ⟨_,rfl, ?_⟩
 replace HO15:=am_ (Kd.R_below (zr_ HO15) hb)
 replace BK1:=am_ (blk_below (zb_ BK1) hb)
 replace BK2:=am_ (blk_below (zb_ BK2) hb)
 replace HB:=am_ (below_step (zl2_ HB GE1 GE2) hb)
 (try clear hb)
 (try clear hb2)
 (try clear hk)
 (try clear hi)
 refine hK.out _ _ ⟨(blk_cell BK1.out 0).trans rfl,(blk_cell BK1.out 1).trans rfl,(blk_cell BK1.out 2).trans rfl,HS3_,HS4_,HS5_,HS6_,HS7_,HS8_,HS9_,HS10_,HS11_,HS12_,HS13_,HS14_⟩ (fun hHeld=> ?_)
 clear hK K
 refine no_ (N:=some 44) ?_
 refine pu_ (i:=7) (N:=some 45) (bt_ 9 255) HT_ ?_
 refine pu_ (i:=8) (N:=some 37) (bt_ 9 511) HT_ ?_
 refine done_ (done_of HT_.out (by kernel_rfl)) ?_
 obtain ⟨hcz38_0,hcz38_1,hcz38_2⟩:=x3_ BK1
 have p27:0≤(t16:Int):=of_decide_eq_true zq_
 have q27:(t16:Int)<((t13.length:Int):Int):=of_decide_eq_true zq_
 obtain ⟨go27,co27,eo27,gb27,gl27,cl27,HG27⟩:=Kd.R_form HO15.out (by omega)
 (first|cases eo27|(injection eo27 with ea_ en_ ec_;(first|subst ea_|(injection ea_ with ea_;subst ea_));subst ec_;clear en_))
 have GB27:=Aside0.mk gb27
 clear gb27 gl27 HG27
 replace hx17_0:=zv_ hx17_0
 replace hx17_1:=zv_ hx17_1
 replace hx17_2:=zv_ hx17_2
 replace hx17_3:=zv_ hx17_3
 replace hx17_4:=zv_ hx17_4
 replace hx17_5:=zv_ hx17_5
 replace hx17_6:=zv_ hx17_6
 replace hx17_7:=zv_ hx17_7
 replace hx17_8:=zv_ hx17_8
 replace hx17_9:=zv_ hx17_9
 replace hx17_10:=zv_ hx17_10
 replace hx17_11:=zv_ hx17_11
 replace hx22_0:=zv_ hx22_0
 replace hx22_1:=zv_ hx22_1
 replace hx22_2:=zv_ hx22_2
 replace hx22_3:=zv_ hx22_3
 replace hx22_4:=zv_ hx22_4
 replace hx22_5:=zv_ hx22_5
 replace hx22_6:=zv_ hx22_6
 replace hx22_7:=zv_ hx22_7
 replace hx22_8:=zv_ hx22_8
 replace hx22_9:=zv_ hx22_9
 replace hx22_10:=zv_ hx22_10
 replace hx22_11:=zv_ hx22_11
 obtain ⟨ce27,hcl27,hM27,hcc27,hfr27⟩:=Kd.R_elem HO15.out z31 (t16:Int) p27 q27
 obtain rfl:=k31_openM hM27
 have hx27_2:w37.cell? ⟨go27,(t16:Int).toNat*12+2,none⟩=some (.int .i64 ((rd_T31 t13 t16).f2.f0)):=hcc27 2 _ rfl
 have hx27_3:w37.cell? ⟨go27,(t16:Int).toNat*12+3,none⟩=some (.int .i64 ((rd_T31 t13 t16).f2.f1)):=hcc27 3 _ rfl
 have hx27_4:w37.cell? ⟨go27,(t16:Int).toNat*12+4,none⟩=some (.int .i64 ((rd_T31 t13 t16).f2.f2)):=hcc27 4 _ rfl
 have hf27_2:w37.frozen? ⟨go27,(t16:Int).toNat*12+2,none⟩=false:=hfr27 2
 have hf27_3:w37.frozen? ⟨go27,(t16:Int).toNat*12+3,none⟩=false:=hfr27 3
 have hf27_4:w37.frozen? ⟨go27,(t16:Int).toNat*12+4,none⟩=false:=hfr27 4
 clear hcl27 hcc27 hfr27 hM27
 replace p27:=eq_true p27
 replace q27:=eq_true q27
 have HX39:=am_ (show Kd.R k31 31 w37 w.heap.size (fun _=>True) (.slice (some ⟨go27,0,none⟩) t13.length co35) t13 from (zr_ HO15))
 obtain ⟨ce39,hcl39,hM39,hcc39,hfr39⟩:=Kd.R_elem HX39.out z31 (t16:Int) (of_decide_eq_true zq_) (by have h_:(t16:Int)<((t13.length:Int):Int):=of_decide_eq_true zq_;first|exact h_|(have e_:=(Kd.R_reads' HO15.out).1;omega)|simpa using h_)
 obtain rfl:=k31_openM hM39
 have HP39:=Kd.R_seg HX39.out (t16:Int) (of_decide_eq_true zq_) (by have h_:(t16:Int)<((t13.length:Int):Int):=of_decide_eq_true zq_;first|exact h_|(have e_:=(Kd.R_reads' HO15.out).1;omega)|simpa using h_) (seg:=[.int .i64 a2_0, .int .i64 a2_1, .int .i64 a2_2]) (j:=2) hcl39 hcc39 (show 5≤12 from by decide) (x':=(⟨(rd_T31 t13 t16).f0,(rd_T31 t13 t16).f1,(⟨a2_0,a2_1,a2_2⟩:S27),(⟨(rd_T31 t13 t16).f3.f0,(rd_T31 t13 t16).f3.f1,(rd_T31 t13 t16).f3.f2⟩:S27),(⟨(rd_T31 t13 t16).f4.f0,(rd_T31 t13 t16).f4.f1,(rd_T31 t13 t16).f4.f2⟩:S27),(rd_T31 t13 t16).f5⟩:S31)) (k31_mkM _ _ _ (⟨(rd_T31 t13 t16).f0,(rd_T31 t13 t16).f1,(⟨a2_0,a2_1,a2_2⟩:S27),(⟨(rd_T31 t13 t16).f3.f0,(rd_T31 t13 t16).f3.f1,(rd_T31 t13 t16).f3.f2⟩:S27),(⟨(rd_T31 t13 t16).f4.f0,(rd_T31 t13 t16).f4.f1,(rd_T31 t13 t16).f4.f2⟩:S27),(rd_T31 t13 t16).f5⟩:S31)) (fun _ hk=>hk)
 have hx39_2:=hcc39 2 _ rfl
 (try simp only [show (k31).sz=12 from rfl,Nat.mul_one,Nat.add_zero] at hx39_2)
 have hf39_2:=hfr39 2
 (try simp only [show (k31).sz=12 from rfl,Nat.mul_one,Nat.add_zero] at hf39_2)
 have hx39_3:=hcc39 3 _ rfl
 (try simp only [show (k31).sz=12 from rfl,Nat.mul_one,Nat.add_zero] at hx39_3)
 have hf39_3:=hfr39 3
 (try simp only [show (k31).sz=12 from rfl,Nat.mul_one,Nat.add_zero] at hf39_3)
 have hx39_4:=hcc39 4 _ rfl
 (try simp only [show (k31).sz=12 from rfl,Nat.mul_one,Nat.add_zero] at hx39_4)
 have hf39_4:=hfr39 4
 (try simp only [show (k31).sz=12 from rfl,Nat.mul_one,Nat.add_zero] at hf39_4)
 clear hcl39 hcc39 hfr39 hM39
 try go_wp2_with (first|((with_reducible refine gate_store (t:=27) (p:=51) rfl ?_);refine store_event (t:=27) (p:=51) (v:= ?vo_w40) (w1:=(((w37.setCell ⟨go27,(t16:Int).toNat*12+2,none⟩ (.int .i64 a2_0)).setCell ⟨go27,(t16:Int).toNat*12+3,none⟩ (.int .i64 a2_1)).setCell ⟨go27,(t16:Int).toNat*12+4,none⟩ (.int .i64 a2_2))) ?hg ?ho ?hn ?hr ?_;(case ho=>rfl);(case hg=>rfl);(case hn=>rfl);(case hr=>first|(go_simp;done)|(go_simp;rfl));intro w40 hw;have hg:w37.grownBy w40 (some go27):=(by rw [hw];exact HP39.2);have hp_:Kd.R k31 31 w40 w.heap.size (fun _=>True) (.slice (some ⟨go27,0,none⟩) t13.length co35) y24:=(by rw [hw,Ny24.out];exact HP39.1);clear HP39;replace BK1:=am_ (blk_grown (zb_ BK1) hg (Kd.R_ne HO15.out BK1.out (by decide)));replace BK2:=am_ (blk_grown (zb_ BK2) hg (Kd.R_ne HO15.out BK2.out (by decide)));replace HO15:=am_ (hp_);replace HB:=am_ ((by rw [hw];exact below_set (below_set (below_set (HB.out) GB27.out) GB27.out) GB27.out:Below w.heap.size w w40));clear hg hw hp_;have p25:0≤(t16:Int):=of_decide_eq_true zq_;have q25:t16<(y24.length:Int):=(by have h_:(t16:Int)<((t13.length:Int):Int):=of_decide_eq_true zq_;first|(have e_:=(Kd.R_reads' HO15.out).1;omega)|simpa only [Ny24.out,List.length_set] using h_);obtain ⟨ad25,e25,hx25_0,hx25_1,hx25_2,hx25_3,hx25_4,hx25_5,hx25_6,hx25_7,hx25_8,hx25_9,hx25_10,hx25_11⟩:=at_T31 (Kd.R_reads' HO15.out).2.2 t16 p25 q25;obtain rfl:(⟨go27,0,none⟩:Addr)=ad25:=(by injection e25);replace hx25_0:=za_ hx25_0;replace hx25_1:=za_ hx25_1;replace hx25_2:=za_ hx25_2;replace hx25_3:=za_ hx25_3;replace hx25_4:=za_ hx25_4;replace hx25_5:=za_ hx25_5;replace hx25_6:=za_ hx25_6;replace hx25_7:=za_ hx25_7;replace hx25_8:=za_ hx25_8;replace hx25_9:=za_ hx25_9;replace hx25_10:=za_ hx25_10;replace hx25_11:=za_ hx25_11;replace p25:=eq_true p25;replace q25:=eq_true q25;have p28:0≤(t16:Int):=of_decide_eq_true zq_;have q28:(t16:Int)<((t13.length:Int):Int):=of_decide_eq_true zq_;obtain ⟨ce28,hcl28,hM28,hcc28,hfr28⟩:=Kd.R_elem HO15.out z31 (t16:Int) p28 q28;obtain rfl:=k31_openM hM28;have hf28_11:w40.frozen? ⟨go27,(t16:Int).toNat*12+11,none⟩=false:=hfr28 11;clear hcl28 hcc28 hfr28 hM28;replace p28:=eq_true p28;replace q28:=eq_true q28;have HX41:=am_ (show Kd.R k31 31 w40 w.heap.size (fun _=>True) (.slice (some ⟨go27,0,none⟩) t13.length co35) y24 from (zr_ HO15));obtain ⟨ce41,hcl41,hM41,hcc41,hfr41⟩:=Kd.R_elem HX41.out z31 (t16:Int) (of_decide_eq_true zq_) (by have h_:(t16:Int)<((t13.length:Int):Int):=of_decide_eq_true zq_;first|exact h_|(have e_:=(Kd.R_reads' HO15.out).1;omega)|simpa using h_);obtain rfl:=k31_openM hM41;have HP41:=Kd.R_seg HX41.out (t16:Int) (of_decide_eq_true zq_) (by have h_:(t16:Int)<((t13.length:Int):Int):=of_decide_eq_true zq_;first|exact h_|(have e_:=(Kd.R_reads' HO15.out).1;omega)|simpa using h_) (seg:=[.int .i64 (wrap64 (((rd_T31 y24 t16).f5)+1))]) (j:=11) hcl41 hcc41 (show 12≤12 from by decide) (x':=(⟨(rd_T31 y24 t16).f0,(rd_T31 y24 t16).f1,(⟨(rd_T31 y24 t16).f2.f0,(rd_T31 y24 t16).f2.f1,(rd_T31 y24 t16).f2.f2⟩:S27),(⟨(rd_T31 y24 t16).f3.f0,(rd_T31 y24 t16).f3.f1,(rd_T31 y24 t16).f3.f2⟩:S27),(⟨(rd_T31 y24 t16).f4.f0,(rd_T31 y24 t16).f4.f1,(rd_T31 y24 t16).f4.f2⟩:S27),wrap64 (((rd_T31 y24 t16).f5)+1)⟩:S31)) (k31_mkM _ _ _ (⟨(rd_T31 y24 t16).f0,(rd_T31 y24 t16).f1,(⟨(rd_T31 y24 t16).f2.f0,(rd_T31 y24 t16).f2.f1,(rd_T31 y24 t16).f2.f2⟩:S27),(⟨(rd_T31 y24 t16).f3.f0,(rd_T31 y24 t16).f3.f1,(rd_T31 y24 t16).f3.f2⟩:S27),(⟨(rd_T31 y24 t16).f4.f0,(rd_T31 y24 t16).f4.f1,(rd_T31 y24 t16).f4.f2⟩:S27),wrap64 (((rd_T31 y24 t16).f5)+1)⟩:S31)) (fun _ hk=>hk);have hx41_11:=hcc41 11 _ rfl;(try simp only [show (k31).sz=12 from rfl,Nat.mul_one,Nat.add_zero] at hx41_11);have hf41_11:=hfr41 11;(try simp only [show (k31).sz=12 from rfl,Nat.mul_one,Nat.add_zero] at hf41_11);clear hcl41 hcc41 hfr41 hM41)|((with_reducible refine gate_store (t:=3) (p:=59) rfl ?_);refine store_event (t:=3) (p:=59) (v:= ?vo_w42) (w1:=(w40.setCell ⟨go27,(t16:Int).toNat*12+11,none⟩ (.int .i64 (wrap64 (((rd_T31 y24 t16).f5)+1))))) ?hg ?ho ?hn ?hr ?_;(case ho=>rfl);(case hg=>rfl);(case hn=>rfl);(case hr=>first|(go_simp;done)|(go_simp;rfl));intro w42 hw;have hg:w40.grownBy w42 (some go27):=(by rw [hw];exact HP41.2);have hp_:Kd.R k31 31 w42 w.heap.size (fun _=>True) (.slice (some ⟨go27,0,none⟩) t13.length co35) y26:=(by rw [hw,Ny26.out];exact HP41.1);clear HP41;replace BK1:=am_ (blk_grown (zb_ BK1) hg (Kd.R_ne HO15.out BK1.out (by decide)));replace BK2:=am_ (blk_grown (zb_ BK2) hg (Kd.R_ne HO15.out BK2.out (by decide)));replace HO15:=am_ (hp_);replace HB:=am_ ((by rw [hw];exact below_set (HB.out) GB27.out:Below w.heap.size w w42));clear hg hw hp_;obtain ⟨hcz43_0,hcz43_1⟩:=x2_ BK2;have hfz43_0:=blk_frozen BK2.out 0;have hfz43_1:=blk_frozen BK2.out 1))
 refine bodyPost_ret (results_cell_row rfl _ _ gb2 67 #[.slice (some ⟨go27,0,none⟩) t13.length co35, .int .i64 0] (0,0) _ rfl (zw_ BK2) Try.underlying67 rfl (by kernel_rfl)) rfl ?_
 exact ⟨_,by first|rfl|(simp [errW_none,errW_some]<;>rfl)|(simp [*,errW_none,errW_some]<;>rfl),zy_ HO15 BK2,zl2_ HB GE1 GE2⟩
def r10_Sub.f (a0_0:Int) (a0_1:Int) (a0_2:Int) (a1_0:Int) (a1_1:Int) (a1_2:Int):Option (Int×Int×Int):=some (wrap64 (a0_0 - a1_0),wrap64 (a0_1 - a1_1),wrap64 (a0_2 - a1_2))
set_option maxHeartbeats 8000000 in
set_option maxRecDepth 100000 in
theorem r10_Sub.calls (a0_0:Int) (a0_1:Int) (a0_2:Int) (a1_0:Int) (a1_1:Int) (a1_2:Int) (r1:Int) (r2:Int) (r3:Int) (w:World) (h:r10_Sub.f a0_0 a0_1 a0_2 a1_0 a1_1 a1_2=some (r1,r2,r3)):
  Calls Try.prog 35 #[.agg #[.int .i64 a0_0, .int .i64 a0_1, .int .i64 a0_2], .agg #[.int .i64 a1_0, .int .i64 a1_1, .int .i64 a1_2]] w fun e w'=>e= .returned (.agg #[.int .i64 r1, .int .i64 r2, .int .i64 r3])∧Below w.heap.size w w':=by
 have hu27:=Try.underlying27
 have HB:=am_ (Below.refl w.heap.size w)
 have H:(some (wrap64 (a0_0 - a1_0),wrap64 (a0_1 - a1_1),wrap64 (a0_2 - a1_2)))=some (r1,r2,r3):=h
 clear h
 simp only [Option.some.injEq,Prod.mk.injEq] at H
 obtain ⟨rfl,rfl,rfl⟩:=H
 go_enter Try.func35,Try.ntmps35
 go_wp2_with (first|((with_reducible refine gate_dst (N:=2) rfl ?_);refine bx_ (N:=2) (cs:=#[.int .i64 a0_0, .int .i64 a0_1, .int .i64 a0_2]) (t:=27) ?_;intro gb1 hg w3 hbox hb;have BK1:=am_ (hbox);have GW1:=am_ ((zg0_ HB hg:w.heap.size≤gb1));have GE1:=am_ ((zg0_ HB hg:w.heap.size≤gb1));replace HB:=am_ (below_step (zl0_ HB) hb);clear hb hbox hg)|((with_reducible refine gate_dst (N:=3) rfl ?_);refine bx_ (N:=3) (cs:=#[.int .i64 a1_0, .int .i64 a1_1, .int .i64 a1_2]) (t:=27) ?_;intro gb2 hg w4 hbox hb;have BK2:=am_ (hbox);have GW2:=am_ ((zg1_ HB GE1 hg:w.heap.size≤gb2));have GE2:=am_ ((zg1_ HB GE1 hg:w.heap.size≤gb2));replace HB:=am_ (below_step (zl1_ HB GE1) hb);have NB1_2:=am_ ((zn_ BK1 hg:gb1≠gb2));have NB2_1:=am_ ((zm_ BK1 hg:gb2≠gb1));replace BK1:=am_ (blk_below (zb_ BK1) hb);clear hb hbox hg)|((with_reducible refine gate_dst (N:=4) rfl ?_);refine bx_ (N:=4) (cs:=#[.int .i64 0, .int .i64 0, .int .i64 0]) (t:=27) ?_;intro gb3 hg w5 hbox hb;have BK3:=am_ (hbox);have GW3:=am_ ((zg2_ HB GE1 GE2 hg:w.heap.size≤gb3));have GE3:=am_ ((zg2_ HB GE1 GE2 hg:w.heap.size≤gb3));replace HB:=am_ (below_step (zl2_ HB GE1 GE2) hb);have NB1_3:=am_ ((zn_ BK1 hg:gb1≠gb3));have NB3_1:=am_ ((zm_ BK1 hg:gb3≠gb1));replace BK1:=am_ (blk_below (zb_ BK1) hb);have NB2_3:=am_ ((zn_ BK2 hg:gb2≠gb3));have NB3_2:=am_ ((zm_ BK2 hg:gb3≠gb2));replace BK2:=am_ (blk_below (zb_ BK2) hb);clear hb hbox hg;have hnb6:=NB1_2.out;have hnc6:=NB2_1.out;have hnb7:=NB1_3.out;have hnc7:=NB3_1.out;obtain ⟨hcz8_0,hcz8_1,hcz8_2,hfz8_0,hfz8_1,hfz8_2⟩:=y3_ BK1;have hnb9:=NB2_3.out;have hnc9:=NB3_2.out;obtain ⟨hcz10_0,hcz10_1,hcz10_2,hfz10_0,hfz10_1,hfz10_2⟩:=y3_ BK2;obtain ⟨hcz11_0,hcz11_1,hcz11_2⟩:=x3_ BK3;have hfz11_0:=blk_frozen BK3.out 0;have hfz11_1:=blk_frozen BK3.out 1;have hfz11_2:=blk_frozen BK3.out 2))
 refine bodyPost_ret (results_cell_row rfl _ _ gb3 27 #[.int .i64 (wrap64 (a0_0 - a1_0)), .int .i64 (wrap64 (a0_1 - a1_1)), .int .i64 (wrap64 (a0_2 - a1_2))] (0,0) _ rfl (zw_ BK3) Try.underlying27 rfl (by kernel_rfl)) rfl ?_
 exact ⟨by first|rfl|(simp [errW_none,errW_some]<;>rfl)|(simp [*,errW_none,errW_some]<;>rfl),zl3_ HB GE1 GE2 GE3⟩

end Go.Proofs.Ytcgefpklljclgaa.Print

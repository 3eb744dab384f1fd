/- A part of the proof of ShapeLimits: the machine's side by the kit's print, contracts and lemmas by this session. -/
import Derived.Test.YtcgefpklljclgaaProg
import Derived.Below
import Derived.Deep.Draws
import Derived.Deep.AppendLies
import Derived.Maps.AppendAt
import Derived.OwnWalk
import Derived.Laws.BytesArg
import Derived.Laws.MakeOwn
import Derived.Laws.OwnMore
import Derived.Deep.OwnRows
import Derived.Tactics
import Derived.Lib.ConvBytes
import Derived.Laws.Slices
import Derived.WalkKit
import Derived.KernelRfl
import Derived.RowKit3
import Derived.Deep.LoopGhost
import Derived.Deep.QuietTactic
import Derived.BigQuiet
import Derived.WideLaws
import Derived.Deep.DeepCutAuto
import Derived.Deep.CutBlock
import Derived.Deep.RegionHeld3
import Derived.Laws.Rows
import Derived.Lib.AppendStr
import Derived.ArgAppend
import Derived.Laws.IdiomCopy
import Derived.OrdersHeld
import Derived.Laws.BitsLemmas
import Derived.RowKit
import Derived.WalkSpells
import Derived.Shelf.Abstract
import Derived.Laws.Cover1
import Derived.Lib.SliceRun
import Derived.Lib.JoinLaws
import Derived.Lib.AppendZerosOnto
import Derived.Lib.Overlaps
import Derived.Laws.Externs
import Derived.Laws.NewBlocks
import Derived.Deep.RegionLaw
import Derived.Shelf.RegionOpenPlain
import Derived.Test.YtcgefpklljclgaaBShapeLimits0
namespace Go.Proofs.Ytcgefpklljclgaa.Print
open Go.RowKit Go.Proofs.YtcgefpklljclgaaW.PrintWords Go.Proofs.YtcgefpklljclgaaW.PrintLast Go.Proofs.YtcgefpklljclgaaW.PrintMore
attribute [local go_sem] max2_int min2_int max_two min_two max_three min_three max_four min_four
set_option linter.unusedVariables false
set_option linter.unusedSimpArgs false



def errW:Option Int→Value
 |none=> .nilIface
 |some c=> .iface 0 (.int .i64 c)
theorem errW_none:errW none= .nilIface:=rfl
theorem errW_some (c:Int):errW (some c)= .iface 0 (.int .i64 c):=rfl

theorem info9:(Try.prog.info? 9).map (fun i=>(i.zero,i.size,i.bytes))=some (some (.string ⟨#[]⟩),1,16):=by kernel_rfl
theorem info31:(Try.prog.info? 31).map (fun i=>(i.zero,i.size,i.bytes))=some (some (.agg #[(.string ⟨#[]⟩),(.string ⟨#[]⟩),(.int .i64 0),(.int .i64 0),(.int .i64 0),(.int .i64 0),(.int .i64 0),(.int .i64 0),(.int .i64 0),(.int .i64 0),(.int .i64 0),(.int .i64 0)]),12,112):=by kernel_rfl
-- the values' own types
structure S27 where
 f0:Int
 f1:Int
 f2:Int
def z27:S27:=⟨(0:Int),(0:Int),(0:Int)⟩
def k27:Kd S27:=Kd.iso (Kd.pair (Kd.int .i64) (Kd.pair (Kd.int .i64) (Kd.int .i64))) (fun x:S27=>(x.f0,x.f1,x.f2))
theorem k27_open {w:World} {x:S27} {cs:List Value} (h:k27.K w x cs):cs=[.int .i64 x.f0, .int .i64 x.f1, .int .i64 x.f2]:=by
 obtain ⟨_,_,rfl,rfl,⟨_,_,rfl,rfl,rfl⟩⟩:=h
 exact rfl
theorem k27_openM {w:World} {base:Nat} {ok:Nat→Prop} {x:S27} {cs:List Value} (h:k27.M w base ok x cs):cs=[.int .i64 x.f0, .int .i64 x.f1, .int .i64 x.f2]:=by
 obtain ⟨_,_,rfl,rfl,⟨_,_,rfl,rfl,rfl⟩⟩:=h
 exact rfl
theorem k27_mkM (w:World) (base:Nat) (ok:Nat→Prop) (x:S27):k27.M w base ok x [.int .i64 x.f0, .int .i64 x.f1, .int .i64 x.f2]:=⟨[.int .i64 x.f0],[.int .i64 x.f1, .int .i64 x.f2],rfl,rfl,⟨[.int .i64 x.f1],[.int .i64 x.f2],rfl,rfl,rfl⟩⟩
structure S31 where
 f0:ByteArray
 f1:ByteArray
 f2:S27
 f3:S27
 f4:S27
 f5:Int
def z31:S31:=⟨(⟨#[]⟩:ByteArray),(⟨#[]⟩:ByteArray),z27,z27,z27,(0:Int)⟩
def k31:Kd S31:=Kd.iso (Kd.pair Kd.string (Kd.pair Kd.string (Kd.pair k27 (Kd.pair k27 (Kd.pair k27 (Kd.int .i64)))))) (fun x:S31=>(x.f0,x.f1,x.f2,x.f3,x.f4,x.f5))
theorem k31_open {w:World} {x:S31} {cs:List Value} (h:k31.K w x cs):cs=[.string x.f0, .string x.f1, .int .i64 x.f2.f0, .int .i64 x.f2.f1, .int .i64 x.f2.f2, .int .i64 x.f3.f0, .int .i64 x.f3.f1, .int .i64 x.f3.f2, .int .i64 x.f4.f0, .int .i64 x.f4.f1, .int .i64 x.f4.f2, .int .i64 x.f5]:=by
 obtain ⟨_,_,rfl,rfl,⟨_,_,rfl,rfl,⟨_,_,rfl,s2,⟨_,_,rfl,s5,⟨_,_,rfl,s8,rfl⟩⟩⟩⟩⟩:=h
 obtain rfl:=k27_open s2
 obtain rfl:=k27_open s5
 obtain rfl:=k27_open s8
 exact rfl
theorem k31_openM {w:World} {base:Nat} {ok:Nat→Prop} {x:S31} {cs:List Value} (h:k31.M w base ok x cs):cs=[.string x.f0, .string x.f1, .int .i64 x.f2.f0, .int .i64 x.f2.f1, .int .i64 x.f2.f2, .int .i64 x.f3.f0, .int .i64 x.f3.f1, .int .i64 x.f3.f2, .int .i64 x.f4.f0, .int .i64 x.f4.f1, .int .i64 x.f4.f2, .int .i64 x.f5]:=by
 obtain ⟨_,_,rfl,rfl,⟨_,_,rfl,rfl,⟨_,_,rfl,s2,⟨_,_,rfl,s5,⟨_,_,rfl,s8,rfl⟩⟩⟩⟩⟩:=h
 obtain rfl:=k27_openM s2
 obtain rfl:=k27_openM s5
 obtain rfl:=k27_openM s8
 exact rfl
theorem k31_mkM (w:World) (base:Nat) (ok:Nat→Prop) (x:S31):k31.M w base ok x [.string x.f0, .string x.f1, .int .i64 x.f2.f0, .int .i64 x.f2.f1, .int .i64 x.f2.f2, .int .i64 x.f3.f0, .int .i64 x.f3.f1, .int .i64 x.f3.f2, .int .i64 x.f4.f0, .int .i64 x.f4.f1, .int .i64 x.f4.f2, .int .i64 x.f5]:=⟨[.string x.f0],[.string x.f1, .int .i64 x.f2.f0, .int .i64 x.f2.f1, .int .i64 x.f2.f2, .int .i64 x.f3.f0, .int .i64 x.f3.f1, .int .i64 x.f3.f2, .int .i64 x.f4.f0, .int .i64 x.f4.f1, .int .i64 x.f4.f2, .int .i64 x.f5],rfl,rfl,⟨[.string x.f1],[.int .i64 x.f2.f0, .int .i64 x.f2.f1, .int .i64 x.f2.f2, .int .i64 x.f3.f0, .int .i64 x.f3.f1, .int .i64 x.f3.f2, .int .i64 x.f4.f0, .int .i64 x.f4.f1, .int .i64 x.f4.f2, .int .i64 x.f5],rfl,rfl,⟨[.int .i64 x.f2.f0, .int .i64 x.f2.f1, .int .i64 x.f2.f2],[.int .i64 x.f3.f0, .int .i64 x.f3.f1, .int .i64 x.f3.f2, .int .i64 x.f4.f0, .int .i64 x.f4.f1, .int .i64 x.f4.f2, .int .i64 x.f5],rfl,(k27_mkM w base ok x.f2),⟨[.int .i64 x.f3.f0, .int .i64 x.f3.f1, .int .i64 x.f3.f2],[.int .i64 x.f4.f0, .int .i64 x.f4.f1, .int .i64 x.f4.f2, .int .i64 x.f5],rfl,(k27_mkM w base ok x.f3),⟨[.int .i64 x.f4.f0, .int .i64 x.f4.f1, .int .i64 x.f4.f2],[.int .i64 x.f5],rfl,(k27_mkM w base ok x.f4),rfl⟩⟩⟩⟩⟩
def rd_T31 (xs:List S31) (i:Int):S31:=xs.getD i.toNat z31
theorem at_T31 {w:World} {A:Option Addr} {n:Nat} {xs:List S31} (h:Kd.C k31 w A n xs) (i:Int) (h0:0≤i) (h1:i<n): ∃ad,A=some ad∧w.cell? (ad.add (i.toNat*12))=some (.string (rd_T31 xs i).f0)∧w.cell? ⟨(ad.add (i.toNat*12)).block,(ad.add (i.toNat*12)).off+1,none⟩=some (.string (rd_T31 xs i).f1)∧w.cell? ⟨(ad.add (i.toNat*12)).block,(ad.add (i.toNat*12)).off+2,none⟩=some (.int .i64 (rd_T31 xs i).f2.f0)∧w.cell? ⟨(ad.add (i.toNat*12)).block,(ad.add (i.toNat*12)).off+3,none⟩=some (.int .i64 (rd_T31 xs i).f2.f1)∧w.cell? ⟨(ad.add (i.toNat*12)).block,(ad.add (i.toNat*12)).off+4,none⟩=some (.int .i64 (rd_T31 xs i).f2.f2)∧w.cell? ⟨(ad.add (i.toNat*12)).block,(ad.add (i.toNat*12)).off+5,none⟩=some (.int .i64 (rd_T31 xs i).f3.f0)∧w.cell? ⟨(ad.add (i.toNat*12)).block,(ad.add (i.toNat*12)).off+6,none⟩=some (.int .i64 (rd_T31 xs i).f3.f1)∧w.cell? ⟨(ad.add (i.toNat*12)).block,(ad.add (i.toNat*12)).off+7,none⟩=some (.int .i64 (rd_T31 xs i).f3.f2)∧w.cell? ⟨(ad.add (i.toNat*12)).block,(ad.add (i.toNat*12)).off+8,none⟩=some (.int .i64 (rd_T31 xs i).f4.f0)∧w.cell? ⟨(ad.add (i.toNat*12)).block,(ad.add (i.toNat*12)).off+9,none⟩=some (.int .i64 (rd_T31 xs i).f4.f1)∧w.cell? ⟨(ad.add (i.toNat*12)).block,(ad.add (i.toNat*12)).off+10,none⟩=some (.int .i64 (rd_T31 xs i).f4.f2)∧w.cell? ⟨(ad.add (i.toNat*12)).block,(ad.add (i.toNat*12)).off+11,none⟩=some (.int .i64 (rd_T31 xs i).f5):=by
 obtain ⟨ad,c,e,_,hK,hc0⟩:=Kd.C_get h z31 i h0 h1
 have hc: ∀j u,c[j]?=some u→w.cell? (ad.add (i.toNat*12+j))=some u:=hc0
 obtain rfl:=k31_open hK
 exact ⟨ad,e,hc 0 _ rfl,by rw [←add_field _ _ 1 (by omega)];exact hc 1 _ rfl,by rw [←add_field _ _ 2 (by omega)];exact hc 2 _ rfl,by rw [←add_field _ _ 3 (by omega)];exact hc 3 _ rfl,by rw [←add_field _ _ 4 (by omega)];exact hc 4 _ rfl,by rw [←add_field _ _ 5 (by omega)];exact hc 5 _ rfl,by rw [←add_field _ _ 6 (by omega)];exact hc 6 _ rfl,by rw [←add_field _ _ 7 (by omega)];exact hc 7 _ rfl,by rw [←add_field _ _ 8 (by omega)];exact hc 8 _ rfl,by rw [←add_field _ _ 9 (by omega)];exact hc 9 _ rfl,by rw [←add_field _ _ 10 (by omega)];exact hc 10 _ rfl,by rw [←add_field _ _ 11 (by omega)];exact hc 11 _ rfl⟩

structure S37 where
 f0:ByteArray
 f1:Int
structure S54 where
 f0:ByteArray
 f1:ByteArray
 f2:S27
 f3:Int
structure S180 where
 f0:ByteArray
 f1:ByteArray
 f2:S27
structure S58 where
 f0:Int
 f1:ByteArray
 f2:ByteArray
 f3:S27
theorem eqA27 (d:Nat) (w:World) (x0 y0:Int) (x1 y1:Int) (x2 y2:Int):
  (Op.equalIn (d+2) 27 (.agg #[.int .i64 x0, .int .i64 x1, .int .i64 x2]) (.agg #[.int .i64 y0, .int .i64 y1, .int .i64 y2])).run Try.prog w= .ok (x0==y0 && (x1==y1 && (x2==y2))) w:=by
 refine eqA_of Try.underlying27 (by kernel_rfl) ?_
 refine eqf_cons (by rfl) (by go_simp;rfl) (by go_simp;rfl) (by go_simp) ?_
 refine eqf_cons (by rfl) (by go_simp;rfl) (by go_simp;rfl) (by go_simp) ?_
 exact eqf_last (by rfl) (by go_simp;rfl) (by go_simp;rfl) (by go_simp)
def r10_Find.l0:Nat→List (S31)→ByteArray→Int→Option (Int)
 |0,_,_,_=>none
 |k+1,x0,x1,x5=>if x5<(x0.length:Int) then (if 0≤x5 then (if ((rd_T31 x0 x5).f0).toList=x1.toList then (some x5) else (r10_Find.l0 k x0 x1 (wrap64 (x5+1)))) else (none)) else (some (-1))
def r10_Find.f (k:Nat) (l0:List (S31)) (a1:ByteArray):Option (Int):=r10_Find.l0 k l0 a1 0
theorem r10_Find.mono_l: ∀k,(∀y0 y1 y2,LeO (r10_Find.l0 k y0 y1 y2) (r10_Find.l0 (k+1) y0 y1 y2))
 |0=>fun _ _ _ r h=>by simp [r10_Find.l0] at h
 |k+1=>by
  have ih0:=r10_Find.mono_l k
  ·intro y0 y1 y2
   unfold r10_Find.l0
   repeat' first
   |(with_reducible exact ih0 _ _ _)
   |(with_reducible exact LeO.refl _)
   |(with_reducible exact LeO.none _)
   |(with_reducible refine LeO.ite ?_ ?_)
   |(with_reducible refine LeO.bind ?_ (fun _=> ?_))
   |exact ih0 _ _ _
   |exact LeO.none _
   |refine LeO.ite ?_ ?_
   |refine LeO.bind ?_ (fun _=> ?_)
theorem r10_Find.mono: ∀a0 a1 k,LeO (r10_Find.f k a0 a1) (r10_Find.f (k+1) a0 a1):=by
 intro a0 a1 k
 have ih0:=r10_Find.mono_l k
 unfold r10_Find.f
 repeat' first
  |(with_reducible exact ih0 _ _ _)
  |(with_reducible exact LeO.refl _)
  |(with_reducible exact LeO.none _)
  |(with_reducible refine LeO.ite ?_ ?_)
  |(with_reducible refine LeO.bind ?_ (fun _=> ?_))
  |exact ih0 _ _ _
  |exact LeO.none _
  |refine LeO.ite ?_ ?_
  |refine LeO.bind ?_ (fun _=> ?_)
set_option maxHeartbeats 8000000 in
set_option maxRecDepth 100000 in
theorem r10_Find.calls (k:Nat) (A0:Option Addr) (c0:Nat) (l0:List (S31)) (a1:ByteArray) (r:Int) (w:World) (hr0:Kd.C k31 w A0 l0.length l0) (hc0:l0.length≤c0) (h:r10_Find.f k l0 a1=some r):
  Calls Try.prog 50 #[.slice A0 l0.length c0, .string a1] w fun e w'=>e= .returned (.int .i64 r)∧Drawn0 w w':=by
 have HR0:=Aside0.mk hr0
 have HC0:=Aside0.mk hc0
 clear hr0 hc0
 have H:(r10_Find.l0 k l0 a1 0)=some r:=h
 clear h
 have H':=Aside0.mk H
 clear H
 go_enter Try.func50,Try.ntmps50
 go_wp2
 go_loopg [5] k (fun kq v5 w'=> ∃(x5_1:Int),v5= .int .i64 x5_1∧Aside0 (r10_Find.l0 kq l0 a1 x5_1=some r)∧Aside0 (kq≤k)∧Drawn0 w w')
 case atStart=>exact ⟨(0),(by first|rfl|(simp;done)|(simp [*];done)),H',⟨Nat.le_refl _⟩,by repeat (first|exact Drawn0.refl _|apply Drawn0.step)⟩
 case round=>
  clear H'
  try clear p2
  obtain ⟨x5_1,rfl,HA,HK1,⟨m1,rfl⟩⟩:=hrel
  cases gk with
  |zero=>exact absurd HA.out (by simp [r10_Find.l0])
  |succ k1=>
   have H:=HA.out
   clear HA
   simp only [r10_Find.l0] at H
   by_cases c3:x5_1<(l0.length:Int)
   ·rw [if_pos c3] at H
    have c3b0:decide (x5_1<(l0.length:Int))=true:=decide_eq_true c3
    clear c3
    by_cases c4:0≤x5_1
    ·rw [if_pos c4] at H
     have c4b0:decide (0≤x5_1)=true:=decide_eq_true c4
     clear c4
     by_cases c5:((rd_T31 l0 x5_1).f0).toList=a1.toList
     ·rw [if_pos c5] at H
      have c5b0:(((rd_T31 l0 x5_1).f0).toList==a1.toList)=true:=beq_iff_eq.mpr c5
      have c5b1:(((rd_T31 l0 x5_1).f0).toList !=a1.toList)=false:=bne_eq_false_iff_eq.mpr c5
      clear c5
      obtain rfl:=Option.some.inj H
      have p1:0≤(x5_1:Int):=of_decide_eq_true zq_
      have q1:x5_1<(l0.length:Int):=of_decide_eq_true zq_
      obtain ⟨ad1,e1,hx1_0,hx1_1,hx1_2,hx1_3,hx1_4,hx1_5,hx1_6,hx1_7,hx1_8,hx1_9,hx1_10,hx1_11⟩:=at_T31 HR0.out x5_1 p1 q1
      cases e1
      replace p1:=eq_true p1
      replace q1:=eq_true q1
      go_wp2
      go_ret
      exact ⟨by first|rfl|(simp;done)|(simp [*];done),by repeat (first|exact Drawn0.refl _|apply Drawn0.step)⟩
     ·rw [if_neg c5] at H
      have c5b0:(((rd_T31 l0 x5_1).f0).toList==a1.toList)=false:=beq_eq_false_iff_ne.mpr c5
      have c5b1:(((rd_T31 l0 x5_1).f0).toList !=a1.toList)=true:=bne_iff_ne.mpr c5
      have H':=Aside0.mk H
      clear H
      have p1:0≤(x5_1:Int):=of_decide_eq_true zq_
      have q1:x5_1<(l0.length:Int):=of_decide_eq_true zq_
      obtain ⟨ad1,e1,hx1_0,hx1_1,hx1_2,hx1_3,hx1_4,hx1_5,hx1_6,hx1_7,hx1_8,hx1_9,hx1_10,hx1_11⟩:=at_T31 HR0.out x5_1 p1 q1
      cases e1
      replace p1:=eq_true p1
      replace q1:=eq_true q1
      go_wp2
      go_roundg k1
      case measure=>have:=HK1.out;omega
      case rel=>exact ⟨(wrap64 (x5_1+1)),(by first|rfl|(simp;done)|(simp [*];done)),H',⟨by have:=HK1.out;omega⟩,by repeat (first|exact Drawn0.refl _|apply Drawn0.step)⟩
    ·rw [if_neg c4] at H
     exact absurd H (by simp)
   ·rw [if_neg c3] at H
    have c3b0:decide (x5_1<(l0.length:Int))=false:=decide_eq_false c3
    clear c3
    obtain rfl:=Option.some.inj H
    go_wp2
    go_ret
    exact ⟨by first|rfl|(simp;done)|(simp [*];done),by repeat (first|exact Drawn0.refl _|apply Drawn0.step)⟩

def slices_Clone_Item.f (l0:List (S31)):Option (List (S31)):=if l0.length<1256584717458 then some l0 else none
set_option maxHeartbeats 8000000 in
set_option maxRecDepth 100000 in
theorem slices_Clone_Item.calls (A0:Option Addr) (c0:Nat) (l0:List (S31)) (r:List (S31)) (w:World) (hr0:Kd.C k31 w A0 l0.length l0) (hc0:l0.length≤c0) (h:slices_Clone_Item.f l0=some r):
    Calls Try.prog 153 #[.slice A0 l0.length c0] w fun e w'=> ∃v0_:Value,e= .returned (v0_)∧Kd.R k31 31 w' w.heap.size (fun _=>True) v0_ r∧Below w.heap.size w w':=by
  have hlim:l0.length<1256584717458∧l0=r:=by
    unfold slices_Clone_Item.f at h
    split at h
    · exact ⟨by assumption,Option.some.inj h⟩
    · cases h
  obtain ⟨hlim,rfl⟩:=hlim
  have hnil:=fun (W:World) (n c:Nat)=>Lib.run_eql_slice_nil (P:=Try.prog) W 24 31 A0 n c 0 0 Try.underlying24
  cases A0 with
  | none =>
    have hl:l0=[]:=by
      cases l0 with
      |nil=>rfl
      |cons x l=>exact absurd (hr0.2.2 (by simp)) (by simp)
    subst hl
    clear hr0
    go_enter Try.func153,Try.ntmps153
    go_wp2
    go_ret
    exact ⟨_,rfl,Kd.R_nil _ _ _ _ _,Below.refl _ _⟩
  | some ad =>
    have HR0:=Aside0.mk hr0
    have HC0:=Aside0.mk hc0
    have LM:=Aside0.mk hlim
    clear hr0 hc0 hlim h
    have HB:=am_ (Below.refl w.heap.size w)
    go_enter Try.func153,Try.ntmps153
    go_wp2_with (first|((with_reducible refine gate_dst (N:=5) rfl ?_);refine Kd.R_lit k31 _ 31 ?hg (N:=5) ?hd (xs:=([]:List (S31))) (inner:=[]) (ok:=fun _=>True) (okp:=fun _=>True) ?hr ?hp (fun _ hk=>hk) trivial (Below.refl _ _) (Nat.le_refl _) (by simp) ?_;(case hd=>rfl);(case hg=>rfl);(case hr=>first|(go_simp;done)|(go_simp;rfl));(case hp=>exact (Reps.none _ _));intro v2 w3 ho4 hb hg_ hnew_;clear hg_ hnew_;have n0_:=am_ (Kd.R_lower ho4 (below_size HB.out));have n1_:=am_ (below_step HB.out hb);clear HB;have HO3:=n0_;have HB:=n1_;clear n0_ n1_;clear hb ho4)|((with_reducible refine gate_builtin (b:= .append) (xs:=#[.tmp 5, .tmp 6]) rfl ?_);at_builtin;refine Kd.R_append_rows k31 (w0:=w) w.heap.size rfl (.tmp 5) (.tmp 6) 24 31 (.agg #[(.string ⟨#[]⟩),(.string ⟨#[]⟩),(.int .i64 0),(.int .i64 0),(.int .i64 0),(.int .i64 0),(.int .i64 0),(.int .i64 0),(.int .i64 0),(.int .i64 0),(.int .i64 0),(.int .i64 0)]) 112 rfl Try.underlying24 info31 rfl (by decide) (by omega) v2 [] l0 _ _ _ (fun _=>True) (fun _=>False) rfl rfl ?aO ?aR (fun _ _ h=>h) (fun _ h=>h.elim) ?aF ?aB ?aS ?aL ?_;(case aR=>exact (Kd.C_below HR0.out HB.out));(case aB=>exact HB.out);(case aF=>exact (fun _ _=>trivial));(case aO=>exact HO3.out);(case aS=>exact (below_size HB.out));(case aL=>have:=LM.out;simp;omega);intro v5 w5 ho hb hg hat;have n0_:=am_ (hb);have n1_:=am_ (ho);clear HB;clear HO3;have HB:=n0_;have HO6:=n1_;clear n0_ n1_;clear ho hb hg hat))
    go_ret
    exact ⟨_,rfl,HO6.out,HB.out⟩


def tree_Below.l0:Nat→ByteArray→List ByteArray→List (S31)→Int→Int→Option (List ByteArray)
 |0,_,_,_,_,_=>none
 |k+1,x1,x5,x8,x9,x10=>if x10<x9 then (if 0≤x10 then (if x10<(x8.length:Int) then (if ((rd_T31 x8 x10).f1).toList=x1.toList then (if x5.length<8796093022208 then (tree_Below.l0 k x1 (x5++ [(rd_T31 x8 x10).f0]) x8 x9 (wrap64 (x10+1))) else (none)) else (tree_Below.l0 k x1 x5 x8 x9 (wrap64 (x10+1)))) else (none)) else (none)) else (some x5)
def tree_Below.f (k:Nat) (l0:List (S31)) (a1:ByteArray):Option (List ByteArray):=tree_Below.l0 k a1 ([]:List ByteArray) l0 (l0.length:Int) 0
theorem tree_Below.mono_l: ∀k,(∀y0 y1 y2 y3 y4,LeO (tree_Below.l0 k y0 y1 y2 y3 y4) (tree_Below.l0 (k+1) y0 y1 y2 y3 y4))
 |0=>fun _ _ _ _ _ r h=>by simp [tree_Below.l0] at h
 |k+1=>by
  have ih0:=tree_Below.mono_l k
  ·intro y0 y1 y2 y3 y4
   unfold tree_Below.l0
   repeat' first
   |(with_reducible exact ih0 _ _ _ _ _)
   |(with_reducible exact LeO.refl _)
   |(with_reducible exact LeO.none _)
   |(with_reducible refine LeO.ite ?_ ?_)
   |(with_reducible refine LeO.bind ?_ (fun _=> ?_))
   |exact ih0 _ _ _ _ _
   |exact LeO.none _
   |refine LeO.ite ?_ ?_
   |refine LeO.bind ?_ (fun _=> ?_)
theorem tree_Below.mono: ∀a0 a1 k,LeO (tree_Below.f k a0 a1) (tree_Below.f (k+1) a0 a1):=by
 intro a0 a1 k
 have ih0:=tree_Below.mono_l k
 unfold tree_Below.f
 repeat' first
  |(with_reducible exact ih0 _ _ _ _ _)
  |(with_reducible exact LeO.refl _)
  |(with_reducible exact LeO.none _)
  |(with_reducible refine LeO.ite ?_ ?_)
  |(with_reducible refine LeO.bind ?_ (fun _=> ?_))
  |exact ih0 _ _ _ _ _
  |exact LeO.none _
  |refine LeO.ite ?_ ?_
  |refine LeO.bind ?_ (fun _=> ?_)
set_option maxHeartbeats 8000000 in
set_option maxRecDepth 100000 in
theorem tree_Below.calls (k:Nat) (A0:Option Addr) (c0:Nat) (l0:List (S31)) (a1:ByteArray) (r:List ByteArray) (w:World) (hr0:Kd.C k31 w A0 l0.length l0) (hc0:l0.length≤c0) (h:tree_Below.f k l0 a1=some r):
  Calls Try.prog 73 #[.slice A0 l0.length c0, .string a1] w fun e w'=> ∃v0_:Value,e= .returned (v0_)∧Kd.R Kd.string 9 w' w.heap.size (fun _=>True) v0_ r∧Below w.heap.size w w':=by
 have hu31:=Try.underlying31
 have HR0:=Aside0.mk hr0
 have HC0:=Aside0.mk hc0
 clear hr0 hc0
 have HB:=am_ (Below.refl w.heap.size w)
 have H:(tree_Below.l0 k a1 ([]:List ByteArray) l0 (l0.length:Int) 0)=some r:=h
 clear h
 have H':=Aside0.mk H
 clear H
 go_enter Try.func73,Try.ntmps73
 go_wp2
 go_loopg [5,10] k (fun kq v5 v10 w'=> ∃(x5_1:List ByteArray) (x10_1:Int),v10= .int .i64 x10_1∧Aside0 (tree_Below.l0 kq a1 x5_1 l0 (l0.length:Int) x10_1=some r)∧Aside0 (kq≤k)∧Aside0 (Kd.R Kd.string 9 w' w.heap.size (fun _=>True) v5 x5_1)∧Aside0 (Below w.heap.size w w'))
 case atStart=>exact ⟨(([]:List ByteArray)),(0),(by first|rfl|(simp;done)|(simp [*];done)),H',⟨Nat.le_refl _⟩,⟨by first|exact Kd.R_nil _ _ _ _ _|exact Kd.N_nil _ _ _ _ _|exact Kd.V_nil _ _ _ _ _|exact Kd.Q_nil _ _ _ _ _|exact Kd.S_nil _ _ _ _ _⟩,⟨zl0_ HB⟩⟩
 case round=>
  clear H'
  try clear p2
  obtain ⟨x5_1,x10_1,rfl,HA,HK1,HO_5,HB⟩:=hrel
  cases gk with
  |zero=>exact absurd HA.out (by simp [tree_Below.l0])
  |succ k1=>
   have H:=HA.out
   clear HA
   simp only [tree_Below.l0] at H
   by_cases c3:x10_1<(l0.length:Int)
   ·rw [if_pos c3] at H
    have c3b0:decide (x10_1<(l0.length:Int))=true:=decide_eq_true c3
    clear c3
    by_cases c4:0≤x10_1
    ·rw [if_pos c4] at H
     have c4b0:decide (0≤x10_1)=true:=decide_eq_true c4
     clear c4
     by_cases c5:x10_1<(l0.length:Int)
     ·rw [if_pos c5] at H
      have c5b0:decide (x10_1<(l0.length:Int))=true:=decide_eq_true c5
      clear c5
      by_cases c6:((rd_T31 l0 x10_1).f1).toList=a1.toList
      ·rw [if_pos c6] at H
       have c6b0:(((rd_T31 l0 x10_1).f1).toList==a1.toList)=true:=beq_iff_eq.mpr c6
       have c6b1:(((rd_T31 l0 x10_1).f1).toList !=a1.toList)=false:=bne_eq_false_iff_eq.mpr c6
       clear c6
       by_cases c7:x5_1.length<8796093022208
       ·rw [if_pos c7] at H
        have LMc7:=Aside0.mk c7
        clear c7
        obtain ⟨y3,hy3⟩: ∃y_:List ByteArray,y_=(x5_1++ [(rd_T31 l0 x10_1).f0]):=⟨_,rfl⟩
        replace H:(tree_Below.l0 k1 a1 y3 l0 (l0.length:Int) (wrap64 (x10_1+1)))=some r:=by first|(rw [hy3];with_reducible exact H)|(have H2_:=(Option.bind_some _ _).symm.trans H;rw [hy3];with_reducible exact H2_)|(have H2_:=(Option.bind_some _ _).symm.trans H;with_reducible exact H2_)|with_reducible exact H|(rw [hy3];exact H)|exact H
        have Ny3:=Aside0.mk hy3
        clear hy3
        have H':=Aside0.mk H
        clear H
        have p1:0≤(x10_1:Int):=of_decide_eq_true zq_
        have q1:x10_1<(l0.length:Int):=of_decide_eq_true zq_
        obtain ⟨ad1,e1,hx1_0,hx1_1,hx1_2,hx1_3,hx1_4,hx1_5,hx1_6,hx1_7,hx1_8,hx1_9,hx1_10,hx1_11⟩:=at_T31 HR0.out x10_1 p1 q1
        cases e1
        replace hx1_0:=zx_ HB hx1_0
        replace hx1_1:=zx_ HB hx1_1
        replace hx1_2:=zx_ HB hx1_2
        replace hx1_3:=zx_ HB hx1_3
        replace hx1_4:=zx_ HB hx1_4
        replace hx1_5:=zx_ HB hx1_5
        replace hx1_6:=zx_ HB hx1_6
        replace hx1_7:=zx_ HB hx1_7
        replace hx1_8:=zx_ HB hx1_8
        replace hx1_9:=zx_ HB hx1_9
        replace hx1_10:=zx_ HB hx1_10
        replace hx1_11:=zx_ HB hx1_11
        replace p1:=eq_true p1
        replace q1:=eq_true q1
        go_wp2_with (first|((with_reducible refine gate_dst (N:=7) rfl ?_);refine box_event ?hg (N:=7) ?hd (cs:=#[.string (⟨#[]⟩:ByteArray), .string (⟨#[]⟩:ByteArray), .int .i64 0, .int .i64 0, .int .i64 0, .int .i64 0, .int .i64 0, .int .i64 0, .int .i64 0, .int .i64 0, .int .i64 0, .int .i64 0]) (t:=31) ?hr ?_;(case hd=>rfl);(case hg=>rfl);(case hr=>first|(go_simp;done)|(go_simp;rfl));intro gb2 hg w8 hbox hb;have n0_:=am_ (Kd.R_below (zr_ HO_5) hb);have n1_:=am_ (below_step (zl0_ HB) hb);have n2_:=am_ (hbox);have n3_:=am_ ((zg0_ HB hg:w.heap.size≤gb2));have n4_:=am_ ((zg0_ HB hg:w.heap.size≤gb2));clear HO_5;clear HB;have HO_5:=n0_;have HB:=n1_;have BK2:=n2_;have GW2:=n3_;have GE2:=n4_;clear n0_ n1_ n2_ n3_ n4_;clear hb hbox hg;have hcz9_0:w8.cell? ⟨gb2,0,none⟩=some (.string (⟨#[]⟩:ByteArray)):=(blk_cell BK2.out 0).trans rfl;have hcz9_1:w8.cell? ⟨gb2,1,none⟩=some (.string (⟨#[]⟩:ByteArray)):=(blk_cell BK2.out 1).trans rfl;have hcz9_2:w8.cell? ⟨gb2,2,none⟩=some (.int .i64 0):=(blk_cell BK2.out 2).trans rfl;have hcz9_3:w8.cell? ⟨gb2,3,none⟩=some (.int .i64 0):=(blk_cell BK2.out 3).trans rfl;have hcz9_4:w8.cell? ⟨gb2,4,none⟩=some (.int .i64 0):=(blk_cell BK2.out 4).trans rfl;have hcz9_5:w8.cell? ⟨gb2,5,none⟩=some (.int .i64 0):=(blk_cell BK2.out 5).trans rfl;have hcz9_6:w8.cell? ⟨gb2,6,none⟩=some (.int .i64 0):=(blk_cell BK2.out 6).trans rfl;have hcz9_7:w8.cell? ⟨gb2,7,none⟩=some (.int .i64 0):=(blk_cell BK2.out 7).trans rfl;have hcz9_8:w8.cell? ⟨gb2,8,none⟩=some (.int .i64 0):=(blk_cell BK2.out 8).trans rfl;have hcz9_9:w8.cell? ⟨gb2,9,none⟩=some (.int .i64 0):=(blk_cell BK2.out 9).trans rfl;have hcz9_10:w8.cell? ⟨gb2,10,none⟩=some (.int .i64 0):=(blk_cell BK2.out 10).trans rfl;have hcz9_11:w8.cell? ⟨gb2,11,none⟩=some (.int .i64 0):=(blk_cell BK2.out 11).trans rfl;have hfz9_0:=blk_frozen BK2.out 0;have hfz9_1:=blk_frozen BK2.out 1;have hfz9_2:=blk_frozen BK2.out 2;have hfz9_3:=blk_frozen BK2.out 3;have hfz9_4:=blk_frozen BK2.out 4;have hfz9_5:=blk_frozen BK2.out 5;have hfz9_6:=blk_frozen BK2.out 6;have hfz9_7:=blk_frozen BK2.out 7;have hfz9_8:=blk_frozen BK2.out 8;have hfz9_9:=blk_frozen BK2.out 9;have hfz9_10:=blk_frozen BK2.out 10;have hfz9_11:=blk_frozen BK2.out 11)|((with_reducible refine gate_builtin (b:= .append) (xs:=#[.tmp 18, .tmp 21]) rfl ?_);at_builtin;refine Kd.R_append Kd.string (w0:=w) w.heap.size rfl (.tmp 18) (.tmp 21) 74 9 (.string ⟨#[]⟩) 16 rfl Try.underlying74 info9 rfl (by decide) (by omega) u5 x5_1 ((rd_T31 l0 x10_1).f0) [.string ((rd_T31 l0 x10_1).f0)] (fun _=>True) (fun _=>False) rfl (by first|(go_simp;done)|(go_simp;rfl)) ?aP (fun _ hk=>hk.elim) ?aF ?aO ?aB ?aS ?aL ?_;(case aP=>exact rfl);(case aB=>exact (zl1_ HB GE2));(case aF=>exact (fun _ _=>trivial));(case aO=>exact (by refine zt_ ?_;exact Kd.R_mono (Kd.R_far (p:=⟨gb2,11,none⟩) (Kd.R_far (p:=⟨gb2,10,none⟩) (Kd.R_far (p:=⟨gb2,9,none⟩) (Kd.R_far (p:=⟨gb2,8,none⟩) (Kd.R_far (p:=⟨gb2,7,none⟩) (Kd.R_far (p:=⟨gb2,6,none⟩) (Kd.R_far (p:=⟨gb2,5,none⟩) (Kd.R_far (p:=⟨gb2,4,none⟩) (Kd.R_far (p:=⟨gb2,3,none⟩) (Kd.R_far (p:=⟨gb2,2,none⟩) (Kd.R_far (p:=⟨gb2,1,none⟩) (Kd.R_far (p:=⟨gb2,0,none⟩) (Kd.R_types HO_5.out BK2.out (by decide)) (fun _ hk=>hk.2) (.string ((rd_T31 l0 x10_1).f0))) (fun _ hk=>hk.2) (.string ((rd_T31 l0 x10_1).f1))) (fun _ hk=>hk.2) (.int .i64 ((rd_T31 l0 x10_1).f2.f0))) (fun _ hk=>hk.2) (.int .i64 ((rd_T31 l0 x10_1).f2.f1))) (fun _ hk=>hk.2) (.int .i64 ((rd_T31 l0 x10_1).f2.f2))) (fun _ hk=>hk.2) (.int .i64 ((rd_T31 l0 x10_1).f3.f0))) (fun _ hk=>hk.2) (.int .i64 ((rd_T31 l0 x10_1).f3.f1))) (fun _ hk=>hk.2) (.int .i64 ((rd_T31 l0 x10_1).f3.f2))) (fun _ hk=>hk.2) (.int .i64 ((rd_T31 l0 x10_1).f4.f0))) (fun _ hk=>hk.2) (.int .i64 ((rd_T31 l0 x10_1).f4.f1))) (fun _ hk=>hk.2) (.int .i64 ((rd_T31 l0 x10_1).f4.f2))) (fun _ hk=>hk.2) (.int .i64 ((rd_T31 l0 x10_1).f5))) (fun _ hk=>trivial)));(case aS=>exact (below_size (zl1_ HB GE2)));(case aL=>have:=LMc7.out;omega);intro v4 w10 ho hb hg hat;rw [←Ny3.out] at ho;have n0_:=am_ (blk_grown (g:=gb2) (o:= .cells #[.string ((rd_T31 l0 x10_1).f0), .string ((rd_T31 l0 x10_1).f1), .int .i64 ((rd_T31 l0 x10_1).f2.f0), .int .i64 ((rd_T31 l0 x10_1).f2.f1), .int .i64 ((rd_T31 l0 x10_1).f2.f2), .int .i64 ((rd_T31 l0 x10_1).f3.f0), .int .i64 ((rd_T31 l0 x10_1).f3.f1), .int .i64 ((rd_T31 l0 x10_1).f3.f2), .int .i64 ((rd_T31 l0 x10_1).f4.f0), .int .i64 ((rd_T31 l0 x10_1).f4.f1), .int .i64 ((rd_T31 l0 x10_1).f4.f2), .int .i64 ((rd_T31 l0 x10_1).f5)] 31 (0,0)) (by refine zk_ ?_;refine blk_put (cs:=#[.string ((rd_T31 l0 x10_1).f0), .string ((rd_T31 l0 x10_1).f1), .int .i64 ((rd_T31 l0 x10_1).f2.f0), .int .i64 ((rd_T31 l0 x10_1).f2.f1), .int .i64 ((rd_T31 l0 x10_1).f2.f2), .int .i64 ((rd_T31 l0 x10_1).f3.f0), .int .i64 ((rd_T31 l0 x10_1).f3.f1), .int .i64 ((rd_T31 l0 x10_1).f3.f2), .int .i64 ((rd_T31 l0 x10_1).f4.f0), .int .i64 ((rd_T31 l0 x10_1).f4.f1), .int .i64 ((rd_T31 l0 x10_1).f4.f2), .int .i64 0]) ?_ 11 _ rfl;refine zk_ ?_;refine blk_put (cs:=#[.string ((rd_T31 l0 x10_1).f0), .string ((rd_T31 l0 x10_1).f1), .int .i64 ((rd_T31 l0 x10_1).f2.f0), .int .i64 ((rd_T31 l0 x10_1).f2.f1), .int .i64 ((rd_T31 l0 x10_1).f2.f2), .int .i64 ((rd_T31 l0 x10_1).f3.f0), .int .i64 ((rd_T31 l0 x10_1).f3.f1), .int .i64 ((rd_T31 l0 x10_1).f3.f2), .int .i64 ((rd_T31 l0 x10_1).f4.f0), .int .i64 ((rd_T31 l0 x10_1).f4.f1), .int .i64 0, .int .i64 0]) ?_ 10 _ rfl;refine zk_ ?_;refine blk_put (cs:=#[.string ((rd_T31 l0 x10_1).f0), .string ((rd_T31 l0 x10_1).f1), .int .i64 ((rd_T31 l0 x10_1).f2.f0), .int .i64 ((rd_T31 l0 x10_1).f2.f1), .int .i64 ((rd_T31 l0 x10_1).f2.f2), .int .i64 ((rd_T31 l0 x10_1).f3.f0), .int .i64 ((rd_T31 l0 x10_1).f3.f1), .int .i64 ((rd_T31 l0 x10_1).f3.f2), .int .i64 ((rd_T31 l0 x10_1).f4.f0), .int .i64 0, .int .i64 0, .int .i64 0]) ?_ 9 _ rfl;refine zk_ ?_;refine blk_put (cs:=#[.string ((rd_T31 l0 x10_1).f0), .string ((rd_T31 l0 x10_1).f1), .int .i64 ((rd_T31 l0 x10_1).f2.f0), .int .i64 ((rd_T31 l0 x10_1).f2.f1), .int .i64 ((rd_T31 l0 x10_1).f2.f2), .int .i64 ((rd_T31 l0 x10_1).f3.f0), .int .i64 ((rd_T31 l0 x10_1).f3.f1), .int .i64 ((rd_T31 l0 x10_1).f3.f2), .int .i64 0, .int .i64 0, .int .i64 0, .int .i64 0]) ?_ 8 _ rfl;refine zk_ ?_;refine blk_put (cs:=#[.string ((rd_T31 l0 x10_1).f0), .string ((rd_T31 l0 x10_1).f1), .int .i64 ((rd_T31 l0 x10_1).f2.f0), .int .i64 ((rd_T31 l0 x10_1).f2.f1), .int .i64 ((rd_T31 l0 x10_1).f2.f2), .int .i64 ((rd_T31 l0 x10_1).f3.f0), .int .i64 ((rd_T31 l0 x10_1).f3.f1), .int .i64 0, .int .i64 0, .int .i64 0, .int .i64 0, .int .i64 0]) ?_ 7 _ rfl;refine zk_ ?_;refine blk_put (cs:=#[.string ((rd_T31 l0 x10_1).f0), .string ((rd_T31 l0 x10_1).f1), .int .i64 ((rd_T31 l0 x10_1).f2.f0), .int .i64 ((rd_T31 l0 x10_1).f2.f1), .int .i64 ((rd_T31 l0 x10_1).f2.f2), .int .i64 ((rd_T31 l0 x10_1).f3.f0), .int .i64 0, .int .i64 0, .int .i64 0, .int .i64 0, .int .i64 0, .int .i64 0]) ?_ 6 _ rfl;refine zk_ ?_;refine blk_put (cs:=#[.string ((rd_T31 l0 x10_1).f0), .string ((rd_T31 l0 x10_1).f1), .int .i64 ((rd_T31 l0 x10_1).f2.f0), .int .i64 ((rd_T31 l0 x10_1).f2.f1), .int .i64 ((rd_T31 l0 x10_1).f2.f2), .int .i64 0, .int .i64 0, .int .i64 0, .int .i64 0, .int .i64 0, .int .i64 0, .int .i64 0]) ?_ 5 _ rfl;refine zk_ ?_;refine blk_put (cs:=#[.string ((rd_T31 l0 x10_1).f0), .string ((rd_T31 l0 x10_1).f1), .int .i64 ((rd_T31 l0 x10_1).f2.f0), .int .i64 ((rd_T31 l0 x10_1).f2.f1), .int .i64 0, .int .i64 0, .int .i64 0, .int .i64 0, .int .i64 0, .int .i64 0, .int .i64 0, .int .i64 0]) ?_ 4 _ rfl;refine zk_ ?_;refine blk_put (cs:=#[.string ((rd_T31 l0 x10_1).f0), .string ((rd_T31 l0 x10_1).f1), .int .i64 ((rd_T31 l0 x10_1).f2.f0), .int .i64 0, .int .i64 0, .int .i64 0, .int .i64 0, .int .i64 0, .int .i64 0, .int .i64 0, .int .i64 0, .int .i64 0]) ?_ 3 _ rfl;refine zk_ ?_;refine blk_put (cs:=#[.string ((rd_T31 l0 x10_1).f0), .string ((rd_T31 l0 x10_1).f1), .int .i64 0, .int .i64 0, .int .i64 0, .int .i64 0, .int .i64 0, .int .i64 0, .int .i64 0, .int .i64 0, .int .i64 0, .int .i64 0]) ?_ 2 _ rfl;refine zk_ ?_;refine blk_put (cs:=#[.string ((rd_T31 l0 x10_1).f0), .string (⟨#[]⟩:ByteArray), .int .i64 0, .int .i64 0, .int .i64 0, .int .i64 0, .int .i64 0, .int .i64 0, .int .i64 0, .int .i64 0, .int .i64 0, .int .i64 0]) ?_ 1 _ rfl;refine zk_ ?_;refine blk_put (cs:=#[.string (⟨#[]⟩:ByteArray), .string (⟨#[]⟩:ByteArray), .int .i64 0, .int .i64 0, .int .i64 0, .int .i64 0, .int .i64 0, .int .i64 0, .int .i64 0, .int .i64 0, .int .i64 0, .int .i64 0]) ?_ 0 _ rfl;refine zk_ ?_;exact BK2.out) hg (Kd.R_ne HO_5.out BK2.out (by decide)));have n1_:=am_ (hb);have n2_:=am_ (ho);clear BK2;clear HB;clear HO_5;have BK2:=n0_;have HB:=n1_;have HO5:=n2_;clear n0_ n1_ n2_;clear ho hb hg hat))
        go_roundg k1
        case measure=>have:=HK1.out;omega
        case rel=>exact ⟨(y3),(wrap64 (x10_1+1)),(by first|rfl|(simp;done)|(simp [*];done)),H',⟨by have:=HK1.out;omega⟩,⟨by (with_reducible repeat (first|apply Kd.R_alloc|apply Kd.R_drewN|apply Kd.R_drew));exact HO5.out⟩,⟨zl1_ HB GE2⟩⟩
       ·rw [if_neg c7] at H
        exact absurd H (by simp)
      ·rw [if_neg c6] at H
       have c6b0:(((rd_T31 l0 x10_1).f1).toList==a1.toList)=false:=beq_eq_false_iff_ne.mpr c6
       have c6b1:(((rd_T31 l0 x10_1).f1).toList !=a1.toList)=true:=bne_iff_ne.mpr c6
       have H':=Aside0.mk H
       clear H
       have p1:0≤(x10_1:Int):=of_decide_eq_true zq_
       have q1:x10_1<(l0.length:Int):=of_decide_eq_true zq_
       obtain ⟨ad1,e1,hx1_0,hx1_1,hx1_2,hx1_3,hx1_4,hx1_5,hx1_6,hx1_7,hx1_8,hx1_9,hx1_10,hx1_11⟩:=at_T31 HR0.out x10_1 p1 q1
       cases e1
       replace hx1_0:=zx_ HB hx1_0
       replace hx1_1:=zx_ HB hx1_1
       replace hx1_2:=zx_ HB hx1_2
       replace hx1_3:=zx_ HB hx1_3
       replace hx1_4:=zx_ HB hx1_4
       replace hx1_5:=zx_ HB hx1_5
       replace hx1_6:=zx_ HB hx1_6
       replace hx1_7:=zx_ HB hx1_7
       replace hx1_8:=zx_ HB hx1_8
       replace hx1_9:=zx_ HB hx1_9
       replace hx1_10:=zx_ HB hx1_10
       replace hx1_11:=zx_ HB hx1_11
       replace p1:=eq_true p1
       replace q1:=eq_true q1
       go_wp2_with ((with_reducible refine gate_dst (N:=7) rfl ?_);refine box_event ?hg (N:=7) ?hd (cs:=#[.string (⟨#[]⟩:ByteArray), .string (⟨#[]⟩:ByteArray), .int .i64 0, .int .i64 0, .int .i64 0, .int .i64 0, .int .i64 0, .int .i64 0, .int .i64 0, .int .i64 0, .int .i64 0, .int .i64 0]) (t:=31) ?hr ?_;(case hd=>rfl);(case hg=>rfl);(case hr=>first|(go_simp;done)|(go_simp;rfl));intro gb2 hg w11 hbox hb;have n0_:=am_ (Kd.R_below (zr_ HO_5) hb);have n1_:=am_ (below_step (zl0_ HB) hb);have n2_:=am_ (hbox);have n3_:=am_ ((zg0_ HB hg:w.heap.size≤gb2));have n4_:=am_ ((zg0_ HB hg:w.heap.size≤gb2));clear HO_5;clear HB;have HO_5:=n0_;have HB:=n1_;have BK2:=n2_;have GW2:=n3_;have GE2:=n4_;clear n0_ n1_ n2_ n3_ n4_;clear hb hbox hg;have hcz12_0:w11.cell? ⟨gb2,0,none⟩=some (.string (⟨#[]⟩:ByteArray)):=(blk_cell BK2.out 0).trans rfl;have hcz12_1:w11.cell? ⟨gb2,1,none⟩=some (.string (⟨#[]⟩:ByteArray)):=(blk_cell BK2.out 1).trans rfl;have hcz12_2:w11.cell? ⟨gb2,2,none⟩=some (.int .i64 0):=(blk_cell BK2.out 2).trans rfl;have hcz12_3:w11.cell? ⟨gb2,3,none⟩=some (.int .i64 0):=(blk_cell BK2.out 3).trans rfl;have hcz12_4:w11.cell? ⟨gb2,4,none⟩=some (.int .i64 0):=(blk_cell BK2.out 4).trans rfl;have hcz12_5:w11.cell? ⟨gb2,5,none⟩=some (.int .i64 0):=(blk_cell BK2.out 5).trans rfl;have hcz12_6:w11.cell? ⟨gb2,6,none⟩=some (.int .i64 0):=(blk_cell BK2.out 6).trans rfl;have hcz12_7:w11.cell? ⟨gb2,7,none⟩=some (.int .i64 0):=(blk_cell BK2.out 7).trans rfl;have hcz12_8:w11.cell? ⟨gb2,8,none⟩=some (.int .i64 0):=(blk_cell BK2.out 8).trans rfl;have hcz12_9:w11.cell? ⟨gb2,9,none⟩=some (.int .i64 0):=(blk_cell BK2.out 9).trans rfl;have hcz12_10:w11.cell? ⟨gb2,10,none⟩=some (.int .i64 0):=(blk_cell BK2.out 10).trans rfl;have hcz12_11:w11.cell? ⟨gb2,11,none⟩=some (.int .i64 0):=(blk_cell BK2.out 11).trans rfl;have hfz12_0:=blk_frozen BK2.out 0;have hfz12_1:=blk_frozen BK2.out 1;have hfz12_2:=blk_frozen BK2.out 2;have hfz12_3:=blk_frozen BK2.out 3;have hfz12_4:=blk_frozen BK2.out 4;have hfz12_5:=blk_frozen BK2.out 5;have hfz12_6:=blk_frozen BK2.out 6;have hfz12_7:=blk_frozen BK2.out 7;have hfz12_8:=blk_frozen BK2.out 8;have hfz12_9:=blk_frozen BK2.out 9;have hfz12_10:=blk_frozen BK2.out 10;have hfz12_11:=blk_frozen BK2.out 11)
       go_roundg k1
       case measure=>have:=HK1.out;omega
       case rel=>exact ⟨(x5_1),(wrap64 (x10_1+1)),(by first|rfl|(simp;done)|(simp [*];done)),H',⟨by have:=HK1.out;omega⟩,⟨by (with_reducible repeat (first|apply Kd.R_alloc|apply Kd.R_drewN|apply Kd.R_drew));exact Kd.R_mono (Kd.R_far (p:=⟨gb2,11,none⟩) (Kd.R_far (p:=⟨gb2,10,none⟩) (Kd.R_far (p:=⟨gb2,9,none⟩) (Kd.R_far (p:=⟨gb2,8,none⟩) (Kd.R_far (p:=⟨gb2,7,none⟩) (Kd.R_far (p:=⟨gb2,6,none⟩) (Kd.R_far (p:=⟨gb2,5,none⟩) (Kd.R_far (p:=⟨gb2,4,none⟩) (Kd.R_far (p:=⟨gb2,3,none⟩) (Kd.R_far (p:=⟨gb2,2,none⟩) (Kd.R_far (p:=⟨gb2,1,none⟩) (Kd.R_far (p:=⟨gb2,0,none⟩) (Kd.R_types HO_5.out BK2.out (by decide)) (fun _ hk=>hk.2) (.string ((rd_T31 l0 x10_1).f0))) (fun _ hk=>hk.2) (.string ((rd_T31 l0 x10_1).f1))) (fun _ hk=>hk.2) (.int .i64 ((rd_T31 l0 x10_1).f2.f0))) (fun _ hk=>hk.2) (.int .i64 ((rd_T31 l0 x10_1).f2.f1))) (fun _ hk=>hk.2) (.int .i64 ((rd_T31 l0 x10_1).f2.f2))) (fun _ hk=>hk.2) (.int .i64 ((rd_T31 l0 x10_1).f3.f0))) (fun _ hk=>hk.2) (.int .i64 ((rd_T31 l0 x10_1).f3.f1))) (fun _ hk=>hk.2) (.int .i64 ((rd_T31 l0 x10_1).f3.f2))) (fun _ hk=>hk.2) (.int .i64 ((rd_T31 l0 x10_1).f4.f0))) (fun _ hk=>hk.2) (.int .i64 ((rd_T31 l0 x10_1).f4.f1))) (fun _ hk=>hk.2) (.int .i64 ((rd_T31 l0 x10_1).f4.f2))) (fun _ hk=>hk.2) (.int .i64 ((rd_T31 l0 x10_1).f5))) (fun _ hk=>trivial)⟩,⟨zl1_ HB GE2⟩⟩
     ·rw [if_neg c5] at H
      exact absurd H (by simp)
    ·rw [if_neg c4] at H
     exact absurd H (by simp)
   ·rw [if_neg c3] at H
    have c3b0:decide (x10_1<(l0.length:Int))=false:=decide_eq_false c3
    clear c3
    obtain rfl:=Option.some.inj H
    go_wp2
    go_ret
    exact ⟨_,by first|rfl|(simp [errW_none,errW_some]<;>rfl)|(simp [*,errW_none,errW_some]<;>rfl),by (with_reducible repeat (first|apply Kd.R_alloc|apply Kd.R_drewN|apply Kd.R_drew));exact HO_5.out,zl0_ HB⟩

def fidx {α:Type} (p:α→Bool):List α→Int→Int
 |[],_=> -1
 |x::l,i=>if p x=true then i else fidx p l (i+1)
theorem fidx_drop {α:Type} (p:α→Bool) (z:α) (l:List α) (i:Nat) (h:i<l.length):fidx p (l.drop i) i=if p (l.getD i z)=true then (i:Int) else fidx p (l.drop (i+1)) ((i+1:Nat):Int):=by
 rw [List.drop_eq_getElem_cons h,List.getD_eq_getElem?_getD,List.getElem?_eq_getElem h]
 rfl
def itemCells (x:S31):Array Value:=#[.string x.f0, .string x.f1, .int .i64 x.f2.f0, .int .i64 x.f2.f1, .int .i64 x.f2.f2, .int .i64 x.f3.f0, .int .i64 x.f3.f1, .int .i64 x.f3.f2, .int .i64 x.f4.f0, .int .i64 x.f4.f1, .int .i64 x.f4.f2, .int .i64 x.f5]
set_option maxHeartbeats 1000000 in
set_option maxRecDepth 100000 in
theorem idxItem_calls (g:Nat) (lb:Array Value) (p:S31→Bool) (eg: ∀args w,(callFunc g args).run Try.prog w= .ok (.enter g args) w) (w:World)
    (hp: ∀W x,Below w.heap.size w W→Calls Try.prog g (#[.agg (itemCells x)]++lb) W fun e w'=>e= .returned (.bool (p x))∧Below W.heap.size W w')
    (A:Option Addr) (c:Nat) (l:List S31) (hr0:Kd.C k31 w A l.length l) (hc0:l.length≤c):
    Calls Try.prog 127 #[.slice A l.length c, .func (.func g) #[] lb] w fun e w'=>e= .returned (.int .i64 (fidx p l 0))∧Below w.heap.size w w':=by
  have hu31:=Try.underlying31
  have HR0:=Aside0.mk hr0
  have HP:=Aside0.mk hp
  have HEG:=Aside0.mk eg
  have hm:l.length≤9223372036854775807:=hr0.2.1
  clear hr0 hp eg
  go_enter Try.func127,Try.ntmps127
  go_wp2
  go_loopg [5,8] l.length (fun kq s5 s8 wr=> ∃i:Nat,i≤l.length∧l.length - i≤kq∧s8= .int .i64 i∧Aside0 (Below w.heap.size w wr)∧Aside0 (fidx p l 0=fidx p (l.drop i) i))
  case atStart=>exact ⟨0,by omega,by omega,rfl,⟨Below.refl _ _⟩,⟨rfl⟩⟩
  case round=>
    obtain ⟨i,hi,hg,rfl,HB,HF⟩:=hrel
    by_cases hlt:i<l.length
    · have hltz : (i : Int) < (l.length : Int) := by omega
      obtain ⟨ad,e1,h0,h1,h2,h3,h4,h5,h6,h7,h8,h9,h10,h11⟩:=at_T31 HR0.out (i:Int) (by omega) (by omega)
      cases e1
      simp only [Int.toNat_natCast] at h0 h1 h2 h3 h4 h5 h6 h7 h8 h9 h10 h11
      replace h0:=zx_ HB h0
      replace h1:=zx_ HB h1
      replace h2:=zx_ HB h2
      replace h3:=zx_ HB h3
      replace h4:=zx_ HB h4
      replace h5:=zx_ HB h5
      replace h6:=zx_ HB h6
      replace h7:=zx_ HB h7
      replace h8:=zx_ HB h8
      replace h9:=zx_ HB h9
      replace h10:=zx_ HB h10
      replace h11:=zx_ HB h11
      have hd:Aside0 _:=⟨fidx_drop p z31 l i hlt⟩
      have HC:=am_ (HP.out wr (rd_T31 l i) HB.out)
      generalize hy:rd_T31 l i=y at h0 h1 h2 h3 h4 h5 h6 h7 h8 h9 h10 h11 HC
      have hq:p (l.getD i z31)=p y:=by rw [←hy];simp [rd_T31]
      have HQ:=Aside0.mk hq
      clear hy hq
      have eg:=HEG.out
      cases hb:p y with
      | true =>
        rw [hb] at HC HQ
        clear hb
        go_wp2_with (go_at_fn g;refine HC.out.mono ?_;rintro e w' ⟨rfl,hb'⟩;have HB':=am_ (below_step HB.out hb');clear hb')
        go_ret
        refine ⟨?_,HB'.out⟩
        rw [HF.out,hd.out,HQ.out]
        rfl
      | false =>
        rw [hb] at HC HQ
        clear hb
        go_wp2_with (go_at_fn g;refine HC.out.mono ?_;rintro e w' ⟨rfl,hb'⟩;have HB':=am_ (below_step HB.out hb');clear hb')
        go_roundg (l.length - (i+1))
        case measure=>omega
        case rel=>exact ⟨i+1,by omega,by omega,by go_num,HB',⟨by rw [HF.out,hd.out,HQ.out];rfl⟩⟩
    · obtain rfl : i = l.length := by omega
      go_wp2
      go_ret
      refine ⟨?_,HB.out⟩
      rw [HF.out,List.drop_length]
      rfl


set_option maxHeartbeats 1000000 in
set_option maxRecDepth 100000 in
theorem treeFind1_calls (W:World) (b:Nat) (nm:ByteArray) (hb:W.heap[b]?=some (.cells #[.string nm] 9 (0,0))) (x:S31):
  Calls Try.prog 128 #[.agg (itemCells x), .pointer (some ⟨b,0,none⟩)] W fun e w'=>e= .returned (.bool (x.f0.toList==nm.toList))∧Below W.heap.size W w':=by
 unfold itemCells
 have hu31:=Try.underlying31
 have h0:=(blk_cell hb 0).trans rfl
 have hl:b<W.heap.size:=blk_lt hb
 clear hb
 go_enter Try.func128,Try.ntmps128
 go_wp2
 go_ret
 exact ⟨rfl,by repeat (first|(with_reducible first|exact Below.refl _ _|apply below_alloc|apply pw_below_drewN|apply below_drew1))⟩
def tree_Find.f (l0:List (S31)) (a1:ByteArray):Option Int:=some (fidx (fun x=>x.f0.toList==a1.toList) l0 0)
set_option maxHeartbeats 1000000 in
set_option maxRecDepth 100000 in
theorem tree_Find.calls (A0:Option Addr) (c0:Nat) (l0:List (S31)) (a1:ByteArray) (r:Int) (w:World) (hr0:Kd.C k31 w A0 l0.length l0) (hc0:l0.length≤c0) (h:tree_Find.f l0 a1=some r):
  Calls Try.prog 71 #[.slice A0 l0.length c0, .string a1] w fun e w'=>e= .returned (.int .i64 r)∧Below w.heap.size w w':=by
 have hr:fidx (fun x=>x.f0.toList==a1.toList) l0 0=r:=Option.some.inj h
 obtain ⟨W1,hW1⟩: ∃W1,W1=w.alloc (.cells #[.string a1] 9):=⟨_,rfl⟩
 have hn:W1.heap[w.heap.size]?=some (.cells #[.string a1] 9 (0,0)):=by rw [hW1];exact blk_new _ _
 have hB:Below w.heap.size w W1:=by rw [hW1];exact below_alloc (Below.refl _ _) _
 have HC:=am_ (idxItem_calls 128 #[.pointer (some ⟨w.heap.size,0,none⟩)] (fun x=>x.f0.toList==a1.toList) (enters_of Try.func128 (by kernel_rfl) rfl) W1 (fun W x hb=>treeFind1_calls W w.heap.size a1 (blk_below hn hb) x) A0 c0 l0 (Kd.C_below hr0 hB) hc0)
 rw [hr] at HC
 have HW:=Aside0.mk hW1
 have HB:=Aside0.mk hB
 clear hr0 hr hW1 hn hB h
 go_enter Try.func71,Try.ntmps71
 go_wp2_with fail
 rw [←HW.out]
 refine HC.out.mono ?_
 rintro e w' ⟨rfl,hb⟩
 have HB':=am_ (below_step HB.out hb)
 clear hb
 go_wp2
 go_ret
 exact ⟨rfl,HB'.out⟩


def shape_made.f (l0:List (S31)) (a1:ByteArray):Option ((List (S31))×Int):=(slices_Clone_Item.f l0).bind fun t2=>((tree_Find.f l0 a1).bind fun t5=>(some (t2,t5)))
set_option maxHeartbeats 8000000 in
set_option maxRecDepth 100000 in
theorem shape_made.calls (A0:Option Addr) (c0:Nat) (l0:List (S31)) (a1:ByteArray) (r1:List (S31)) (r2:Int) (w:World) (hr0:Kd.C k31 w A0 l0.length l0) (hc0:l0.length≤c0) (h:shape_made.f l0 a1=some (r1,r2)):
  Calls Try.prog 137 #[.slice A0 l0.length c0, .string a1] w fun e w'=> ∃v0_:Value,e= .returned (.agg #[v0_, .int .i64 r2])∧Kd.R k31 31 w' w.heap.size (fun _=>True) v0_ r1∧Below w.heap.size w w':=by
 have hu168:=Try.underlying168
 have hu166:=Try.underlying166
 have HR0:=Aside0.mk hr0
 have HC0:=Aside0.mk hc0
 clear hr0 hc0
 have HB:=am_ (Below.refl w.heap.size w)
 have H:((slices_Clone_Item.f l0).bind fun t2=>((tree_Find.f l0 a1).bind fun t5=>(some (t2,t5))))=some (r1,r2):=h
 clear h
 replace H:=Option.bind_eq_some_iff.mp H
 obtain ⟨t2,A30,H⟩:=H
 replace H:((tree_Find.f l0 a1).bind fun t5=>(some (t2,t5)))=some (r1,r2):=H
 have A3:=Aside0.mk A30
 clear A30
 replace H:=Option.bind_eq_some_iff.mp H
 obtain ⟨t5,A40,H⟩:=H
 replace H:(some (t2,t5))=some (r1,r2):=H
 have A4:=Aside0.mk A40
 clear A40
 simp only [Option.some.injEq,Prod.mk.injEq] at H
 obtain ⟨rfl,rfl⟩:=H
 go_enter Try.func137,Try.ntmps137
 go_wp2_with (first|((with_reducible refine gate_dst (N:=4) rfl ?_);refine box_event ?hg (N:=4) ?hd (cs:=#[.slice none 0 0, .int .i64 0]) (t:=168) ?hr ?_;(case hd=>rfl);(case hg=>rfl);(case hr=>first|(go_simp;done)|(go_simp;rfl));intro gb1 hg w5 hbox hb;have n0_:=am_ (below_step (zl0_ HB) hb);have n1_:=am_ (hbox);have n2_:=am_ ((zg0_ HB hg:w.heap.size≤gb1));have n3_:=am_ ((zg0_ HB hg:w.heap.size≤gb1));clear HB;have HB:=n0_;have BK1:=n1_;have GW1:=n2_;have GE1:=n3_;clear n0_ n1_ n2_ n3_;clear hb hbox hg)|((with_reducible refine gate_callee (f:=153) rfl ?_);refine goesL_ (some 6) rfl rfl Try.func153 (by kernel_rfl) rfl #[.slice A0 l0.length c0] rfl zs_ ?_;(with_reducible refine (slices_Clone_Item.calls _ _ l0 t2 _ ?side1 ?side2 A3.out).mono ?_);(case side1=>exact zc_ (Kd.C_below HR0.out HB.out));(case side2=>exact HC0.out);rintro e w6 ⟨v3,rfl,ho0,hb⟩;refine ⟨_,rfl, ?_⟩;have n0_:=am_ (Kd.R_lower ho0 (below_size (zl1_ HB GE1)));have n1_:=am_ (blk_below (zb_ BK1) hb);have n2_:=am_ (below_step (zl1_ HB GE1) hb);clear BK1;clear HB;have HO4:=n0_;have BK1:=n1_;have HB:=n2_;clear n0_ n1_ n2_;(try clear hb);(try clear hb2);(try clear hk);(try clear hi);(try clear ho0);obtain ⟨Ao7,co7,eo7⟩:=Kd.R_slice HO4.out;subst eo7)|((with_reducible refine gate_callee (f:=71) rfl ?_);refine goesL_ (some 10) rfl rfl Try.func71 (by kernel_rfl) rfl #[.slice A0 l0.length c0, .string a1] rfl zs_ ?_;(with_reducible refine (tree_Find.calls _ _ l0 a1 t5 _ ?side1 ?side2 A4.out).mono ?_);(case side1=>exact zc_ (Kd.C_below HR0.out HB.out));(case side2=>exact HC0.out);rintro e w8 ⟨rfl,hb⟩;refine ⟨_,rfl, ?_⟩;have n0_:=am_ (Kd.R_below (zr_ HO4) hb);have n1_:=am_ (blk_below (zb_ BK1) hb);have n2_:=am_ (below_step (zl1_ HB GE1) hb);clear HO4;clear BK1;clear HB;have HO4:=n0_;have BK1:=n1_;have HB:=n2_;clear n0_ n1_ n2_;(try clear hb);(try clear hb2);(try clear hk);(try clear hi);have hcz9_0:w8.cell? ⟨gb1,0,none⟩=some (.slice none 0 0):=(blk_cell BK1.out 0).trans rfl;have hcz9_1:w8.cell? ⟨gb1,1,none⟩=some (.int .i64 0):=(blk_cell BK1.out 1).trans rfl;have hfz9_0:=blk_frozen BK1.out 0;have hfz9_1:=blk_frozen BK1.out 1))
 refine bodyPost_ret (results_cell_row rfl _ _ gb1 168 #[.slice Ao7 t2.length co7, .int .i64 t5] (0,0) _ rfl (by refine zk_ ?_;refine blk_put (cs:=#[.slice Ao7 t2.length co7, .int .i64 0]) ?_ 1 _ rfl;refine zk_ ?_;refine blk_put (cs:=#[.slice none 0 0, .int .i64 0]) ?_ 0 _ rfl;refine zk_ ?_;exact BK1.out) Try.underlying168 rfl (by kernel_rfl)) rfl ?_
 exact ⟨_,by first|rfl|(simp [errW_none,errW_some]<;>rfl)|(simp [*,errW_none,errW_some]<;>rfl),by (with_reducible repeat (first|apply Kd.R_alloc|apply Kd.R_drewN|apply Kd.R_drew));exact Kd.R_mono (Kd.R_far (p:=⟨gb1,1,none⟩) (Kd.R_far (p:=⟨gb1,0,none⟩) (Kd.R_types HO4.out BK1.out (by decide)) (fun _ hk=>hk.2) (.slice Ao7 t2.length co7)) (fun _ hk=>hk.2) (.int .i64 t5)) (fun _ hk=>trivial),zl1_ HB GE1⟩

theorem sh_head {α:Type} {d:Kd α} {e base:Nat} {ok:Nat→Prop} {w:World} {v:Value} {xs:List α} (h:d.R e w base ok v xs) (hn:0<xs.length): ∃(g c:Nat),v= .slice (some ⟨g,0,none⟩) xs.length c∧base≤g∧g<w.heap.size:=by
  obtain ⟨_,inner,⟨_,h|⟨g,cap,cur,rfl,hg,hh,_⟩⟩,_⟩:=h
  · omega
  · exact ⟨g,cap,rfl,hg,blk_lt hh⟩
def shCells (y:S31):List Value:=[.string y.f0, .string y.f1, .int .i64 y.f2.f0, .int .i64 y.f2.f1, .int .i64 y.f2.f2, .int .i64 y.f3.f0, .int .i64 y.f3.f1, .int .i64 y.f3.f2, .int .i64 y.f4.f0, .int .i64 y.f4.f1, .int .i64 y.f4.f2, .int .i64 y.f5]
theorem sh_cells {base:Nat} {w:World} {g c:Nat} {l:List S31} (h:Kd.R k31 31 w base (fun _=>True) (.slice (some ⟨g,0,none⟩) l.length c) l) (j:Int) (h0:0≤j) (h1:j<(l.length:Int)):
  ∀j' u,(shCells (rd_T31 l j))[j']?=some u→w.cell? ⟨g,j.toNat*12+j',none⟩=some u:=by
 obtain ⟨ad2,cc,e3,hcl,hK,hcc0⟩:=Kd.C_get (Kd.R_reads' h).2.2 z31 j h0 h1
 cases e3
 have hcc: ∀j' u,cc[j']?=some u→w.cell? (Addr.add ⟨g,0,none⟩ (j.toNat*12+j'))=some u:=hcc0
 obtain rfl:=k31_open hK
 intro j' u hu
 have:=hcc j' u hu
 rwa [Addr.add_lit,Nat.zero_add] at this
set_option maxHeartbeats 1000000 in
set_option maxRecDepth 100000 in
theorem shapeItem_calls (W:World) (ad:Addr) (n c:Nat) (j:Int) (h0:0≤j) (h1:j<(n:Int)):
  Calls Try.prog 141 #[.agg #[.slice (some ad) n c, .int .i64 j]] W fun e w'=>e= .returned (.pointer (some (ad.add (j.toNat*12))))∧Below W.heap.size W w':=by
 have hu168:=Try.underlying168
 have hu166:=Try.underlying166
 have q0:=eq_true h0
 have q1:=eq_true h1
 go_enter Try.func141,Try.ntmps141
 go_wp2_with fail
 go_ret
 exact ⟨rfl,below_alloc (Below.refl _ _) _⟩
def guardF (l:List S31) (j ver:Int):Option Int:=if j<0 then some 2 else if j<(l.length:Int) then (if 0≤ver∧(rd_T31 l j).f5≠ver then some 14 else some 0) else none
set_option maxHeartbeats 2000000 in
set_option maxRecDepth 100000 in
theorem shapeGuard_calls (W:World) (base:Nat) (v:Value) (l:List S31) (j ver r:Int) (hr:Kd.R k31 31 W base (fun _=>True) v l) (h:guardF l j ver=some r):
    Calls Try.prog 140 #[.agg #[v, .int .i64 j], .int .i64 ver] W fun e w'=>e= .returned (.int .i64 r)∧Below W.heap.size W w':=by
  have hu168:=Try.underlying168
  have hu166:=Try.underlying166
  have hu31:=Try.underlying31
  have hu27:=Try.underlying27
  have HR:=Aside0.mk hr
  clear hr
  unfold guardF at h
  by_cases hj:j<0
  · rw [if_pos hj] at h
    cases h
    have q0:=eq_true hj
    clear hj
    go_enter Try.func140,Try.ntmps140
    go_wp2_with fail
    go_ret
    exact ⟨rfl,below_alloc (Below.refl _ _) _⟩
  · rw [if_neg hj] at h
    by_cases h1:j<(l.length:Int)
    · rw [if_pos h1] at h
      have h0:0≤j:=by omega
      obtain ⟨gb,cap,rfl,hgb,hgl⟩:=sh_head HR.out (by omega)
      have HC:=sh_cells HR.out j h0 h1
      generalize rd_T31 l j=y at HC h
      have k0:W.cell? ⟨gb,j.toNat*12+11,none⟩=some (.int .i64 y.f5):=HC 11 _ rfl
      have q1:=eq_false hj
      have H0:=Aside0.mk h0
      have H1:=Aside0.mk h1
      have HH:=Aside0.mk h
      have HGL:=Aside0.mk hgl
      have K0:=Aside0.mk k0
      clear HC h hj k0
      by_cases hv:0≤ver
      · have q2 := eq_true hv
        by_cases hw:y.f5=ver
        · subst hw
          have hr0:=HH.out
          rw [if_neg (by simp)] at hr0
          cases hr0
          go_enter Try.func140,Try.ntmps140
          go_wp2_with (go_at_call 141;refine (shapeItem_calls _ ⟨gb,0,none⟩ l.length cap j H0.out H1.out).mono ?_;rintro e w3 ⟨rfl,hb⟩;have HB3:=am_ (below_then (below_alloc (Below.refl W.heap.size W) _) (by simp) hb);have k3:=(HB3.out.cell (p:=⟨gb,j.toNat*12+11,none⟩) HGL.out).trans K0.out;clear hb)
          go_ret
          exact ⟨rfl,HB3.out⟩
        · have hr0 := HH.out
          rw [if_pos ⟨hv,hw⟩] at hr0
          cases hr0
          have q3:=eq_false hw
          go_enter Try.func140,Try.ntmps140
          go_wp2_with (go_at_call 141;refine (shapeItem_calls _ ⟨gb,0,none⟩ l.length cap j H0.out H1.out).mono ?_;rintro e w3 ⟨rfl,hb⟩;have HB3:=am_ (below_then (below_alloc (Below.refl W.heap.size W) _) (by simp) hb);have k3:=(HB3.out.cell (p:=⟨gb,j.toNat*12+11,none⟩) HGL.out).trans K0.out;clear hb)
          go_ret
          exact ⟨rfl,HB3.out⟩
      · have q2 := eq_false hv
        have hr0:=HH.out
        rw [if_neg (fun h=>hv h.1)] at hr0
        cases hr0
        go_enter Try.func140,Try.ntmps140
        go_wp2_with fail
        go_ret
        exact ⟨rfl,below_alloc (Below.refl _ _) _⟩
    · rw [if_neg h1] at h
      cases h
def verF (y:S31):S31:=⟨y.f0,y.f1,y.f2,y.f3,y.f4,wrap64 (y.f5+1)⟩
def olderF (l:List S31) (j:Int):Option (Int×List S31):=if 0≤j∧j<(l.length:Int) then (if (rd_T31 l j).f5≥9007199254740992 then some (4,l) else some (0,l.set j.toNat (verF (rd_T31 l j)))) else none
structure Turned (W w':World) (base:Nat) (v:Value):Prop where
 below:Below base W w'
 block: ∀(k:Nat) o,W.heap[k]?=some o→some k≠v.ownBlock→w'.heap[k]?=some o
theorem Turned.of_below {W w':World} {base:Nat} {v:Value} (h:Below W.heap.size W w') (hb:base≤W.heap.size):Turned W w' base v:=⟨⟨h.os,h.tape,h.output,h.size,fun k hk=>h.block k (Nat.lt_of_lt_of_le hk hb)⟩,fun k o hk _=>blk_below hk h⟩
theorem Turned.then_grown {W w1 w2:World} {base g n c:Nat} (h:Turned W w1 base (.slice (some ⟨g,0,none⟩) n c)) (hb:base≤W.heap.size) (hg0:base≤g) (hg:w1.grownBy w2 (some g)):Turned W w2 base (.slice (some ⟨g,0,none⟩) n c):=
 ⟨pw_below_grown h.below (some g) (Nat.le_trans hb h.below.size) hg (fun k e=>by cases e;exact hg0),fun b o hk hn=>blk_grown (h.block b o hk hn) hg (by intro e;cases e;exact hn rfl)⟩
set_option maxHeartbeats 2000000 in
set_option maxRecDepth 100000 in
theorem shapeOlder_calls (W:World) (base:Nat) (v:Value) (l r2:List S31) (j r1:Int) (hr:Kd.R k31 31 W base (fun _=>True) v l) (hbase:base≤W.heap.size) (h:olderF l j=some (r1,r2)):
    Calls Try.prog 143 #[.agg #[v, .int .i64 j]] W fun e w'=>e= .returned (.int .i64 r1)∧Kd.R k31 31 w' base (fun _=>True) v r2∧Turned W w' base v:=by
  have hu168:=Try.underlying168
  have hu166:=Try.underlying166
  have hu31:=Try.underlying31
  have hu27:=Try.underlying27
  have HR:=Aside0.mk hr
  have HBS:=Aside0.mk hbase
  clear hr hbase
  unfold olderF at h
  by_cases hj:0≤j∧j<(l.length:Int)
  · rw [if_pos hj] at h
    obtain ⟨h0,h1⟩:=hj
    obtain ⟨gb,cap,rfl,hgb,hgl⟩:=sh_head HR.out (by omega)
    have hc0:=sh_cells HR.out j h0 h1
    generalize hy:rd_T31 l j=y at hc0 h
    have HY:=Aside0.mk hy
    clear hy
    have k0:W.cell? ⟨gb,j.toNat*12+11,none⟩=some (.int .i64 y.f5):=hc0 11 _ rfl
    have H0:=Aside0.mk h0
    have H1:=Aside0.mk h1
    have HC:=Aside0.mk hc0
    have HGL:=Aside0.mk hgl
    have HGB:=Aside0.mk hgb
    have K0:=Aside0.mk k0
    clear k0 h0 h1 hc0 hgl hgb
    by_cases hv:y.f5≥9007199254740992
    · rw [if_pos hv] at h
      cases h
      have q0:=eq_true hv
      go_enter Try.func143,Try.ntmps143
      go_wp2_with (go_at_call 141;refine (shapeItem_calls _ ⟨gb,0,none⟩ l.length cap j H0.out H1.out).mono ?_;rintro e w3 ⟨rfl,hb⟩;have HB3:=am_ (below_then (below_alloc (Below.refl W.heap.size W) _) (by simp) hb);have k3:=(HB3.out.cell (p:=⟨gb,j.toNat*12+11,none⟩) HGL.out).trans K0.out;have BK3:=am_ (blk_below (blk_new W _) hb);have d0:=(blk_cell BK3.out 0).trans rfl;have d1:=(blk_cell BK3.out 1).trans rfl;clear hb)
      go_ret
      exact ⟨rfl,Kd.R_below HR.out HB3.out,Turned.of_below HB3.out HBS.out⟩
    · rw [if_neg hv] at h
      cases h
      have q0:=eq_false hv
      go_enter Try.func143,Try.ntmps143
      go_wp2_with (go_at_call 141;refine (shapeItem_calls _ ⟨gb,0,none⟩ l.length cap j H0.out H1.out).mono ?_;rintro e w3 ⟨rfl,hb⟩;have HB3:=am_ (below_then (below_alloc (Below.refl W.heap.size W) _) (by simp) hb);have k3:=(HB3.out.cell (p:=⟨gb,j.toNat*12+11,none⟩) HGL.out).trans K0.out;have BK3:=am_ (blk_below (blk_new W _) hb);have d0:=(blk_cell BK3.out 0).trans rfl;have d1:=(blk_cell BK3.out 1).trans rfl;clear hb)
      clear k3
      go_wp2_with (first|(go_at_call 141;refine (shapeItem_calls _ ⟨gb,0,none⟩ l.length cap j H0.out H1.out).mono ?_;rintro e w4 ⟨rfl,hb⟩;have HB4:=am_ (below_then HB3.out (HB3.out.size) hb);have k4:=(HB4.out.cell (p:=⟨gb,j.toNat*12+11,none⟩) HGL.out).trans K0.out;clear hb)|((with_reducible refine gate_store (t:=3) (p:=16) (v:= .tmp 14) rfl ?_);(refine Kd.R_store k31 (w0:=w4) base rfl rfl 3 (.tmp 16) (.tmp 14) rfl 31 (g:=gb) (n:=l.length) (cap:=cap) (o':=j.toNat*12+11) j 11 l (verF y) (.int .i64 (wrap64 (y.f5+1))) [.int .i64 (wrap64 (y.f5+1))] (shCells y) (fun _=>True) (fun _=>False) rfl rfl rfl rfl ?ct ?c1 (Kd.R_below HR.out HB4.out) ?c2 ?c3 rfl ?cc (by show 11+1≤12;omega) ?cM (fun _ h=>h.elim) (Below.refl _ _) ?_);(case ct=>kernel_rfl);(case c1=>intro q hq;simp only [List.mem_cons,List.not_mem_nil,or_false] at hq;rcases hq with rfl;rfl);(case c2=>exact H0.out);(case c3=>exact H1.out);(case cc=>exact fun j' u hu=>(HB4.out.cell (p:=⟨gb,j.toNat*12+j',none⟩) HGL.out).trans (HC.out j' u hu));(case cM=>exact k31_mkM _ _ _ (verF y));intro w5 ho hb hg;have HO5:=Aside0.mk ho;have HG5:=Aside0.mk hg;clear ho hb hg))
      go_ret
      refine ⟨rfl, ?_, ?_⟩
      · exact HO5.out
      · exact (Turned.of_below HB4.out HBS.out).then_grown HBS.out HGB.out HG5.out
  · rw [if_neg hj] at h
    cases h
end Go.Proofs.Ytcgefpklljclgaa.Print

namespace Go.Proofs.Ytcgefpklljclgaa.Print
open Go.RowKit Go.Proofs.YtcgefpklljclgaaW.PrintWords Go.Proofs.YtcgefpklljclgaaW.PrintLast Go.Proofs.YtcgefpklljclgaaW.PrintMore
set_option linter.unusedVariables false
set_option linter.unusedSimpArgs false
theorem run_copy_wide {P:Program} (w:World) (dT sT ty elem:TypeId) (sz:Nat) (b o dLen dCap:Nat) (a:Addr) (sLen sCap:Nat) (cs:List Value)
    (hu:P.underlying dT=some (.slice elem)) (hs:(P.info? elem).map (·.size)=some sz) (m:Nat) (hm:Nat.min sLen dLen=m) (hn:cs.length=m*sz)
    (hsrc: ∀j v,cs[j]?=some v→w.cell? (a.add j)=some v) (hc: ∀j,j<cs.length→(w.cell? ⟨b,o+j,none⟩).isSome=true) (hf: ∀j,j<cs.length→w.frozen? ⟨b,o+j,none⟩=false) (h1: ∀v∈cs,v.oneCell'=true):
    (Builtin.copy_ #[dT,sT] ty #[.slice (some ⟨b,o,none⟩) dLen dCap, .slice (some a) sLen sCap]).run P w= .ok (goInt m) (w.setCells b o cs):=by
  have hl:=run_loadCells_list (P:=P) w a cs hsrc
  have hst:=run_storeCells_cells (P:=P) b o cs 0 w (by simpa using hc) (by simpa using hf) h1
  cases hq:P.info? elem with
  |none=>simp [hq] at hs
  | some i =>
    have hi:i.size=sz:=by simpa [hq] using hs
    simp [Builtin.copy_,run_underlying hu,Builtin.lenOf,Builtin.firstCells,sizeOf,typeInfo,hq,hi,hm,←hn,hl,hst]
theorem run_clear_one {P:Program} (w:World) (t e ty:TypeId) (z:Value) (zs:List Value) (ht:P.underlying t=some (.slice e)) (hv: ∀w,(zeroValue e).run P w= .ok z w) (hz:(Builtin.zeroCells z.cells 1).toList=zs) (h1: ∀u∈zs,u.oneCell'=true) (b o c:Nat)
  (hc: ∀j,j<zs.length→(w.cell? ⟨b,o+j,none⟩).isSome=true) (hf: ∀j,j<zs.length→w.frozen? ⟨b,o+j,none⟩=false):
  (Builtin.clear_ #[t] ty #[.slice (some ⟨b,o,none⟩) 1 c]).run P w= .ok (.tuple #[]) (w.setCells b o zs):=by
 have hst:=run_storeCells_cells (P:=P) b o zs 0 w (by simpa using hc) (by simpa using hf) h1
 simp only [Nat.add_zero] at hst
 simp [Builtin.clear_,run_underlying ht,hv,hz,hst]
def zCells:List Value:=[.string ⟨#[]⟩, .string ⟨#[]⟩, .int .i64 0, .int .i64 0, .int .i64 0, .int .i64 0, .int .i64 0, .int .i64 0, .int .i64 0, .int .i64 0, .int .i64 0, .int .i64 0]
def flat (l:List S31):List Value:=l.flatMap shCells
theorem shCells_len (y:S31):(shCells y).length=12:=rfl
theorem flat_len: ∀l:List S31,(flat l).length=l.length*12
  |[]=>rfl
  | y :: l => by
    show (shCells y++flat l).length=_
    rw [List.length_append,flat_len l,shCells_len,List.length_cons]
    omega
theorem flat_append (a b:List S31):flat (a++b)=flat a++flat b:=by simp [flat]
theorem flat_one (l:List S31): ∀u∈flat l,u.oneCell'=true:=by
 intro u hu
 obtain ⟨y,_,hy⟩:=List.mem_flatMap.1 hu
 simp only [shCells,List.mem_cons,List.not_mem_nil,or_false] at hy
 rcases hy with rfl|rfl|rfl|rfl|rfl|rfl|rfl|rfl|rfl|rfl|rfl|rfl<;>rfl
theorem flat_take (l:List S31) (i:Nat) (h:i≤l.length):(flat l).take (i*12)=flat (l.take i):=by
 have:=flat_append (l.take i) (l.drop i)
 rw [List.take_append_drop] at this
 rw [this]
 exact List.take_left' (by rw [flat_len,List.length_take];omega)
theorem flat_drop (l:List S31) (i:Nat) (h:i≤l.length):(flat l).drop (i*12)=flat (l.drop i):=by
 have:=flat_append (l.take i) (l.drop i)
 rw [List.take_append_drop] at this
 rw [this]
 exact List.drop_left' (by rw [flat_len,List.length_take];omega)
theorem flat_reps (w:World) (base:Nat) (ok:Nat→Prop): ∀l:List S31,Reps (k31.M w base ok) 12 l (flat l):=by
 intro l
 refine ⟨flat_len l,fun j p hj=> ?_⟩
 have hjl:j<l.length:=(List.getElem?_eq_some_iff.1 hj).1
 rw [flat_drop l j (by omega),List.drop_eq_getElem_cons hjl]
 show k31.M w base ok p ((shCells l[j]++flat (l.drop (j+1))).take 12)
 rw [show (12:Nat)=(shCells l[j]).length from rfl,List.take_left]
 obtain ⟨_,rfl⟩:=List.getElem?_eq_some_iff.1 hj
 exact k31_mkM w base ok _
theorem reps_flat {w:World} {base:Nat} {ok:Nat→Prop} {l:List S31} {cs:List Value} (h:Reps (k31.M w base ok) 12 l cs):cs=flat l:=by
  obtain ⟨hl,hr⟩:=h
  apply List.ext_getElem?
  intro q
  rcases Nat.lt_or_ge q cs.length with hq|hq
  · have hj : q / 12 < l.length := by rw [hl] at hq; omega
    have h1:=k31_open (k31.K_of_M (hr (q / 12) _ (List.getElem?_eq_getElem hj)))
    have h2:=k31_open (k31.K_of_M ((flat_reps w base ok l).2 (q / 12) _ (List.getElem?_eq_getElem hj)))
    have h3:=congrArg (·[q % 12]?) (h1.trans h2.symm)
    simp only [List.getElem?_take,List.getElem?_drop,if_pos (show q % 12<12 by omega)] at h3
    rwa [show q / 12*12+q % 12=q by omega] at h3
  · rw [List.getElem?_eq_none hq,List.getElem?_eq_none (by rw [flat_len,←hl];exact hq)]
theorem R_cells {w:World} {base g n c:Nat} {ok:Nat→Prop} {l:List S31} (h:Kd.R k31 31 w base ok (.slice (some ⟨g,0,none⟩) n c) l):
    n=l.length∧base≤g∧n≤c∧c≤9223372036854775807∧ ∃cur,w.heap[g]?=some (.cells cur 31 (0,0))∧cur.size=c*12∧cur.toList.take (l.length*12)=flat l:=by
  obtain ⟨_,inner,⟨_,h|⟨g',cap',cur,hv,hg,hh,hnc,hcm,hcs,ht⟩⟩,hr⟩:=h
  · cases h.1
  · cases hv
    have:=reps_flat hr
    subst this
    exact ⟨rfl,hg,hnc,hcm,cur,hh,hcs,ht⟩
theorem R_of_cells {w:World} {base g c:Nat} {l:List S31} {cur:Array Value} (hg:base≤g) (hnc:l.length≤c) (hcm:c≤9223372036854775807) (hh:w.heap[g]?=some (.cells cur 31 (0,0))) (hcs:cur.size=c*12) (ht:cur.toList.take (l.length*12)=flat l):
  Kd.R k31 31 w base (fun _=>True) (.slice (some ⟨g,0,none⟩) l.length c) l:=
 ⟨fun _ _=>trivial,flat l,⟨flat_len l, .inr ⟨g,c,cur,rfl,hg,hh,hnc,hcm,hcs,ht⟩⟩,flat_reps _ _ _ l⟩
theorem Below.setCells_ {a w:World} {base g:Nat} (h:Below base a w) (hg:base≤g) (o:Nat) (vs:List Value):Below base a (w.setCells g o vs):=by
 obtain ⟨s1,s2,s3,s4⟩:=setCells_same g vs o w
 exact ⟨s1.trans h.os,s2.trans h.tape,s3.trans h.output,by rw [s4];exact h.size,fun k hk=>(setCells_far vs o k (by omega)).trans (h.block k hk)⟩
theorem plain_there {w:World} {g:Nat} {cur:Array Value} {e:Nat} (h:w.heap[g]?=some (.cells cur e (0,0))) {j:Nat} (hj:j<cur.size):(w.cell? ⟨g,j,none⟩).isSome=true:=by
 rw [blk_cell h j,Array.getElem?_eq_getElem hj]
 rfl
theorem plain_cell {w:World} {g:Nat} {cur:Array Value} {e:Nat} (h:w.heap[g]?=some (.cells cur e (0,0))) {j:Nat} {v:Value} (hj:cur.toList[j]?=some v):w.cell? ⟨g,j,none⟩=some v:=by
 rw [blk_cell h j,←hj,Array.getElem?_toList]
end Go.Proofs.Ytcgefpklljclgaa.Print

namespace Go.Proofs.Ytcgefpklljclgaa.Print
open Go.RowKit Go.Proofs.YtcgefpklljclgaaW.PrintWords Go.Proofs.YtcgefpklljclgaaW.PrintLast Go.Proofs.YtcgefpklljclgaaW.PrintMore
attribute [local go_sem] max2_int min2_int max_two min_two max_three min_three max_four min_four
set_option linter.unusedVariables false
set_option linter.unusedSimpArgs false

set_option maxHeartbeats 4000000 in
set_option maxRecDepth 100000 in
theorem sliDelete_cells (w:World) (g n c i:Nat) (cur:Array Value) (h:w.heap[g]?=some (.cells cur 31 (0,0))) (hcs:cur.size=c*12) (hn:n≤c) (hm:c≤9223372036854775807) (hi:i<n) (h1: ∀u∈cur.toList.take (n*12),u.oneCell'=true):
    Calls Try.prog 142 #[.slice (some ⟨g,0,none⟩) n c, .int .i64 i, .int .i64 (i+1)] w fun e w'=>e= .returned (.slice (some ⟨g,0,none⟩) (n - 1) c)∧
      w'=(w.drew.setCells g (i*12) ((cur.toList.take (n*12)).drop ((i+1)*12))).setCells g ((n - 1)*12) zCells:=by
  have hz1: ¬((i:Int)=(i:Int)+1):=by omega
  obtain ⟨news,hnews⟩: ∃news,news=(cur.toList.take (n*12)).drop ((i+1)*12):=⟨_,rfl⟩
  have hsz:n*12≤cur.size:=by rw [hcs];exact Nat.mul_le_mul_right _ hn
  have hlen:news.length=(n - (i+1))*12:=by
    rw [hnews,List.length_drop,List.length_take,Array.length_toList]
    omega
  have hget: ∀t u,news[t]?=some u→w.cell? ⟨g,(i+1)*12+t,none⟩=some u:=by
    intro t u hu
    rw [hnews,List.getElem?_drop,List.getElem?_take] at hu
    split at hu
    · exact plain_cell h hu
    · cases hu
  obtain ⟨A,hA,hsrc⟩: ∃A:Addr,(if c=i+1 then some (⟨g,0,none⟩:Addr) else some ⟨g,(i+1)*12,none⟩)=some A∧Aside0 (∀t u,news[t]?=some u→w.drew.cell? (A.add t)=some u):=by
    by_cases hc:c=i+1
    · refine ⟨⟨g, 0, none⟩, by simp [hc], ⟨fun t u hu => ?_⟩⟩
      have h0:news.length=0:=by rw [hlen,show n - (i+1)=0 by omega]
      rw [List.length_eq_zero_iff.1 h0] at hu
      simp at hu
    · refine ⟨⟨g, (i + 1) * 12, none⟩, by simp [hc], ⟨fun t u hu => ?_⟩⟩
      rw [Addr.add_lit]
      exact hget t u hu
  have s1:=Aside0.mk hlen
  have HN:=Aside0.mk hnews
  have s2:Aside0 (∀u∈news,u.oneCell'=true):=⟨by
    intro u hu
    rw [hnews] at hu
    exact h1 u (List.mem_of_mem_drop hu)⟩
  have s3:Aside0 (∀t,t<news.length→(w.drew.cell? ⟨g,0+i*12+t,none⟩).isSome=true∧w.drew.frozen? ⟨g,0+i*12+t,none⟩=false):=⟨by
    intro t ht
    rw [hlen] at ht
    rw [Nat.zero_add]
    exact ⟨plain_there (w:=w.drew) (blk_drew h) (by omega),blk_frozen (w:=w.drew) (blk_drew h) _⟩⟩
  obtain ⟨W1,hW1⟩: ∃W1,W1=w.drew.setCells g (0+i*12) news:=⟨_,rfl⟩
  have hW:=Aside0.mk hW1
  obtain ⟨i0,hi0,hz0,hzs,hzb⟩:=info_parts info31
  have HI:=Aside0.mk hi0
  have HS:=Aside0.mk hzs
  have hW1b: ∃cur',W1.heap[g]?=some (.cells cur' 31 (0,0))∧cur'.size=cur.size:=by
    obtain ⟨cur',x,y,_⟩:=setCells_row news (0+i*12) w.drew cur (blk_drew h) (by rw [hlen];omega)
    exact ⟨cur',by rw [hW1];exact x,y⟩
  obtain ⟨cur',hc1,hc2⟩:=hW1b
  have hcl: ∀ty o' n' c',o'=(n - 1)*12→n'=1→(Builtin.clear_ #[24] ty #[.slice (some ⟨g,o',none⟩) n' c']).run Try.prog W1= .ok (.tuple #[]) (W1.setCells g ((n - 1)*12) zCells):=by
    rintro ty o' n' c' rfl rfl
    exact run_clear_one W1 _ 31 ty _ zCells Try.underlying24 Try.zeroValue31 (by kernel_rfl) (by intro u hu;simp only [zCells,List.mem_cons,List.not_mem_nil,or_false] at hu;rcases hu with rfl|rfl|rfl|rfl|rfl|rfl|rfl|rfl|rfl|rfl|rfl|rfl<;>rfl) g _ c' (fun j hj=>plain_there hc1 (by rw [hc2];have:zCells.length=12:=rfl;omega)) (fun j hj=>blk_frozen hc1 _)
  have HCL:=Aside0.mk hcl
  have hic:i≤c:=by omega
  have hjc:i+1≤n:=by omega
  have mixed:Try.prog.follows .mixedOrders=true:=by kernel_rfl
  have hz2:(0:Int)≤(i:Int)+1:=by omega
  have hz3:(i:Int)+1≤(n:Int):=by omega
  clear hW1 hnews hget hlen h1 hi0 hzs hz0 hzb hcl hc1 hc2 h hcs hsz
  go_enter Try.func142,Try.ntmps142
  go_wp2_with fail
  go_region_law_o (refine step_append_room rfl (.tmp 22) (.tmp 25) 24 rfl 31 i0 12 Try.underlying24 HI.out HS.out g 0 i c (by simp [Act.eval,Act.put]) A (n - (i+1)) (c - (i+1)) news (by simp [Act.eval,Act.put]) s1.out hsrc.out s2.out (by omega) s3.out ?_;rw [←hW.out])
  go_wp2_with fail
  rw [HCL.out _ _ _ _ (by omega) (by omega)]
  go_wp2
  go_ret
  refine ⟨by rw [show i+(n - (i+1))=n - 1 by omega];rfl, ?_⟩
  rw [hW.out,Nat.zero_add,HN.out]
theorem sliDelete_calls (w:World) (base:Nat) (v:Value) (l:List S31) (i:Nat) (hr:Kd.R k31 31 w base (fun _=>True) v l) (hi:i<l.length):
  Calls Try.prog 142 #[v, .int .i64 i, .int .i64 (i+1)] w fun e w'=> ∃v',e= .returned v'∧Kd.R k31 31 w' base (fun _=>True) v' (l.take i++l.drop (i+1))∧Below base w w':=by
 obtain ⟨g,c,rfl,hg,hgl⟩:=sh_head hr (by omega)
 obtain ⟨_,_,hnc,hcm,cur,hh,hcs,ht⟩:=R_cells hr
 refine (sliDelete_cells w g l.length c i cur hh hcs hnc hcm hi (by rw [ht];exact flat_one l)).mono ?_
 rintro e w' ⟨rfl,rfl⟩
 have hlc:l.length*12≤cur.size:=by rw [hcs];exact Nat.mul_le_mul_right _ hnc
 rw [ht,flat_drop l (i+1) (by omega)]
 have hl1:(flat (l.drop (i+1))).length=(l.length - (i+1))*12:=by rw [flat_len,List.length_drop]
 obtain ⟨cur1,h1,s1,t1⟩:=setCells_row (flat (l.drop (i+1))) (i*12) w.drew cur (blk_drew hh) (by rw [hl1];omega)
 obtain ⟨cur2,h2,s2,t2⟩:=setCells_row zCells ((l.length - 1)*12) _ cur1 h1 (by rw [s1];show _+12≤_;omega)
 have hll:(l.take i++l.drop (i+1)).length=l.length - 1:=by simp;omega
 refine ⟨_,rfl, ?_,Below.setCells_ (Below.setCells_ (below_drew (Below.refl _ _)) hg _ _) hg _ _⟩
 have:=R_of_cells (l:=l.take i++l.drop (i+1)) hg (by rw [hll];omega) hcm h2 (by rw [s2,s1,hcs]) (by
  rw [hll,t2,t1,List.append_assoc,List.take_append_of_le_length (by simp [hl1,Array.length_toList];omega),List.take_take,Nat.min_self,
   List.take_append_of_le_length (by simp [hl1,Array.length_toList];omega),flat_append,←flat_take l i (by omega),←ht,List.take_take,Nat.min_eq_left (by omega)]
  exact List.take_of_length_le (by simp [hl1,Array.length_toList];omega))
 rw [hll] at this
 exact this
end Go.Proofs.Ytcgefpklljclgaa.Print

namespace Go.Proofs.Ytcgefpklljclgaa.Print
open Go.RowKit Go.Proofs.YtcgefpklljclgaaW.PrintWords Go.Proofs.YtcgefpklljclgaaW.PrintLast Go.Proofs.YtcgefpklljclgaaW.PrintMore
set_option linter.unusedVariables false
set_option linter.unusedSimpArgs false
section
variable {P:Program} {ops:Array Oper} {rest:List Oper} {o:Oper} {a:Act} {Q:Exit→Act→World→Prop} {Kc:Act→World→Prop} {W:World}
theorem put_run {gb e:Nat} {zs:Array Value} (hh:W.heap[gb]?=some (.cells zs e (0,0))) (t:TypeId) (u:Value) (off:Nat) (seg:List Value) (hu:u.cells.toList=seg) (ht:(P.info? t).map (·.size)=some seg.length) (hfit:off+seg.length≤zs.size) (h1: ∀q∈seg,q.oneCell'=true):
  ∃w' cur,(Instr.storeAt t (.pointer (some ⟨gb,off,none⟩)) u).run P W= .ok () w'∧w'.heap[gb]?=some (.cells cur e (0,0))∧cur.size=zs.size∧cur.toList=zs.toList.take off++seg++zs.toList.drop (off+seg.length)∧W.grownBy w' (some gb):=by
 have hrun:=run_store_run (P:=P) t u seg hh hu ht (o:=off) hfit h1
 obtain ⟨cur,hc,hs,hl⟩:=setCells_row seg off W zs hh hfit
 obtain ⟨s1,s2,s3,s4⟩:=setCells_same gb seg off W
 exact ⟨_,cur,hrun,hc,hs,hl,⟨s1,s2,s3,by rw [s4];exact Nat.le_refl _,fun k hk hne=>setCells_far seg off k (by rintro rfl;exact hne rfl)⟩⟩
theorem store_all {gb e:Nat} {zs:Array Value} (hh:W.heap[gb]?=some (.cells zs e (0,0))) (t:TypeId) (p x:Operand) (ho:o.op= .store t p x) (hN:o.dst=none) (hgd:o.guard=none) (u:Value) (seg:List Value)
  (hp:a.eval p= .pointer (some ⟨gb,0,none⟩)) (hx:a.eval x=u) (hu:u.cells.toList=seg) (ht:(P.info? t).map (·.size)=some seg.length) (hz:zs.size=seg.length) (h1: ∀q∈seg,q.oneCell'=true)
  (h: ∀w',w'.heap[gb]?=some (.cells seg.toArray e (0,0))→W.grownBy w' (some gb)→wpList P ops Q rest a w'):wpList P ops Q (o::rest) a W:=by
 obtain ⟨w',cur,hrun,hc,hs,hl,hg⟩:=put_run (P:=P) hh t u 0 seg hu ht (by omega) h1
 have e1:cur=seg.toArray:=by
  apply Array.ext'
  rw [hl,List.take_zero,List.nil_append,Nat.zero_add,List.drop_of_length_le (by simp [Array.length_toList];omega),List.append_nil]
 subst e1
 refine wpList_plain hgd fun K hK=> ?_
 unfold Oper.wp execOp
 simp only [ho,hp,hx,Sem.run_bind,Sem.run_pure,Result.andThen_ok,hrun]
 show K (a.put o.dst undef) _
 rw [hN]
 exact hK a _ (h _ hc hg)
end
theorem R_put {α:Type} {d:Kd α} {e base:Nat} {w w1:World} {v:Value} {xs:List α} (h:d.R e w base (fun _=>True) v xs) {g t:Nat} {cells:Array Value} (hb:w.heap[g]?=some (.cells cells t (0,0))) (ht: ∀q,q∈e::d.E→q≠t) (hg:w.grownBy w1 (some g)):d.R e w1 base (fun _=>True) v xs:=
 Kd.R_mono (Kd.R_grown (Kd.R_types h hb ht) hg (fun _ hk e=>hk.2 (Option.some.inj e))) (fun _ _=>trivial)
theorem below_put {a w w1:World} {base g:Nat} (h:Below base a w) (hb:base≤w.heap.size) (hg:w.grownBy w1 (some g)) (hge:base≤g):Below base a w1:=pw_below_grown h (some g) hb hg (fun k e=>by cases e;exact hge)
theorem blk_put_other {w w1:World} {g k:Nat} {ob:Obj} (h:w.heap[k]?=some ob) (hg:w.grownBy w1 (some g)) (hne:k≠g):w1.heap[k]?=some ob:=by
  rw [hg.block k (by
    rcases Nat.lt_or_ge k w.heap.size with hl|hl
    · exact hl
    · rw [Array.getElem?_eq_none hl] at h;cases h) (by intro e;cases e;exact hne rfl)]
  exact h
end Go.Proofs.Ytcgefpklljclgaa.Print

namespace Go.Proofs.Ytcgefpklljclgaa.Print
open Go.RowKit Go.Proofs.YtcgefpklljclgaaW.PrintWords Go.Proofs.YtcgefpklljclgaaW.PrintLast Go.Proofs.YtcgefpklljclgaaW.PrintMore
attribute [local go_sem] max2_int min2_int max_two min_two max_three min_three max_four min_four
set_option linter.unusedVariables false
set_option linter.unusedSimpArgs false

def shape_Delete.f (k:Nat) (l0:List (S31)) (a1:ByteArray) (a2:Int):Option ((List (S31))×Int):=
 (shape_made.f l0 a1).bind fun p=>(guardF p.1 p.2 a2).bind fun e=>if e≠0 then some ([],e) else (tree_Below.f k l0 a1).bind fun b=>if (b.length:Int)>0 then some ([],13) else
  if (rd_T31 p.1 p.2).f3.f0=0∧(rd_T31 p.1 p.2).f3.f1=0∧(rd_T31 p.1 p.2).f3.f2=0 then some (p.1.take p.2.toNat++p.1.drop (p.2.toNat+1),0) else some ([],13)
theorem shape_Delete.mono: ∀a0 a1 a2 k,LeO (shape_Delete.f k a0 a1 a2) (shape_Delete.f (k+1) a0 a1 a2):=by
 intro a0 a1 a2 k
 unfold shape_Delete.f
 repeat' first
  |(with_reducible exact tree_Below.mono _ _ _)
  |(with_reducible exact LeO.refl _)
  |(with_reducible exact LeO.none _)
  |(with_reducible refine LeO.ite ?_ ?_)
  |(with_reducible refine LeO.bind ?_ (fun _=> ?_))
theorem guard_zero {l:List S31} {j ver:Int} (h:guardF l j ver=some 0):0≤j∧j<(l.length:Int):=by
  unfold guardF at h
  split at h
  · cases h
  · split at h
    · omega
    · cases h
set_option maxHeartbeats 8000000 in
set_option maxRecDepth 100000 in
theorem shape_Delete.calls (k:Nat) (A0:Option Addr) (c0:Nat) (l0:List (S31)) (a1:ByteArray) (a2:Int) (r1:List (S31)) (r2:Int) (w:World) (hr0:Kd.C k31 w A0 l0.length l0) (hc0:l0.length≤c0) (h:shape_Delete.f k l0 a1 a2=some (r1,r2)):
    Calls Try.prog 86 #[.slice A0 l0.length c0, .string a1, .int .i64 a2] w fun e w'=> ∃v0_:Value,e= .returned (.tuple #[v0_, .int .i64 r2])∧Kd.R k31 31 w' w.heap.size (fun _=>True) v0_ r1∧Below w.heap.size w w':=by
  have hu168:=Try.underlying168
  have hu166:=Try.underlying166
  have hu31:=Try.underlying31
  have hu27:=Try.underlying27
  unfold shape_Delete.f at h
  obtain ⟨⟨out,j⟩,hmd,h1⟩:=Option.bind_eq_some_iff.1 h
  clear h
  obtain ⟨e0,hgd,h2⟩:=Option.bind_eq_some_iff.1 h1
  clear h1
  dsimp only at hgd h2
  have hlim:out.length<1256584717458:=by
    unfold shape_made.f slices_Clone_Item.f at hmd
    split at hmd
    · obtain ⟨_, h1, h2⟩ := Option.bind_eq_some_iff.1 hmd
      obtain ⟨_,h3,h4⟩:=Option.bind_eq_some_iff.1 h2
      cases h4
      cases h1
      assumption
    · cases hmd
  have HR:=Aside0.mk hr0
  have HC:=Aside0.mk hc0
  have HM:=Aside0.mk hmd
  have HG:=Aside0.mk hgd
  have HL:=Aside0.mk hlim
  have HB:=am_ (Below.refl w.heap.size w)
  have HH:=Aside0.mk h2
  clear hr0 hc0 hmd hgd h2 hlim
  go_enter Try.func86,Try.ntmps86
  go_wp2_with fail
  refine (shape_made.calls _ _ _ _ _ _ _ (Kd.C_below HR.out HB.out) HC.out HM.out).mono ?_
  rintro e w3 ⟨v0,rfl,ho,hb⟩
  have HO:=am_ (Kd.R_lower ho (below_size HB.out))
  have HLT:=am_ (Kd.R_lt ho)
  have n0_:=am_ (below_step HB.out hb);clear HB;have HB:=n0_;clear n0_
  clear ho hb
  obtain ⟨A5,c5,rfl⟩: ∃A5 c5,v0= .slice A5 out.length c5:=Kd.R_slice HO.out
  go_wp2_with (first|((with_reducible refine gate_dst (N:=8) rfl ?_);refine box_event ?hg (N:=8) ?hd (cs:=#[.slice none 0 0, .int .i64 0]) (t:=168) ?hr ?_;(case hd=>rfl);(case hg=>rfl);(case hr=>first|(go_simp;done)|(go_simp;rfl));intro gb2 hg w4 hbox hb;have n0_:=am_ (Kd.R_below HO.out hb);have n1_:=am_ (below_step HB.out hb);have n2_:=am_ (hbox);have n3_:=am_ ((by rw [hg];exact below_size HB.out:w.heap.size≤gb2));have n4_:=am_ (hg);clear HO;clear HB;have HO:=n0_;have HB:=n1_;have BK2:=n2_;have GE2:=n3_;have EQ2:=n4_;clear n0_ n1_ n2_ n3_ n4_;clear hb hbox hg)|((with_reducible refine gate_store (t:=168) (p:=8) (v:= .tmp 12) rfl ?_);refine store_all BK2.out 168 (.tmp 8) (.tmp 12) rfl rfl rfl (.agg #[.slice A5 out.length c5, .int .i64 j]) [.slice A5 out.length c5, .int .i64 j] rfl rfl rfl (by kernel_rfl) rfl (by intro q hq;simp only [List.mem_cons,List.not_mem_nil,or_false] at hq;rcases hq with rfl|rfl<;>rfl) ?_;intro w5 hbk hg;have n0_:=am_ (R_put HO.out BK2.out (by decide) hg);have n1_:=am_ (below_put HB.out (below_size HB.out) hg GE2.out);have n2_:=am_ (hbk);clear HO;clear HB;clear BK2;have HO:=n0_;have HB:=n1_;have BK2:=n2_;clear n0_ n1_ n2_;clear hbk hg;have cgb2_0:=(blk_cell BK2.out 0).trans rfl;have cgb2_1:=(blk_cell BK2.out 1).trans rfl))
  refine (shapeGuard_calls _ _ _ out j a2 e0 HO.out HG.out).mono ?_
  rintro e w6 ⟨rfl,hb⟩
  clear cgb2_0 cgb2_1
  have n0_:=am_ (Kd.R_below HO.out hb);have n1_:=am_ (blk_below BK2.out hb);have n2_:=am_ (below_step HB.out hb);clear HO;clear BK2;clear HB;have HO:=n0_;have BK2:=n1_;have HB:=n2_;clear n0_ n1_ n2_
  clear hb
  have cgb2_0:=(blk_cell BK2.out 0).trans rfl
  have cgb2_1:=(blk_cell BK2.out 1).trans rfl
  have h2:=HH.out
  clear HH
  by_cases c1:e0=0
  · cases c1
    rw [if_neg (by simp)] at h2
    obtain ⟨hj0,hj1⟩:=guard_zero HG.out
    obtain ⟨bl,hbl,h3⟩:=Option.bind_eq_some_iff.1 h2
    have HBL:=Aside0.mk hbl
    have HH:=Aside0.mk h3
    clear h2 h3 hbl
    go_wp2_with fail
    refine (tree_Below.calls k _ _ _ _ _ _ (Kd.C_below HR.out HB.out) HC.out HBL.out).mono ?_
    rintro e w7 ⟨vb,rfl,hob,hb⟩
    clear cgb2_0 cgb2_1
    have n0_:=am_ (Kd.R_below HO.out hb);have n1_:=am_ (blk_below BK2.out hb);have n2_:=am_ (below_step HB.out hb);clear HO;clear BK2;clear HB;have HO:=n0_;have BK2:=n1_;have HB:=n2_;clear n0_ n1_ n2_
    have cgb2_0:=(blk_cell BK2.out 0).trans rfl
    have cgb2_1:=(blk_cell BK2.out 1).trans rfl
    obtain ⟨Ab,cb,rfl⟩:=Kd.R_slice hob
    clear hb hob
    have h3:=HH.out
    clear HH
    by_cases c2:(bl.length:Int)>0
    · rw [if_pos c2] at h3
      cases h3
      have q2:(0<bl.length)=True:=eq_true (by omega)
      clear c2
      go_wp2_with fail
      go_ret2
      exact ⟨_,rfl,Kd.R_nil _ _ _ _ _,HB.out⟩
    · rw [if_neg c2] at h3
      obtain rfl:bl=[]:=List.length_eq_zero_iff.1 (by omega)
      clear c2
      obtain ⟨gb,cap,hv0,hgb,hgl⟩:=sh_head HO.out (by omega)
      cases hv0
      have hcs:=sh_cells HO.out j hj0 hj1
      have HCS:=Aside0.mk hcs
      have HGL:=Aside0.mk hgl
      have HJ0:=Aside0.mk hj0
      have HJ1:=Aside0.mk hj1
      have HH:=Aside0.mk h3
      clear hcs hgl h3 hgb hj0 hj1
      go_wp2_with fail
      refine (shapeItem_calls _ ⟨gb,0,none⟩ out.length c5 j HJ0.out HJ1.out).mono ?_
      rintro e w8 ⟨rfl,hb⟩
      clear cgb2_0 cgb2_1
      have k5:=(hb.cell (p:=⟨gb,j.toNat*12+5,none⟩) HGL.out).trans (HCS.out 5 _ rfl)
      have k6:=(hb.cell (p:=⟨gb,j.toNat*12+6,none⟩) HGL.out).trans (HCS.out 6 _ rfl)
      have k7:=(hb.cell (p:=⟨gb,j.toNat*12+7,none⟩) HGL.out).trans (HCS.out 7 _ rfl)
      have n0_:=am_ (Kd.R_below HO.out hb);have n1_:=am_ (blk_below BK2.out hb);have n2_:=am_ (below_step HB.out hb);clear HO;clear BK2;clear HB;have HO:=n0_;have BK2:=n1_;have HB:=n2_;clear n0_ n1_ n2_
      have cgb2_0:=(blk_cell BK2.out 0).trans rfl
      have cgb2_1:=(blk_cell BK2.out 1).trans rfl
      have h3:=HH.out
      clear HH hb HCS
      generalize rd_T31 out j=y at k5 k6 k7 h3
      by_cases c3:y.f3.f0=0∧y.f3.f1=0∧y.f3.f2=0
      · rw [if_pos c3] at h3
        cases h3
        obtain ⟨q3,q4,q5⟩:=c3
        rw [q3] at k5
        rw [q4] at k6
        rw [q5] at k7
        go_wp2_with fail
        have ej:((j.toNat:Nat):Int)=j:=Int.toNat_of_nonneg HJ0.out
        have hl:=HL.out
        have hj1:=HJ1.out
        refine calls_of_args (args':=#[.slice (some ⟨gb,0,none⟩) out.length c5, .int .i64 (j.toNat:Int), .int .i64 ((j.toNat:Int)+1)]) (by rw [ej,show wrap64 (j+1)=j+1 from by unfold wrap64;omega]) ((sliDelete_calls _ w.heap.size _ out j.toNat HO.out (by omega)).mono ?_)
        rintro e w9 ⟨v1,rfl,ho,hb⟩
        have HO9:=Aside0.mk ho
        have HB9:=am_ (HB.out.trans hb)
        clear ho hb
        go_wp2_with fail
        go_ret2
        exact ⟨_,rfl,HO9.out,HB9.out⟩
      · rw [if_neg c3] at h3
        cases h3
        by_cases q3:y.f3.f0=0
        · rw [q3] at k5
          by_cases q4:y.f3.f1=0
          · rw [q4] at k6
            have q5: ¬y.f3.f2=0:=fun e=>c3 ⟨q3,q4,e⟩
            have q5b:(y.f3.f2==0)=false:=by simpa using q5
            clear c3
            go_wp2_with fail
            go_ret2
            exact ⟨_,rfl,Kd.R_nil _ _ _ _ _,HB.out⟩
          · have q4b : (y.f3.f1 == 0) = false := by simpa using q4
            clear c3
            go_wp2_with fail
            go_ret2
            exact ⟨_,rfl,Kd.R_nil _ _ _ _ _,HB.out⟩
        · have q3b : (y.f3.f0 == 0) = false := by simpa using q3
          clear c3
          go_wp2_with fail
          go_ret2
          exact ⟨_,rfl,Kd.R_nil _ _ _ _ _,HB.out⟩
  · rw [if_pos c1] at h2
    cases h2
    have q1:(r2==0)=false:=by simpa using c1
    go_wp2_with fail
    go_ret2
    exact ⟨_,rfl,Kd.R_nil _ _ _ _ _,HB.out⟩


def vec_Le.f (a0_0:Int) (a0_1:Int) (a0_2:Int) (a1_0:Int) (a1_1:Int) (a1_2:Int):Option (Bool):=if a0_0≤a1_0 then (if a0_1≤a1_1 then (some (decide (a0_2≤a1_2))) else (some false)) else (some false)
set_option maxHeartbeats 8000000 in
set_option maxRecDepth 100000 in
theorem vec_Le.calls (a0_0:Int) (a0_1:Int) (a0_2:Int) (a1_0:Int) (a1_1:Int) (a1_2:Int) (r:Bool) (w:World) (h:vec_Le.f a0_0 a0_1 a0_2 a1_0 a1_1 a1_2=some r):
  Calls Try.prog 118 #[.agg #[.int .i64 a0_0, .int .i64 a0_1, .int .i64 a0_2], .agg #[.int .i64 a1_0, .int .i64 a1_1, .int .i64 a1_2]] w fun e w'=>e= .returned (.bool r)∧Below w.heap.size w w':=by
 have hu27:=Try.underlying27
 have HB:=am_ (Below.refl w.heap.size w)
 have H:(if a0_0≤a1_0 then (if a0_1≤a1_1 then (some (decide (a0_2≤a1_2))) else (some false)) else (some false))=some r:=h
 clear h
 by_cases c3:a0_0≤a1_0
 ·rw [if_pos c3] at H
  have c3b0:decide (a0_0≤a1_0)=true:=decide_eq_true c3
  clear c3
  by_cases c4:a0_1≤a1_1
  ·rw [if_pos c4] at H
   have c4b0:decide (a0_1≤a1_1)=true:=decide_eq_true c4
   clear c4
   obtain rfl:=Option.some.inj H
   go_enter Try.func118,Try.ntmps118
   go_wp2_with (first|((with_reducible refine gate_dst (N:=2) rfl ?_);refine box_event ?hg (N:=2) ?hd (cs:=#[.int .i64 a0_0, .int .i64 a0_1, .int .i64 a0_2]) (t:=27) ?hr ?_;(case hd=>rfl);(case hg=>rfl);(case hr=>first|(go_simp;done)|(go_simp;rfl));intro gb1 hg w5 hbox hb;have n0_:=am_ (below_step (zl0_ HB) hb);have n1_:=am_ (hbox);have n2_:=am_ ((zg0_ HB hg:w.heap.size≤gb1));have n3_:=am_ ((zg0_ HB hg:w.heap.size≤gb1));clear HB;have HB:=n0_;have BK1:=n1_;have GW1:=n2_;have GE1:=n3_;clear n0_ n1_ n2_ n3_;clear hb hbox hg)|((with_reducible refine gate_dst (N:=3) rfl ?_);refine box_event ?hg (N:=3) ?hd (cs:=#[.int .i64 a1_0, .int .i64 a1_1, .int .i64 a1_2]) (t:=27) ?hr ?_;(case hd=>rfl);(case hg=>rfl);(case hr=>first|(go_simp;done)|(go_simp;rfl));intro gb2 hg w6 hbox hb;have n0_:=am_ (blk_below (zb_ BK1) hb);have n1_:=am_ (below_step (zl1_ HB GE1) hb);have n2_:=am_ (hbox);have n3_:=am_ ((zg1_ HB GE1 hg:w.heap.size≤gb2));have n4_:=am_ ((zg1_ HB GE1 hg:w.heap.size≤gb2));have n5_:=am_ ((zn_ BK1 hg:gb1≠gb2));have n6_:=am_ ((zm_ BK1 hg:gb2≠gb1));clear BK1;clear HB;have BK1:=n0_;have HB:=n1_;have BK2:=n2_;have GW2:=n3_;have GE2:=n4_;have NB1_2:=n5_;have NB2_1:=n6_;clear n0_ n1_ n2_ n3_ n4_ n5_ n6_;clear hb hbox hg;have hnb7:=NB1_2.out;have hnc7:=NB2_1.out;have hcz8_0:w6.cell? ⟨gb1,0,none⟩=some (.int .i64 a0_0):=(blk_cell BK1.out 0).trans rfl;have hcz8_1:w6.cell? ⟨gb1,1,none⟩=some (.int .i64 a0_1):=(blk_cell BK1.out 1).trans rfl;have hcz8_2:w6.cell? ⟨gb1,2,none⟩=some (.int .i64 a0_2):=(blk_cell BK1.out 2).trans rfl;have hfz8_0:=blk_frozen BK1.out 0;have hfz8_1:=blk_frozen BK1.out 1;have hfz8_2:=blk_frozen BK1.out 2;have hcz9_0:w6.cell? ⟨gb2,0,none⟩=some (.int .i64 a1_0):=(blk_cell BK2.out 0).trans rfl;have hcz9_1:w6.cell? ⟨gb2,1,none⟩=some (.int .i64 a1_1):=(blk_cell BK2.out 1).trans rfl;have hcz9_2:w6.cell? ⟨gb2,2,none⟩=some (.int .i64 a1_2):=(blk_cell BK2.out 2).trans rfl;have hfz9_0:=blk_frozen BK2.out 0;have hfz9_1:=blk_frozen BK2.out 1;have hfz9_2:=blk_frozen BK2.out 2))
   go_ret
   exact ⟨by first|rfl|(simp [errW_none,errW_some]<;>rfl)|(simp [*,errW_none,errW_some]<;>rfl),zl2_ HB GE1 GE2⟩
  ·rw [if_neg c4] at H
   have c4b0:decide (a0_1≤a1_1)=false:=decide_eq_false c4
   clear c4
   obtain rfl:=Option.some.inj H
   go_enter Try.func118,Try.ntmps118
   go_wp2_with (first|((with_reducible refine gate_dst (N:=2) rfl ?_);refine box_event ?hg (N:=2) ?hd (cs:=#[.int .i64 a0_0, .int .i64 a0_1, .int .i64 a0_2]) (t:=27) ?hr ?_;(case hd=>rfl);(case hg=>rfl);(case hr=>first|(go_simp;done)|(go_simp;rfl));intro gb1 hg w10 hbox hb;have n0_:=am_ (below_step (zl0_ HB) hb);have n1_:=am_ (hbox);have n2_:=am_ ((zg0_ HB hg:w.heap.size≤gb1));have n3_:=am_ ((zg0_ HB hg:w.heap.size≤gb1));clear HB;have HB:=n0_;have BK1:=n1_;have GW1:=n2_;have GE1:=n3_;clear n0_ n1_ n2_ n3_;clear hb hbox hg)|((with_reducible refine gate_dst (N:=3) rfl ?_);refine box_event ?hg (N:=3) ?hd (cs:=#[.int .i64 a1_0, .int .i64 a1_1, .int .i64 a1_2]) (t:=27) ?hr ?_;(case hd=>rfl);(case hg=>rfl);(case hr=>first|(go_simp;done)|(go_simp;rfl));intro gb2 hg w11 hbox hb;have n0_:=am_ (blk_below (zb_ BK1) hb);have n1_:=am_ (below_step (zl1_ HB GE1) hb);have n2_:=am_ (hbox);have n3_:=am_ ((zg1_ HB GE1 hg:w.heap.size≤gb2));have n4_:=am_ ((zg1_ HB GE1 hg:w.heap.size≤gb2));have n5_:=am_ ((zn_ BK1 hg:gb1≠gb2));have n6_:=am_ ((zm_ BK1 hg:gb2≠gb1));clear BK1;clear HB;have BK1:=n0_;have HB:=n1_;have BK2:=n2_;have GW2:=n3_;have GE2:=n4_;have NB1_2:=n5_;have NB2_1:=n6_;clear n0_ n1_ n2_ n3_ n4_ n5_ n6_;clear hb hbox hg;have hnb12:=NB1_2.out;have hnc12:=NB2_1.out;have hcz13_0:w11.cell? ⟨gb1,0,none⟩=some (.int .i64 a0_0):=(blk_cell BK1.out 0).trans rfl;have hcz13_1:w11.cell? ⟨gb1,1,none⟩=some (.int .i64 a0_1):=(blk_cell BK1.out 1).trans rfl;have hcz13_2:w11.cell? ⟨gb1,2,none⟩=some (.int .i64 a0_2):=(blk_cell BK1.out 2).trans rfl;have hfz13_0:=blk_frozen BK1.out 0;have hfz13_1:=blk_frozen BK1.out 1;have hfz13_2:=blk_frozen BK1.out 2;have hcz14_0:w11.cell? ⟨gb2,0,none⟩=some (.int .i64 a1_0):=(blk_cell BK2.out 0).trans rfl;have hcz14_1:w11.cell? ⟨gb2,1,none⟩=some (.int .i64 a1_1):=(blk_cell BK2.out 1).trans rfl;have hcz14_2:w11.cell? ⟨gb2,2,none⟩=some (.int .i64 a1_2):=(blk_cell BK2.out 2).trans rfl;have hfz14_0:=blk_frozen BK2.out 0;have hfz14_1:=blk_frozen BK2.out 1;have hfz14_2:=blk_frozen BK2.out 2))
   go_ret
   exact ⟨by first|rfl|(simp [errW_none,errW_some]<;>rfl)|(simp [*,errW_none,errW_some]<;>rfl),zl2_ HB GE1 GE2⟩
 ·rw [if_neg c3] at H
  have c3b0:decide (a0_0≤a1_0)=false:=decide_eq_false c3
  clear c3
  obtain rfl:=Option.some.inj H
  go_enter Try.func118,Try.ntmps118
  go_wp2_with (first|((with_reducible refine gate_dst (N:=2) rfl ?_);refine box_event ?hg (N:=2) ?hd (cs:=#[.int .i64 a0_0, .int .i64 a0_1, .int .i64 a0_2]) (t:=27) ?hr ?_;(case hd=>rfl);(case hg=>rfl);(case hr=>first|(go_simp;done)|(go_simp;rfl));intro gb1 hg w15 hbox hb;have n0_:=am_ (below_step (zl0_ HB) hb);have n1_:=am_ (hbox);have n2_:=am_ ((zg0_ HB hg:w.heap.size≤gb1));have n3_:=am_ ((zg0_ HB hg:w.heap.size≤gb1));clear HB;have HB:=n0_;have BK1:=n1_;have GW1:=n2_;have GE1:=n3_;clear n0_ n1_ n2_ n3_;clear hb hbox hg)|((with_reducible refine gate_dst (N:=3) rfl ?_);refine box_event ?hg (N:=3) ?hd (cs:=#[.int .i64 a1_0, .int .i64 a1_1, .int .i64 a1_2]) (t:=27) ?hr ?_;(case hd=>rfl);(case hg=>rfl);(case hr=>first|(go_simp;done)|(go_simp;rfl));intro gb2 hg w16 hbox hb;have n0_:=am_ (blk_below (zb_ BK1) hb);have n1_:=am_ (below_step (zl1_ HB GE1) hb);have n2_:=am_ (hbox);have n3_:=am_ ((zg1_ HB GE1 hg:w.heap.size≤gb2));have n4_:=am_ ((zg1_ HB GE1 hg:w.heap.size≤gb2));have n5_:=am_ ((zn_ BK1 hg:gb1≠gb2));have n6_:=am_ ((zm_ BK1 hg:gb2≠gb1));clear BK1;clear HB;have BK1:=n0_;have HB:=n1_;have BK2:=n2_;have GW2:=n3_;have GE2:=n4_;have NB1_2:=n5_;have NB2_1:=n6_;clear n0_ n1_ n2_ n3_ n4_ n5_ n6_;clear hb hbox hg;have hnb17:=NB1_2.out;have hnc17:=NB2_1.out;have hcz18_0:w16.cell? ⟨gb1,0,none⟩=some (.int .i64 a0_0):=(blk_cell BK1.out 0).trans rfl;have hcz18_1:w16.cell? ⟨gb1,1,none⟩=some (.int .i64 a0_1):=(blk_cell BK1.out 1).trans rfl;have hcz18_2:w16.cell? ⟨gb1,2,none⟩=some (.int .i64 a0_2):=(blk_cell BK1.out 2).trans rfl;have hfz18_0:=blk_frozen BK1.out 0;have hfz18_1:=blk_frozen BK1.out 1;have hfz18_2:=blk_frozen BK1.out 2;have hcz19_0:w16.cell? ⟨gb2,0,none⟩=some (.int .i64 a1_0):=(blk_cell BK2.out 0).trans rfl;have hcz19_1:w16.cell? ⟨gb2,1,none⟩=some (.int .i64 a1_1):=(blk_cell BK2.out 1).trans rfl;have hcz19_2:w16.cell? ⟨gb2,2,none⟩=some (.int .i64 a1_2):=(blk_cell BK2.out 2).trans rfl;have hfz19_0:=blk_frozen BK2.out 0;have hfz19_1:=blk_frozen BK2.out 1;have hfz19_2:=blk_frozen BK2.out 2))
  go_ret
  exact ⟨by first|rfl|(simp [errW_none,errW_some]<;>rfl)|(simp [*,errW_none,errW_some]<;>rfl),zl2_ HB GE1 GE2⟩

def vec_Most.f:Option (Int×Int×Int):=some (1099511627776,1099511627776,1099511627776)
set_option maxHeartbeats 8000000 in
set_option maxRecDepth 100000 in
theorem vec_Most.calls (r1:Int) (r2:Int) (r3:Int) (w:World) (h:vec_Most.f=some (r1,r2,r3)):
  Calls Try.prog 157 #[] w fun e w'=>e= .returned (.agg #[.int .i64 r1, .int .i64 r2, .int .i64 r3])∧Below w.heap.size w w':=by
 have hu27:=Try.underlying27
 have HB:=am_ (Below.refl w.heap.size w)
 have H:(some (1099511627776,1099511627776,1099511627776))=some (r1,r2,r3):=h
 clear h
 simp only [Option.some.injEq,Prod.mk.injEq] at H
 obtain ⟨rfl,rfl,rfl⟩:=H
 go_enter Try.func157,Try.ntmps157
 go_wp2_with (first|((with_reducible refine gate_dst (N:=0) rfl ?_);refine box_event ?hg (N:=0) ?hd (cs:=#[.int .i64 0, .int .i64 0, .int .i64 0]) (t:=27) ?hr ?_;(case hd=>rfl);(case hg=>rfl);(case hr=>first|(go_simp;done)|(go_simp;rfl));intro gb1 hg w1 hbox hb;have n0_:=am_ (below_step (zl0_ HB) hb);have n1_:=am_ (hbox);have n2_:=am_ ((zg0_ HB hg:w.heap.size≤gb1));have n3_:=am_ ((zg0_ HB hg:w.heap.size≤gb1));clear HB;have HB:=n0_;have BK1:=n1_;have GW1:=n2_;have GE1:=n3_;clear n0_ n1_ n2_ n3_;clear hb hbox hg;have hcz2_0:w1.cell? ⟨gb1,0,none⟩=some (.int .i64 0):=(blk_cell BK1.out 0).trans rfl;have hcz2_1:w1.cell? ⟨gb1,1,none⟩=some (.int .i64 0):=(blk_cell BK1.out 1).trans rfl;have hcz2_2:w1.cell? ⟨gb1,2,none⟩=some (.int .i64 0):=(blk_cell BK1.out 2).trans rfl;have hfz2_0:=blk_frozen BK1.out 0;have hfz2_1:=blk_frozen BK1.out 1;have hfz2_2:=blk_frozen BK1.out 2))
 refine bodyPost_ret (results_cell_row rfl _ _ gb1 27 #[.int .i64 1099511627776, .int .i64 1099511627776, .int .i64 1099511627776] (0,0) _ rfl (by refine zk_ ?_;refine blk_put (cs:=#[.int .i64 1099511627776, .int .i64 1099511627776, .int .i64 0]) ?_ 2 _ rfl;refine zk_ ?_;refine blk_put (cs:=#[.int .i64 1099511627776, .int .i64 0, .int .i64 0]) ?_ 1 _ rfl;refine zk_ ?_;refine blk_put (cs:=#[.int .i64 0, .int .i64 0, .int .i64 0]) ?_ 0 _ rfl;refine zk_ ?_;exact BK1.out) Try.underlying27 rfl (by kernel_rfl)) rfl ?_
 exact ⟨by first|rfl|(simp [errW_none,errW_some]<;>rfl)|(simp [*,errW_none,errW_some]<;>rfl),zl1_ HB GE1⟩

def vec_May.f (a0_0:Int) (a0_1:Int) (a0_2:Int):Option (Bool):=(vec_Le.f 0 0 0 a0_0 a0_1 a0_2).bind fun t2=>(if t2=true then ((vec_Most.f).bind fun bt3=>((vec_Le.f a0_0 a0_1 a0_2 bt3.1 bt3.2.1 bt3.2.2).bind fun t6=>(some t6))) else (some false))
def vec_May.T1:Bool×List (List Nat×List Nat):=(true,[([],[]),([],[]),([0,1],[0,1]),([2,2],[2]),([3],[3]),([3,3],[3]),([4,5,5,3],[3,4,5]),([3,6],[3,6]),([7,6,0,1,2,3,4,5,6,7],[7])])
def vec_May.B1:List Nat:=[0,0,3,7,15,15,63,127,255]
theorem vec_May.tab1:rtab .any (opsOf Try.f115 1)=vec_May.T1:=by kernel_rfl
theorem vec_May.bits1:waitsOk vec_May.T1.2 vec_May.B1=true:=by kernel_rfl
set_option maxHeartbeats 8000000 in
set_option maxRecDepth 100000 in
theorem vec_May.calls (a0_0:Int) (a0_1:Int) (a0_2:Int) (r:Bool) (w:World) (h:vec_May.f a0_0 a0_1 a0_2=some r):
  Calls Try.prog 115 #[.agg #[.int .i64 a0_0, .int .i64 a0_1, .int .i64 a0_2]] w fun e w'=>e= .returned (.bool r)∧Below w.heap.size w w':=by
 have hu27:=Try.underlying27
 have HB:=am_ (Below.refl w.heap.size w)
 have H:((vec_Le.f 0 0 0 a0_0 a0_1 a0_2).bind fun t2=>(if t2=true then ((vec_Most.f).bind fun bt3=>((vec_Le.f a0_0 a0_1 a0_2 bt3.1 bt3.2.1 bt3.2.2).bind fun t6=>(some t6))) else (some false)))=some r:=h
 clear h
 replace H:=Option.bind_eq_some_iff.mp H
 obtain ⟨t2,A20,H⟩:=H
 replace H:(if t2=true then ((vec_Most.f).bind fun bt3=>((vec_Le.f a0_0 a0_1 a0_2 bt3.1 bt3.2.1 bt3.2.2).bind fun t6=>(some t6))) else (some false))=some r:=H
 have A2:=Aside0.mk A20
 clear A20
 by_cases c3:t2=true
 ·subst c3
  have H1:((vec_Most.f).bind fun bt3=>((vec_Le.f a0_0 a0_1 a0_2 bt3.1 bt3.2.1 bt3.2.2).bind fun t6=>(some t6)))=some r:=by rw [if_pos rfl] at H;exact H
  clear H
  have H:=H1
  clear H1
  replace H:=Option.bind_eq_some_iff.mp H
  obtain ⟨⟨t3,t4,t5⟩,A40,H⟩:=H
  replace H:((vec_Le.f a0_0 a0_1 a0_2 t3 t4 t5).bind fun t6=>(some t6))=some r:=H
  have A4:=Aside0.mk A40
  clear A40
  replace H:=Option.bind_eq_some_iff.mp H
  obtain ⟨t6,A50,H⟩:=H
  replace H:(some t6)=some r:=H
  have A5:=Aside0.mk A50
  clear A50
  obtain rfl:=Option.some.inj H
  go_enter Try.func115,Try.ntmps115
  try go_wp2_with (first|((with_reducible refine gate_dst (N:=1) rfl ?_);refine box_event ?hg (N:=1) ?hd (cs:=#[.int .i64 a0_0, .int .i64 a0_1, .int .i64 a0_2]) (t:=27) ?hr ?_;(case hd=>rfl);(case hg=>rfl);(case hr=>first|(go_simp;done)|(go_simp;rfl));intro gb1 hg w6 hbox hb;have n0_:=am_ (below_step (zl0_ HB) hb);have n1_:=am_ (hbox);have n2_:=am_ ((zg0_ HB hg:w.heap.size≤gb1));have n3_:=am_ ((zg0_ HB hg:w.heap.size≤gb1));clear HB;have HB:=n0_;have BK1:=n1_;have GW1:=n2_;have GE1:=n3_;clear n0_ n1_ n2_ n3_;clear hb hbox hg))
  have n0_:=am_ (blk_drew BK1.out)
  have n1_:=am_ (below_drew1 HB.out)
  clear BK1
  clear HB
  have BK1:=n0_
  have HB:=n1_
  clear n0_ n1_
  refine start_ (n:=9) (S:=fun w'=>w'.cell? ⟨gb1,0,none⟩=some (.int .i64 a0_0)∧w'.cell? ⟨gb1,1,none⟩=some (.int .i64 a0_1)∧w'.cell? ⟨gb1,2,none⟩=some (.int .i64 a0_2)) (ds:=[]) (bt_ 9 0) (by kernel_rfl) rfl rfl ⟨(blk_cell BK1.out 0).trans rfl,(blk_cell BK1.out 1).trans rfl,(blk_cell BK1.out 2).trans rfl⟩ (fun hHeld=> ?_);refine with_tabW vec_May.tab1 vec_May.bits1 (fun HT_ HW_=> ?_)
  generalize w6.drew=w7 at BK1 HB hHeld ⊢
  refine pu_ (i:=0) (N:=some 3) (bt_ 9 1) HT_ ?_
  refine tk_ (i:=1) (N:=some 4) (bt_ 9 3) HT_ HW_ hHeld ?_
  refine one_ (i:=2) (N:=some 5) (bt_ 9 7) rfl rfl (one_of HT_.out (by kernel_rfl)) (by decide) (fun K hK=> ?_)
  refine goes_ Try.func118 (by kernel_rfl) rfl #[.agg #[.int .i64 0, .int .i64 0, .int .i64 0], .agg #[.int .i64 a0_0, .int .i64 a0_1, .int .i64 a0_2]] (by rfl) rfl rfl zs_ ?_
  with_reducible refine (vec_Le.calls 0 0 0 a0_0 a0_1 a0_2 true _ A2.out).mono ?_
  rintro e w8 ⟨rfl,hb⟩
  refine ⟨_,rfl, ?_⟩
  have n0_:=am_ (blk_below (zb_ BK1) hb)
  have n1_:=am_ (below_step (zl1_ HB GE1) hb)
  clear BK1
  clear HB
  have BK1:=n0_
  have HB:=n1_
  clear n0_ n1_
  (try clear hb)
  (try clear hb2)
  (try clear hk)
  (try clear hi)
  refine hK.out _ _ ⟨(blk_cell BK1.out 0).trans rfl,(blk_cell BK1.out 1).trans rfl,(blk_cell BK1.out 2).trans rfl⟩ (fun hHeld=> ?_)
  clear hK K
  refine no_ (N:=some 5) ?_
  refine pu_ (i:=3) (N:=some 6) (bt_ 9 15) HT_ ?_
  refine tk_ (i:=4) (N:=some 7) (bt_ 9 31) HT_ HW_ hHeld ?_
  refine one_ (i:=5) (N:=some 8) (bt_ 9 63) rfl rfl (one_of HT_.out (by kernel_rfl)) (by decide) (fun K hK=> ?_)
  refine goes_ Try.func157 (by kernel_rfl) rfl #[] (by rfl) rfl rfl zs_ ?_
  with_reducible refine (vec_Most.calls t3 t4 t5 _ A4.out).mono ?_
  rintro e w9 ⟨rfl,hb⟩
  refine ⟨_,rfl, ?_⟩
  have n0_:=am_ (blk_below (zb_ BK1) hb)
  have n1_:=am_ (below_step (zl1_ HB GE1) hb)
  clear BK1
  clear HB
  have BK1:=n0_
  have HB:=n1_
  clear n0_ n1_
  (try clear hb)
  (try clear hb2)
  (try clear hk)
  (try clear hi)
  refine hK.out _ _ ⟨(blk_cell BK1.out 0).trans rfl,(blk_cell BK1.out 1).trans rfl,(blk_cell BK1.out 2).trans rfl⟩ (fun hHeld=> ?_)
  clear hK K
  refine no_ (N:=some 8) ?_
  refine one_ (i:=6) (N:=some 9) (bt_ 9 127) rfl rfl (one_of HT_.out (by kernel_rfl)) (by decide) (fun K hK=> ?_)
  refine goes_ Try.func118 (by kernel_rfl) rfl #[.agg #[.int .i64 a0_0, .int .i64 a0_1, .int .i64 a0_2], .agg #[.int .i64 t3, .int .i64 t4, .int .i64 t5]] (by rfl) rfl rfl zs_ ?_
  with_reducible refine (vec_Le.calls a0_0 a0_1 a0_2 t3 t4 t5 t6 _ A5.out).mono ?_
  rintro e w10 ⟨rfl,hb⟩
  refine ⟨_,rfl, ?_⟩
  have n0_:=am_ (blk_below (zb_ BK1) hb)
  have n1_:=am_ (below_step (zl1_ HB GE1) hb)
  clear BK1
  clear HB
  have BK1:=n0_
  have HB:=n1_
  clear n0_ n1_
  (try clear hb)
  (try clear hb2)
  (try clear hk)
  (try clear hi)
  refine hK.out _ _ ⟨(blk_cell BK1.out 0).trans rfl,(blk_cell BK1.out 1).trans rfl,(blk_cell BK1.out 2).trans rfl⟩ (fun hHeld=> ?_)
  clear hK K
  refine no_ (N:=some 9) ?_
  refine pu_ (i:=7) (N:=some 10) (bt_ 9 255) HT_ ?_
  refine pu_ (i:=8) (N:=some 2) (bt_ 9 511) HT_ ?_
  refine done_ (done_of HT_.out (by kernel_rfl)) ?_
  try go_wp2
  go_ret
  exact ⟨by first|rfl|(simp [errW_none,errW_some]<;>rfl)|(simp [*,errW_none,errW_some]<;>rfl),zl1_ HB GE1⟩
 ·replace c3:=Bool.eq_false_iff.mpr c3
  subst c3
  have H1:(some false)=some r:=by rw [if_neg (show¬(false=true) by decide)] at H;exact H
  clear H
  have H:=H1
  clear H1
  obtain rfl:=Option.some.inj H
  go_enter Try.func115,Try.ntmps115
  try go_wp2_with (first|((with_reducible refine gate_dst (N:=1) rfl ?_);refine box_event ?hg (N:=1) ?hd (cs:=#[.int .i64 a0_0, .int .i64 a0_1, .int .i64 a0_2]) (t:=27) ?hr ?_;(case hd=>rfl);(case hg=>rfl);(case hr=>first|(go_simp;done)|(go_simp;rfl));intro gb1 hg w11 hbox hb;have n0_:=am_ (below_step (zl0_ HB) hb);have n1_:=am_ (hbox);have n2_:=am_ ((zg0_ HB hg:w.heap.size≤gb1));have n3_:=am_ ((zg0_ HB hg:w.heap.size≤gb1));clear HB;have HB:=n0_;have BK1:=n1_;have GW1:=n2_;have GE1:=n3_;clear n0_ n1_ n2_ n3_;clear hb hbox hg))
  have n0_:=am_ (blk_drew BK1.out)
  have n1_:=am_ (below_drew1 HB.out)
  clear BK1
  clear HB
  have BK1:=n0_
  have HB:=n1_
  clear n0_ n1_
  refine start_ (n:=9) (S:=fun w'=>w'.cell? ⟨gb1,0,none⟩=some (.int .i64 a0_0)∧w'.cell? ⟨gb1,1,none⟩=some (.int .i64 a0_1)∧w'.cell? ⟨gb1,2,none⟩=some (.int .i64 a0_2)) (ds:=[]) (bt_ 9 0) (by kernel_rfl) rfl rfl ⟨(blk_cell BK1.out 0).trans rfl,(blk_cell BK1.out 1).trans rfl,(blk_cell BK1.out 2).trans rfl⟩ (fun hHeld=> ?_);refine with_tabW vec_May.tab1 vec_May.bits1 (fun HT_ HW_=> ?_)
  generalize w11.drew=w12 at BK1 HB hHeld ⊢
  refine pu_ (i:=0) (N:=some 3) (bt_ 9 1) HT_ ?_
  refine tk_ (i:=1) (N:=some 4) (bt_ 9 3) HT_ HW_ hHeld ?_
  refine one_ (i:=2) (N:=some 5) (bt_ 9 7) rfl rfl (one_of HT_.out (by kernel_rfl)) (by decide) (fun K hK=> ?_)
  refine goes_ Try.func118 (by kernel_rfl) rfl #[.agg #[.int .i64 0, .int .i64 0, .int .i64 0], .agg #[.int .i64 a0_0, .int .i64 a0_1, .int .i64 a0_2]] (by rfl) rfl rfl zs_ ?_
  with_reducible refine (vec_Le.calls 0 0 0 a0_0 a0_1 a0_2 false _ A2.out).mono ?_
  rintro e w13 ⟨rfl,hb⟩
  refine ⟨_,rfl, ?_⟩
  have n0_:=am_ (blk_below (zb_ BK1) hb)
  have n1_:=am_ (below_step (zl1_ HB GE1) hb)
  clear BK1
  clear HB
  have BK1:=n0_
  have HB:=n1_
  clear n0_ n1_
  (try clear hb)
  (try clear hb2)
  (try clear hk)
  (try clear hi)
  refine hK.out _ _ ⟨(blk_cell BK1.out 0).trans rfl,(blk_cell BK1.out 1).trans rfl,(blk_cell BK1.out 2).trans rfl⟩ (fun hHeld=> ?_)
  clear hK K
  refine no_ (N:=some 5) ?_
  refine pu_ (i:=3) (N:=some 6) (bt_ 9 15) HT_ ?_
  refine pn_ (i:=4) (N:=some 7) (bt_ 9 31) HT_ ?_
  refine pn_ (i:=5) (N:=some 8) (bt_ 9 63) HT_ ?_
  refine pn_ (i:=6) (N:=some 9) (bt_ 9 127) HT_ ?_
  refine pu_ (i:=7) (N:=some 10) (bt_ 9 255) HT_ ?_
  refine pu_ (i:=8) (N:=some 2) (bt_ 9 511) HT_ ?_
  refine done_ (done_of HT_.out (by kernel_rfl)) ?_
  try go_wp2
  go_ret
  exact ⟨by first|rfl|(simp [errW_none,errW_some]<;>rfl)|(simp [*,errW_none,errW_some]<;>rfl),zl1_ HB GE1⟩

end Go.Proofs.Ytcgefpklljclgaa.Print

namespace Go.Proofs.Ytcgefpklljclgaa.Print
open Go.RowKit Go.Proofs.YtcgefpklljclgaaW.PrintWords Go.Proofs.YtcgefpklljclgaaW.PrintLast Go.Proofs.YtcgefpklljclgaaW.PrintMore
set_option linter.unusedVariables false
set_option linter.unusedSimpArgs false
theorem R_base_ {α:Type} {d:Kd α} {e base:Nat} {ok:Nat→Prop} {w:World} {v:Value} {xs:List α} (h:d.R e w base ok v xs) (k:Nat) (hk:v.ownBlock=some k):base≤k:=Kd.R_base h k hk
theorem older_zero {l r:List S31} {j:Int} (h:olderF l j=some (0,r)):0≤j∧j<(l.length:Int):=by
  unfold olderF at h
  split at h
  · assumption
  · cases h
theorem older_len {l r:List S31} {j e:Int} (h:olderF l j=some (e,r)):r.length=l.length:=by
  unfold olderF at h
  split at h
  · split at h
    · cases h;rfl
    · cases h;simp
  · cases h
theorem sh_cells' {base:Nat} {w:World} {g c n:Nat} {l:List S31} (h:Kd.R k31 31 w base (fun _=>True) (.slice (some ⟨g,0,none⟩) n c) l) (hn:l.length=n) (j:Int) (h0:0≤j) (h1:j<(n:Int)):
  ∀j' u,(shCells (rd_T31 l j))[j']?=some u→w.cell? ⟨g,j.toNat*12+j',none⟩=some u:=by
 subst hn
 exact sh_cells h j h0 h1
theorem sh_block {α:Type} {d:Kd α} {e base:Nat} {ok:Nat→Prop} {w:World} {g n c:Nat} {xs:List α} (h:d.R e w base ok (.slice (some ⟨g,0,none⟩) n c) xs): ∃cur,w.heap[g]?=some (.cells cur e (0,0))∧n*d.sz≤cur.size:=by
  obtain ⟨_,inner,⟨_,h|⟨g',cap',cur,hv,hg,hh,hnc,hcm,hcs,_⟩⟩,_⟩:=h
  · cases h.1
  · cases hv
    exact ⟨cur,hh,by rw [hcs];exact Nat.mul_le_mul_right _ (by omega)⟩
theorem sh_store {P:Program} {ops:Array Oper} {o:Oper} {a:Act} {Q:Exit→Act→World→Prop} {Kc:Act→World→Prop} {α:Type} (d:Kd α) {W:World} (base:Nat) (hw:Region.wanted o (yielded ops a.tmps)=true) (t:TypeId) (p x:Operand) (ho:o.op= .store t p x) (hN:o.dst=none) (e:TypeId) {g n cap:Nat} (i:Int) (j:Nat) (xs:List α) (x':α) (u:Value) (seg c:List Value) (ok okp:Nat→Prop)
  (haddr:a.eval p= .pointer (some ⟨g,i.toNat*d.sz+j,none⟩)) (hx:a.eval x=u) (hu:u.cells.toList=seg) (ht:(P.info? t).map (·.size)=some seg.length) (h1: ∀q∈seg,q.oneCell'=true)
  (HO:d.R e W base ok (.slice (some ⟨g,0,none⟩) n cap) xs) (h0:0≤i) (hi:i<n) (hcl:c.length=d.sz) (hcc: ∀j u,c[j]?=some u→W.cell? ⟨g,i.toNat*d.sz+j,none⟩=some u)
  (hj:j+seg.length≤d.sz) (hM:d.M W base okp x' (c.take j++seg++c.drop (j+seg.length))) (hokp: ∀k,okp k→ok k∧k≠g)
  (h: ∀w1,d.R e w1 base ok (.slice (some ⟨g,0,none⟩) n cap) (xs.set i.toNat x')→W.grownBy w1 (some g)→Kc a w1):if Region.wanted o (yielded ops a.tmps)=true then Oper.wp P o a W Kc Q else Kc (a.put none undef) W:=by
 obtain ⟨hrow,hg⟩:=Kd.R_seg HO i h0 hi hcl hcc hj hM hokp
 obtain ⟨cur,hh,hsz⟩:=sh_block HO
 have h2:i.toNat*d.sz+d.sz≤n*d.sz:=by rw [←Nat.succ_mul];exact Nat.mul_le_mul_right _ (by omega)
 have hrun:=run_store_run (P:=P) t u seg hh hu ht (o:=i.toNat*d.sz+j) (by omega) h1
 rw [if_pos hw]
 unfold Oper.wp execOp
 simp only [ho,haddr,hx,Sem.run_bind,Sem.run_pure,Result.andThen_ok,hrun]
 show Kc (a.put o.dst undef) _
 rw [hN]
 exact h _ hrow hg
end Go.Proofs.Ytcgefpklljclgaa.Print

namespace Go.Proofs.Ytcgefpklljclgaa.Print
open Go.RowKit Go.Proofs.YtcgefpklljclgaaW.PrintWords Go.Proofs.YtcgefpklljclgaaW.PrintLast Go.Proofs.YtcgefpklljclgaaW.PrintMore
attribute [local go_sem] max2_int min2_int max_two min_two max_three min_three max_four min_four
set_option linter.unusedVariables false
set_option linter.unusedSimpArgs false

def limF (v:S27) (y:S31):S31:=⟨y.f0,y.f1,v,y.f3,y.f4,y.f5⟩
def shape_Limit.f (l0:List (S31)) (a1:ByteArray) (a2_0:Int) (a2_1:Int) (a2_2:Int) (a3:Int):Option ((List (S31))×Int):=
 (vec_May.f a2_0 a2_1 a2_2).bind fun m=>if m=false then some ([],1) else (shape_made.f l0 a1).bind fun p=>(guardF p.1 p.2 a3).bind fun e=>if e≠0 then some ([],e) else (olderF p.1 p.2).bind fun q=>if q.1≠0 then some ([],q.1) else
  (vec_Le.f (rd_T31 q.2 p.2).f4.f0 (rd_T31 q.2 p.2).f4.f1 (rd_T31 q.2 p.2).f4.f2 a2_0 a2_1 a2_2).bind fun b=>if b=false then some ([],12) else some (q.2.set p.2.toNat (limF ⟨a2_0,a2_1,a2_2⟩ (rd_T31 q.2 p.2)),0)
set_option maxHeartbeats 8000000 in
set_option maxRecDepth 100000 in
theorem shape_Limit.calls (A0:Option Addr) (c0:Nat) (l0:List (S31)) (a1:ByteArray) (a2_0:Int) (a2_1:Int) (a2_2:Int) (a3:Int) (r1:List (S31)) (r2:Int) (w:World) (hr0:Kd.C k31 w A0 l0.length l0) (hc0:l0.length≤c0) (h:shape_Limit.f l0 a1 a2_0 a2_1 a2_2 a3=some (r1,r2)):
    Calls Try.prog 87 #[.slice A0 l0.length c0, .string a1, .agg #[.int .i64 a2_0, .int .i64 a2_1, .int .i64 a2_2], .int .i64 a3] w fun e w'=> ∃v0_:Value,e= .returned (.tuple #[v0_, .int .i64 r2])∧Kd.R k31 31 w' w.heap.size (fun _=>True) v0_ r1∧Below w.heap.size w w':=by
  have hu168:=Try.underlying168
  have hu166:=Try.underlying166
  have hu31:=Try.underlying31
  have hu27:=Try.underlying27
  unfold shape_Limit.f at h
  obtain ⟨m,hm,h1⟩:=Option.bind_eq_some_iff.1 h
  clear h
  have HMAY:=Aside0.mk hm
  have HR:=Aside0.mk hr0
  have HC:=Aside0.mk hc0
  have HB:=am_ (Below.refl w.heap.size w)
  have HH:=Aside0.mk h1
  clear hr0 hc0 hm h1
  go_enter Try.func87,Try.ntmps87
  go_wp2_with (first|((with_reducible refine gate_dst (N:=6) rfl ?_);refine box_event ?hg (N:=6) ?hd (cs:=#[.int .i64 a2_0, .int .i64 a2_1, .int .i64 a2_2]) (t:=27) ?hr ?_;(case hd=>rfl);(case hg=>rfl);(case hr=>first|(go_simp;done)|(go_simp;rfl));intro gb1 hg w1 hbox hb;have n0_:=am_ (below_step HB.out hb);have n1_:=am_ (hbox);have n2_:=am_ ((by rw [hg];exact below_size HB.out:w.heap.size≤gb1));have n3_:=am_ (hg);clear HB;have HB:=n0_;have BK1:=n1_;have GE1:=n2_;have EQ1:=n3_;clear n0_ n1_ n2_ n3_;clear hb hbox hg;have cgb1_0:=(blk_cell BK1.out 0).trans rfl;have cgb1_1:=(blk_cell BK1.out 1).trans rfl;have cgb1_2:=(blk_cell BK1.out 2).trans rfl))
  refine (vec_May.calls _ _ _ _ _ HMAY.out).mono ?_
  rintro e w2 ⟨rfl,hb⟩
  clear cgb1_0 cgb1_1 cgb1_2
  have n0_:=am_ (blk_below BK1.out hb);have n1_:=am_ (below_step HB.out hb);clear BK1;clear HB;have BK1:=n0_;have HB:=n1_;clear n0_ n1_
  clear hb
  have h1:=HH.out
  clear HH
  cases m with
  | false =>
    rw [if_pos rfl] at h1
    cases h1
    go_wp2_with fail
    go_ret2
    exact ⟨_,rfl,Kd.R_nil _ _ _ _ _,HB.out⟩
  | true =>
    rw [if_neg (by simp)] at h1
    obtain ⟨⟨out,j⟩,hmd,h2⟩:=Option.bind_eq_some_iff.1 h1
    clear h1
    obtain ⟨e0,hgd,h3⟩:=Option.bind_eq_some_iff.1 h2
    clear h2
    dsimp only at hgd h3
    have HM:=Aside0.mk hmd
    have HG:=Aside0.mk hgd
    have HH:=Aside0.mk h3
    clear hmd hgd h3
    go_wp2_with fail
    refine (shape_made.calls _ _ _ _ _ _ _ (Kd.C_below HR.out HB.out) HC.out HM.out).mono ?_
    rintro e w3 ⟨v0,rfl,ho,hb⟩
    have HO:=am_ (Kd.R_lower ho (below_size HB.out))
    have HRB:=am_ (R_base_ ho)
    have GT0:=am_ (blk_lt BK1.out)
    have GT1:=am_ (Nat.lt_of_lt_of_le (blk_lt BK1.out) hb.size)
    have n0_:=am_ (blk_below BK1.out hb);have n1_:=am_ (below_step HB.out hb);clear BK1;clear HB;have BK1:=n0_;have HB:=n1_;clear n0_ n1_
    clear ho hb
    obtain ⟨A5,c5,rfl⟩: ∃A5 c5,v0= .slice A5 out.length c5:=Kd.R_slice HO.out
    have HLT:=am_ (Kd.R_lt HO.out)
    have NE1:=am_ (show some gb1≠(Value.slice A5 out.length c5).ownBlock from fun e=>by have:=HRB.out _ e.symm;have:=GT0.out;omega)
    go_wp2_with (first|((with_reducible refine gate_dst (N:=10) rfl ?_);refine box_event ?hg (N:=10) ?hd (cs:=#[.slice none 0 0, .int .i64 0]) (t:=168) ?hr ?_;(case hd=>rfl);(case hg=>rfl);(case hr=>first|(go_simp;done)|(go_simp;rfl));intro gb2 hg w4 hbox hb;have n0_:=am_ (Kd.R_below HO.out hb);have n1_:=am_ (blk_below BK1.out hb);have n2_:=am_ (below_step HB.out hb);have n3_:=am_ (hbox);have n4_:=am_ ((by rw [hg];exact below_size HB.out:w.heap.size≤gb2));have n5_:=am_ (hg);clear HO;clear BK1;clear HB;have HO:=n0_;have BK1:=n1_;have HB:=n2_;have BK2:=n3_;have GE2:=n4_;have EQ2:=n5_;clear n0_ n1_ n2_ n3_ n4_ n5_;clear hb hbox hg)|((with_reducible refine gate_store (t:=168) (p:=10) (v:= .tmp 18) rfl ?_);refine store_all BK2.out 168 (.tmp 10) (.tmp 18) rfl rfl rfl (.agg #[.slice A5 out.length c5, .int .i64 j]) [.slice A5 out.length c5, .int .i64 j] rfl rfl rfl (by kernel_rfl) rfl (by intro q hq;simp only [List.mem_cons,List.not_mem_nil,or_false] at hq;rcases hq with rfl|rfl<;>rfl) ?_;intro w5 hbk hg;have n0_:=am_ (R_put HO.out BK2.out (by decide) hg);have n1_:=am_ (blk_put_other BK1.out hg (by have:=EQ2.out;have:=GT1.out;omega));have n2_:=am_ (below_put HB.out (below_size HB.out) hg GE2.out);have n3_:=am_ (hbk);clear HO;clear BK1;clear HB;clear BK2;have HO:=n0_;have BK1:=n1_;have HB:=n2_;have BK2:=n3_;clear n0_ n1_ n2_ n3_;clear hbk hg;have cgb2_0:=(blk_cell BK2.out 0).trans rfl;have cgb2_1:=(blk_cell BK2.out 1).trans rfl))
    have NE2:=am_ (show some gb2≠(Value.slice A5 out.length c5).ownBlock from fun e=>by have:=HLT.out _ e.symm;have:=EQ2.out;omega)
    refine (shapeGuard_calls _ _ _ out j a3 e0 HO.out HG.out).mono ?_
    rintro e w6 ⟨rfl,hb⟩
    clear cgb2_0 cgb2_1
    have n0_:=am_ (Kd.R_below HO.out hb);have n1_:=am_ (blk_below BK1.out hb);have n2_:=am_ (blk_below BK2.out hb);have n3_:=am_ (below_step HB.out hb);clear HO;clear BK1;clear BK2;clear HB;have HO:=n0_;have BK1:=n1_;have BK2:=n2_;have HB:=n3_;clear n0_ n1_ n2_ n3_
    clear hb
    have cgb2_0:=(blk_cell BK2.out 0).trans rfl
    have cgb2_1:=(blk_cell BK2.out 1).trans rfl
    have h3:=HH.out
    clear HH
    by_cases c1:e0=0
    · cases c1
      rw [if_neg (by simp)] at h3
      obtain ⟨⟨e1,l2⟩,hol,h4⟩:=Option.bind_eq_some_iff.1 h3
      clear h3
      have HOL:=Aside0.mk hol
      have HH:=Aside0.mk h4
      clear hol h4
      go_wp2_with fail
      refine (shapeOlder_calls _ _ _ out l2 j e1 HO.out (below_size HB.out) HOL.out).mono ?_
      rintro e w7 ⟨rfl,ho,ht⟩
      clear cgb2_0 cgb2_1
      have n0_:=am_ (ho);have n1_:=am_ (ht.block _ _ BK1.out NE1.out);have n2_:=am_ (ht.block _ _ BK2.out NE2.out);have n3_:=am_ (HB.out.trans ht.below);clear HO;clear BK1;clear BK2;clear HB;have HO:=n0_;have BK1:=n1_;have BK2:=n2_;have HB:=n3_;clear n0_ n1_ n2_ n3_
      clear ho ht
      have cgb2_0:=(blk_cell BK2.out 0).trans rfl
      have cgb2_1:=(blk_cell BK2.out 1).trans rfl
      have h4:=HH.out
      clear HH
      by_cases c2:e1=0
      · cases c2
        rw [if_neg (by simp)] at h4
        obtain ⟨b,hle,h5⟩:=Option.bind_eq_some_iff.1 h4
        clear h4
        obtain ⟨hj0,hj1⟩:=older_zero HOL.out
        obtain ⟨gb,cap,hv0,hgb,hgl⟩:=sh_head HO.out (by have:=older_len HOL.out;omega)
        rw [older_len HOL.out] at hv0
        cases hv0
        have hcs:=sh_cells' HO.out (older_len HOL.out) j hj0 hj1
        have HJ0:=Aside0.mk hj0
        have HJ1:=Aside0.mk hj1
        generalize hy:rd_T31 l2 j=y at hcs hle h5
        have HY:=Aside0.mk hy
        have HGB:=Aside0.mk hgb
        have HGL:=Aside0.mk hgl
        have HLE:=Aside0.mk hle
        have HH:=Aside0.mk h5
        have HCS:=Aside0.mk hcs
        have k8:=hcs 8 _ rfl
        have k9:=hcs 9 _ rfl
        have k10:=hcs 10 _ rfl
        have v0_:=(blk_cell BK1.out 0).trans rfl
        have v1_:=(blk_cell BK1.out 1).trans rfl
        have v2_:=(blk_cell BK1.out 2).trans rfl
        have hB0:Below w7.heap.size w7 w7:=Below.refl _ _
        have hBd:Below w7.heap.size w7 w7.drew:=below_drew hB0
        clear hj0 hj1 hy hgb hgl hle h5 hcs
        go_wp2_with fail
        go_region_held3 (fun w'=>w'.cell? ⟨gb2,0,none⟩=some (.slice (some ⟨gb,0,none⟩) out.length c5)∧w'.cell? ⟨gb2,1,none⟩=some (.int .i64 j)∧w'.cell? ⟨gb,j.toNat*12+8,none⟩=some (.int .i64 y.f4.f0)∧w'.cell? ⟨gb,j.toNat*12+9,none⟩=some (.int .i64 y.f4.f1)∧w'.cell? ⟨gb,j.toNat*12+10,none⟩=some (.int .i64 y.f4.f2)∧w'.cell? ⟨gb1,0,none⟩=some (.int .i64 a2_0)∧w'.cell? ⟨gb1,1,none⟩=some (.int .i64 a2_1)∧w'.cell? ⟨gb1,2,none⟩=some (.int .i64 a2_2)∧Below w7.heap.size w7 w')
          (first|(go_keep;done)|(go_split_ands;refine ⟨?_, ?_, ?_, ?_, ?_, ?_, ?_, ?_, ?_⟩<;>first|exact below_step (by assumption) hb|exact pw_cell_below hb (by first|assumption|(go_keep;done))))
          (first|(go_at_call 141;refine (shapeItem_calls _ ⟨gb,0,none⟩ out.length c5 j HJ0.out HJ1.out).mono ?_;rintro e w' ⟨rfl,hb⟩)|(go_at_call 118;refine (vec_Le.calls _ _ _ _ _ _ _ _ HLE.out).mono ?_;rintro e w' ⟨rfl,hb⟩))
        rename_i hHeld
        have hBz:Below w7.heap.size w7 w':=hHeld.2.2.2.2.2.2.2.2
        clear hHeld cgb2_0 cgb2_1 k8 k9 k10 v0_ v1_ v2_ hB0 hBd
        have HGL2:=am_ (Nat.lt_of_lt_of_le HGL.out hBz.size)
        have HCS2:=am_ (fun j' u hu=>(hBz.cell (p:=⟨gb,j.toNat*12+j',none⟩) HGL.out).trans (HCS.out j' u hu))
        have n0_:=am_ (Kd.R_below HO.out hBz);have n1_:=am_ (blk_below BK1.out hBz);have n2_:=am_ (blk_below BK2.out hBz);have n3_:=am_ (below_step HB.out hBz);clear HO;clear BK1;clear BK2;clear HB;have HO:=n0_;have BK1:=n1_;have BK2:=n2_;have HB:=n3_;clear n0_ n1_ n2_ n3_
        (try clear hb)
        clear hBz HCS
        have cgb2_0:=(blk_cell BK2.out 0).trans rfl
        have cgb2_1:=(blk_cell BK2.out 1).trans rfl
        have v0_:=(blk_cell BK1.out 0).trans rfl
        have v1_:=(blk_cell BK1.out 1).trans rfl
        have v2_:=(blk_cell BK1.out 2).trans rfl
        have h5:=HH.out
        clear HH
        cases b with
        | false =>
          rw [if_pos rfl] at h5
          cases h5
          go_wp2_with fail
          go_ret2
          exact ⟨_,rfl,Kd.R_nil _ _ _ _ _,HB.out⟩
        | true =>
          rw [if_neg (by simp)] at h5
          cases h5
          go_wp2_with fail
          have LB:=am_ (blk_lt BK2.out)
          have LB1:=am_ (blk_lt BK1.out)
          refine start_ (n:=6) (S:=fun w'=>w'.cell? ⟨gb2,0,none⟩=some (.slice (some ⟨gb,0,none⟩) out.length c5)∧w'.cell? ⟨gb2,1,none⟩=some (.int .i64 j)∧w'.cell? ⟨gb1,0,none⟩=some (.int .i64 a2_0)∧w'.cell? ⟨gb1,1,none⟩=some (.int .i64 a2_1)∧w'.cell? ⟨gb1,2,none⟩=some (.int .i64 a2_2)) (ds:=[5]) (bt_ 6 0) (by kernel_rfl) rfl rfl ⟨cgb2_0,cgb2_1,v0_,v1_,v2_⟩ (fun hHeld=> ?_)
          refine take_ (i:=0) (N:=some 38) (v:= ?_) (a':= ?_) (bt_ 6 1) rfl rfl (by kernel_rfl) (fun _ _ _ h=>h) (Or.inl ⟨by rfl, ?_⟩) hHeld ?_ ?_;rotate_left;(rintro w' ⟨s0,s1,s2,s3,s4⟩;go_simp;with_reducible rfl);rotate_left;(simp only [Act.put,List.setIfInBounds_toArray,List.set_cons_zero,List.set_cons_succ,i64_w,i32_w];rfl)
          refine take_ (i:=2) (N:=some 40) (v:= ?_) (a':= ?_) (bt_ 6 5) rfl rfl (by kernel_rfl) (fun _ _ _ h=>h) (Or.inl ⟨by rfl, ?_⟩) hHeld ?_ ?_;rotate_left;(rintro w' ⟨s0,s1,s2,s3,s4⟩;go_simp;with_reducible rfl);rotate_left;(simp only [Act.put,List.setIfInBounds_toArray,List.set_cons_zero,List.set_cons_succ,i64_w,i32_w];rfl)
          refine one_ (i:=1) (N:=some 39) (bt_ 6 7) rfl rfl (by kernel_rfl) (by decide) (fun K hK=> ?_)
          refine goes_ Try.func141 (by kernel_rfl) rfl #[.agg #[.slice (some ⟨gb,0,none⟩) out.length c5, .int .i64 j]] (by rfl) rfl rfl (by (try simp only [List.map_toArray,List.map_cons,List.map_nil]);rfl) ?_
          refine (shapeItem_calls _ ⟨gb,0,none⟩ out.length c5 j HJ0.out HJ1.out).mono ?_
          rintro e w9 ⟨rfl,hb⟩
          refine ⟨_,rfl, ?_⟩
          refine hK.out _ _ ⟨(hb.cell (p:=⟨gb2,0,none⟩) LB.out).trans hHeld.1,(hb.cell (p:=⟨gb2,1,none⟩) LB.out).trans hHeld.2.1,(hb.cell (p:=⟨gb1,0,none⟩) LB1.out).trans hHeld.2.2.1,(hb.cell (p:=⟨gb1,1,none⟩) LB1.out).trans hHeld.2.2.2.1,(hb.cell (p:=⟨gb1,2,none⟩) LB1.out).trans hHeld.2.2.2.2⟩ (fun hHeld=> ?_)
          clear hK K
          refine norm_ (a':= ?_) ?_ ?_
          rotate_left
          · show Act.put _ (some 39) _ = _
            simp only [Act.put,List.setIfInBounds_toArray,List.set_cons_zero,List.set_cons_succ,i64_w,i32_w]
            rfl
          refine pure_ (i:=3) (N:=some 41) (v:= ?_) (a':= ?_) (bt_ 6 15) rfl rfl (by kernel_rfl) (fun _ _ _ h=>h) (Or.inl ⟨by rfl, ?_⟩) ?_ ?_;rotate_left;(intro w';go_simp;with_reducible rfl);rotate_left;(simp only [Act.put,List.setIfInBounds_toArray,List.set_cons_zero,List.set_cons_succ,i64_w,i32_w];rfl)
          refine pure_ (i:=4) (N:=some 42) (v:= ?_) (a':= ?_) (bt_ 6 31) rfl rfl (by kernel_rfl) (fun _ _ _ h=>h) (Or.inl ⟨by rfl, ?_⟩) ?_ ?_;rotate_left;(intro w';go_simp;with_reducible rfl);rotate_left;(simp only [Act.put,List.setIfInBounds_toArray,List.set_cons_zero,List.set_cons_succ,i64_w,i32_w];rfl)
          refine last_ (i:=5) (N:=none) (bt_ 6 63) rfl rfl (by kernel_rfl) (by decide) (fun K hK=> ?_)
          refine sh_store k31 w.heap.size (by rfl) 27 (.tmp 42) (.tmp 40) rfl rfl 31 (g:=gb) (n:=out.length) (cap:=c5) j 2 l2 (limF ⟨a2_0,a2_1,a2_2⟩ y) (.agg #[.int .i64 a2_0, .int .i64 a2_1, .int .i64 a2_2]) [.int .i64 a2_0, .int .i64 a2_1, .int .i64 a2_2] (shCells y) (fun _=>True) (fun _=>False) rfl rfl rfl (by kernel_rfl) (by intro q hq;simp only [List.mem_cons,List.not_mem_nil,or_false] at hq;rcases hq with rfl|rfl|rfl<;>rfl) (Kd.R_below (Kd.R_below HO.out (below_drew (Below.refl _ _))) hb) HJ0.out HJ1.out rfl (fun j' u hu=>(hb.cell (p:=⟨gb,j.toNat*12+j',none⟩) HGL2.out).trans (HCS2.out j' u hu)) (by show 2+3≤12;omega) (k31_mkM _ _ _ (limF ⟨a2_0,a2_1,a2_2⟩ y)) (fun _ h=>h.elim) ?_
          intro w10 ho hg
          have HO10:=Aside0.mk ho
          have BK10:=am_ (blk_put_other (blk_below (blk_drew BK2.out) hb) hg (fun e=>NE2.out (by rw [e];rfl)))
          have HB10:=am_ (below_put (below_step (below_drew HB.out) hb) (below_size (below_step (below_drew HB.out) hb)) hg HGB.out)
          clear ho hg hb
          have c10_0:=(blk_cell BK10.out 0).trans rfl
          refine hK.out _ _ ?_
          clear hK K
          refine done_ (by kernel_rfl) ?_
          go_wp2_with fail
          go_ret2
          refine ⟨_,rfl, ?_,HB10.out⟩
          exact HO10.out
      · rw [if_pos c2] at h4
        cases h4
        have q2:(r2==0)=false:=by simpa using c2
        go_wp2_with fail
        go_ret2
        exact ⟨_,rfl,Kd.R_nil _ _ _ _ _,HB.out⟩
    · rw [if_pos c1] at h3
      cases h3
      have q1:(r2==0)=false:=by simpa using c1
      go_wp2_with fail
      go_ret2
      exact ⟨_,rfl,Kd.R_nil _ _ _ _ _,HB.out⟩


def r10_unit.f (a0:Int):Option (Bool):=if a0≥0 then (some (decide (a0≤1099511627776))) else (some false)
set_option maxHeartbeats 8000000 in
set_option maxRecDepth 100000 in
theorem r10_unit.calls (a0:Int) (r:Bool) (w:World) (h:r10_unit.f a0=some r):
  Calls Try.prog 123 #[.int .i64 a0] w fun e w'=>e= .returned (.bool r)∧Drawn0 w w':=by
 have H:(if a0≥0 then (some (decide (a0≤1099511627776))) else (some false))=some r:=h
 clear h
 by_cases c2:a0≥0
 ·rw [if_pos c2] at H
  have c2b0:decide (0≤a0)=true:=decide_eq_true c2
  clear c2
  obtain rfl:=Option.some.inj H
  go_enter Try.func123,Try.ntmps123
  go_wp2
  go_ret
  exact ⟨by first|rfl|(simp;done)|(simp [*];done),by repeat (first|exact Drawn0.refl _|apply Drawn0.step)⟩
 ·rw [if_neg c2] at H
  have c2b0:decide (0≤a0)=false:=decide_eq_false c2
  clear c2
  obtain rfl:=Option.some.inj H
  go_enter Try.func123,Try.ntmps123
  go_wp2
  go_ret
  exact ⟨by first|rfl|(simp;done)|(simp [*];done),by repeat (first|exact Drawn0.refl _|apply Drawn0.step)⟩

def r10_MayVec.f (a0_0:Int) (a0_1:Int) (a0_2:Int):Option (Bool):=(r10_unit.f a0_0).bind fun t2=>(if t2=true then ((r10_unit.f a0_1).bind fun t3=>(if t3=true then ((r10_unit.f a0_2).bind fun t4=>(some t4)) else (some false))) else (some false))
set_option maxHeartbeats 8000000 in
set_option maxRecDepth 100000 in
theorem r10_MayVec.calls (a0_0:Int) (a0_1:Int) (a0_2:Int) (r:Bool) (w:World) (h:r10_MayVec.f a0_0 a0_1 a0_2=some r):
  Calls Try.prog 65 #[.agg #[.int .i64 a0_0, .int .i64 a0_1, .int .i64 a0_2]] w fun e w'=>e= .returned (.bool r)∧Below w.heap.size w w':=by
 have hu27:=Try.underlying27
 have HB:=am_ (Below.refl w.heap.size w)
 have H:((r10_unit.f a0_0).bind fun t2=>(if t2=true then ((r10_unit.f a0_1).bind fun t3=>(if t3=true then ((r10_unit.f a0_2).bind fun t4=>(some t4)) else (some false))) else (some false)))=some r:=h
 clear h
 replace H:=Option.bind_eq_some_iff.mp H
 obtain ⟨t2,A20,H⟩:=H
 replace H:(if t2=true then ((r10_unit.f a0_1).bind fun t3=>(if t3=true then ((r10_unit.f a0_2).bind fun t4=>(some t4)) else (some false))) else (some false))=some r:=H
 have A2:=Aside0.mk A20
 clear A20
 by_cases c3:t2=true
 ·subst c3
  have H1:((r10_unit.f a0_1).bind fun t3=>(if t3=true then ((r10_unit.f a0_2).bind fun t4=>(some t4)) else (some false)))=some r:=by rw [if_pos rfl] at H;exact H
  clear H
  have H:=H1
  clear H1
  replace H:=Option.bind_eq_some_iff.mp H
  obtain ⟨t3,A40,H⟩:=H
  replace H:(if t3=true then ((r10_unit.f a0_2).bind fun t4=>(some t4)) else (some false))=some r:=H
  have A4:=Aside0.mk A40
  clear A40
  by_cases c5:t3=true
  ·subst c5
   have H1:((r10_unit.f a0_2).bind fun t4=>(some t4))=some r:=by rw [if_pos rfl] at H;exact H
   clear H
   have H:=H1
   clear H1
   replace H:=Option.bind_eq_some_iff.mp H
   obtain ⟨t4,A60,H⟩:=H
   replace H:(some t4)=some r:=H
   have A6:=Aside0.mk A60
   clear A60
   obtain rfl:=Option.some.inj H
   go_enter Try.func65,Try.ntmps65
   go_wp2_with (first|((with_reducible refine gate_dst (N:=1) rfl ?_);refine box_event ?hg (N:=1) ?hd (cs:=#[.int .i64 a0_0, .int .i64 a0_1, .int .i64 a0_2]) (t:=27) ?hr ?_;(case hd=>rfl);(case hg=>rfl);(case hr=>first|(go_simp;done)|(go_simp;rfl));intro gb1 hg w7 hbox hb;have n0_:=am_ (below_step (zl0_ HB) hb);have n1_:=am_ (hbox);have n2_:=am_ ((zg0_ HB hg:w.heap.size≤gb1));have n3_:=am_ ((zg0_ HB hg:w.heap.size≤gb1));clear HB;have HB:=n0_;have BK1:=n1_;have GW1:=n2_;have GE1:=n3_;clear n0_ n1_ n2_ n3_;clear hb hbox hg;have hcz8_0:w7.cell? ⟨gb1,0,none⟩=some (.int .i64 a0_0):=(blk_cell BK1.out 0).trans rfl;have hcz8_1:w7.cell? ⟨gb1,1,none⟩=some (.int .i64 a0_1):=(blk_cell BK1.out 1).trans rfl;have hcz8_2:w7.cell? ⟨gb1,2,none⟩=some (.int .i64 a0_2):=(blk_cell BK1.out 2).trans rfl;have hfz8_0:=blk_frozen BK1.out 0;have hfz8_1:=blk_frozen BK1.out 1;have hfz8_2:=blk_frozen BK1.out 2)|((with_reducible refine gate_callee (f:=123) rfl ?_);refine goesL_ (some 5) rfl rfl Try.func123 (by kernel_rfl) rfl #[.int .i64 a0_0] rfl zs_ ?_;(with_reducible refine (r10_unit.calls a0_0 true _ A2.out).mono ?_);rintro e w' ⟨rfl,⟨nd,rfl⟩⟩;refine ⟨_,rfl, ?_⟩)|(go_at_call 123;(with_reducible refine (r10_unit.calls a0_1 true _ A4.out).mono ?_);rintro e w' ⟨rfl,⟨nd,rfl⟩⟩)|(go_at_call 123;(with_reducible refine (r10_unit.calls a0_2 t4 _ A6.out).mono ?_);rintro e w' ⟨rfl,⟨nd,rfl⟩⟩))
   go_ret
   exact ⟨by first|rfl|(simp [errW_none,errW_some]<;>rfl)|(simp [*,errW_none,errW_some]<;>rfl),zl1_ HB GE1⟩
  ·replace c5:=Bool.eq_false_iff.mpr c5
   subst c5
   have H1:(some false)=some r:=by rw [if_neg (show¬(false=true) by decide)] at H;exact H
   clear H
   have H:=H1
   clear H1
   obtain rfl:=Option.some.inj H
   go_enter Try.func65,Try.ntmps65
   go_wp2_with (first|((with_reducible refine gate_dst (N:=1) rfl ?_);refine box_event ?hg (N:=1) ?hd (cs:=#[.int .i64 a0_0, .int .i64 a0_1, .int .i64 a0_2]) (t:=27) ?hr ?_;(case hd=>rfl);(case hg=>rfl);(case hr=>first|(go_simp;done)|(go_simp;rfl));intro gb1 hg w9 hbox hb;have n0_:=am_ (below_step (zl0_ HB) hb);have n1_:=am_ (hbox);have n2_:=am_ ((zg0_ HB hg:w.heap.size≤gb1));have n3_:=am_ ((zg0_ HB hg:w.heap.size≤gb1));clear HB;have HB:=n0_;have BK1:=n1_;have GW1:=n2_;have GE1:=n3_;clear n0_ n1_ n2_ n3_;clear hb hbox hg;have hcz10_0:w9.cell? ⟨gb1,0,none⟩=some (.int .i64 a0_0):=(blk_cell BK1.out 0).trans rfl;have hcz10_1:w9.cell? ⟨gb1,1,none⟩=some (.int .i64 a0_1):=(blk_cell BK1.out 1).trans rfl;have hcz10_2:w9.cell? ⟨gb1,2,none⟩=some (.int .i64 a0_2):=(blk_cell BK1.out 2).trans rfl;have hfz10_0:=blk_frozen BK1.out 0;have hfz10_1:=blk_frozen BK1.out 1;have hfz10_2:=blk_frozen BK1.out 2)|((with_reducible refine gate_callee (f:=123) rfl ?_);refine goesL_ (some 5) rfl rfl Try.func123 (by kernel_rfl) rfl #[.int .i64 a0_0] rfl zs_ ?_;(with_reducible refine (r10_unit.calls a0_0 true _ A2.out).mono ?_);rintro e w' ⟨rfl,⟨nd,rfl⟩⟩;refine ⟨_,rfl, ?_⟩)|(go_at_call 123;(with_reducible refine (r10_unit.calls a0_1 false _ A4.out).mono ?_);rintro e w' ⟨rfl,⟨nd,rfl⟩⟩))
   go_ret
   exact ⟨by first|rfl|(simp [errW_none,errW_some]<;>rfl)|(simp [*,errW_none,errW_some]<;>rfl),zl1_ HB GE1⟩
 ·replace c3:=Bool.eq_false_iff.mpr c3
  subst c3
  have H1:(some false)=some r:=by rw [if_neg (show¬(false=true) by decide)] at H;exact H
  clear H
  have H:=H1
  clear H1
  obtain rfl:=Option.some.inj H
  go_enter Try.func65,Try.ntmps65
  go_wp2_with (first|((with_reducible refine gate_dst (N:=1) rfl ?_);refine box_event ?hg (N:=1) ?hd (cs:=#[.int .i64 a0_0, .int .i64 a0_1, .int .i64 a0_2]) (t:=27) ?hr ?_;(case hd=>rfl);(case hg=>rfl);(case hr=>first|(go_simp;done)|(go_simp;rfl));intro gb1 hg w11 hbox hb;have n0_:=am_ (below_step (zl0_ HB) hb);have n1_:=am_ (hbox);have n2_:=am_ ((zg0_ HB hg:w.heap.size≤gb1));have n3_:=am_ ((zg0_ HB hg:w.heap.size≤gb1));clear HB;have HB:=n0_;have BK1:=n1_;have GW1:=n2_;have GE1:=n3_;clear n0_ n1_ n2_ n3_;clear hb hbox hg;have hcz12_0:w11.cell? ⟨gb1,0,none⟩=some (.int .i64 a0_0):=(blk_cell BK1.out 0).trans rfl;have hcz12_1:w11.cell? ⟨gb1,1,none⟩=some (.int .i64 a0_1):=(blk_cell BK1.out 1).trans rfl;have hcz12_2:w11.cell? ⟨gb1,2,none⟩=some (.int .i64 a0_2):=(blk_cell BK1.out 2).trans rfl;have hfz12_0:=blk_frozen BK1.out 0;have hfz12_1:=blk_frozen BK1.out 1;have hfz12_2:=blk_frozen BK1.out 2)|((with_reducible refine gate_callee (f:=123) rfl ?_);refine goesL_ (some 5) rfl rfl Try.func123 (by kernel_rfl) rfl #[.int .i64 a0_0] rfl zs_ ?_;(with_reducible refine (r10_unit.calls a0_0 false _ A2.out).mono ?_);rintro e w' ⟨rfl,⟨nd,rfl⟩⟩;refine ⟨_,rfl, ?_⟩))
  go_ret
  exact ⟨by first|rfl|(simp [errW_none,errW_some]<;>rfl)|(simp [*,errW_none,errW_some]<;>rfl),zl1_ HB GE1⟩

def r10_MayName.f (a0:ByteArray):Option (Bool):=if a0.toList=([]:List UInt8) then (some false) else (some (decide ((a0.size:Int)≤24)))
set_option maxHeartbeats 8000000 in
set_option maxRecDepth 100000 in
theorem r10_MayName.calls (a0:ByteArray) (r:Bool) (w:World) (h:r10_MayName.f a0=some r):
  Calls Try.prog 105 #[.string a0] w fun e w'=>e= .returned (.bool r)∧Drawn0 w w':=by
 have H:(if a0.toList=([]:List UInt8) then (some false) else (some (decide ((a0.size:Int)≤24))))=some r:=h
 clear h
 by_cases c2:a0.toList=([]:List UInt8)
 ·rw [if_pos c2] at H
  have c2b0:(a0.toList==([]:List UInt8))=true:=beq_iff_eq.mpr c2
  have c2b1:(a0.toList !=([]:List UInt8))=false:=bne_eq_false_iff_eq.mpr c2
  clear c2
  obtain rfl:=Option.some.inj H
  go_enter Try.func105,Try.ntmps105
  go_wp2
  go_ret
  exact ⟨by first|rfl|(simp;done)|(simp [*];done),by repeat (first|exact Drawn0.refl _|apply Drawn0.step)⟩
 ·rw [if_neg c2] at H
  have c2b0:(a0.toList==([]:List UInt8))=false:=beq_eq_false_iff_ne.mpr c2
  have c2b1:(a0.toList !=([]:List UInt8))=true:=bne_iff_ne.mpr c2
  obtain rfl:=Option.some.inj H
  go_enter Try.func105,Try.ntmps105
  go_wp2
  go_ret
  exact ⟨by first|rfl|(simp;done)|(simp [*];done),by repeat (first|exact Drawn0.refl _|apply Drawn0.step)⟩

def r10_no.f (a0:Int):Option ((List (S31))×Int):=some (([]:List (S31)),a0)
set_option maxHeartbeats 8000000 in
set_option maxRecDepth 100000 in
theorem r10_no.calls (a0:Int) (r1:List (S31)) (r2:Int) (w:World) (h:r10_no.f a0=some (r1,r2)):
  Calls Try.prog 113 #[.int .i64 a0] w fun e w'=> ∃v0_:Value,e= .returned (.agg #[v0_, .int .i64 r2])∧Kd.R k31 31 w' w.heap.size (fun _=>True) v0_ r1∧Below w.heap.size w w':=by
 have hu67:=Try.underlying67
 have HB:=am_ (Below.refl w.heap.size w)
 have H:(some (([]:List (S31)),a0))=some (r1,r2):=h
 clear h
 simp only [Option.some.injEq,Prod.mk.injEq] at H
 obtain ⟨rfl,rfl⟩:=H
 go_enter Try.func113,Try.ntmps113
 go_wp2_with (first|((with_reducible refine gate_dst (N:=2) rfl ?_);refine box_event ?hg (N:=2) ?hd (cs:=#[.slice none 0 0, .int .i64 0]) (t:=67) ?hr ?_;(case hd=>rfl);(case hg=>rfl);(case hr=>first|(go_simp;done)|(go_simp;rfl));intro gb1 hg w2 hbox hb;have n0_:=am_ (below_step (zl0_ HB) hb);have n1_:=am_ (hbox);have n2_:=am_ ((zg0_ HB hg:w.heap.size≤gb1));have n3_:=am_ ((zg0_ HB hg:w.heap.size≤gb1));clear HB;have HB:=n0_;have BK1:=n1_;have GW1:=n2_;have GE1:=n3_;clear n0_ n1_ n2_ n3_;clear hb hbox hg;have hcz3_0:w2.cell? ⟨gb1,0,none⟩=some (.slice none 0 0):=(blk_cell BK1.out 0).trans rfl;have hcz3_1:w2.cell? ⟨gb1,1,none⟩=some (.int .i64 0):=(blk_cell BK1.out 1).trans rfl;have hfz3_0:=blk_frozen BK1.out 0;have hfz3_1:=blk_frozen BK1.out 1))
 refine bodyPost_ret (results_cell_row rfl _ _ gb1 67 #[.slice none 0 0, .int .i64 a0] (0,0) _ rfl (by refine zk_ ?_;refine blk_put (cs:=#[.slice none 0 0, .int .i64 0]) ?_ 1 _ rfl;refine zk_ ?_;refine blk_put (cs:=#[.slice none 0 0, .int .i64 0]) ?_ 0 _ rfl;refine zk_ ?_;exact BK1.out) Try.underlying67 rfl (by kernel_rfl)) rfl ?_
 exact ⟨_,by first|rfl|(simp [errW_none,errW_some]<;>rfl)|(simp [*,errW_none,errW_some]<;>rfl),by first|exact Kd.R_nil _ _ _ _ _|exact Kd.N_nil _ _ _ _ _|exact Kd.V_nil _ _ _ _ _|exact Kd.Q_nil _ _ _ _ _|exact Kd.S_nil _ _ _ _ _,zl1_ HB GE1⟩

def r10_copied.f (l0:List (S31)):Option ((List (S31))):=(some (([]:List (S31)):List (S31))).bind fun y1=>(if y1.length+l0.length<1256584717458 then (some (y1++l0)) else (none))
set_option maxHeartbeats 8000000 in
set_option maxRecDepth 100000 in
theorem r10_copied.calls (A0:Option Addr) (c0:Nat) (l0:List (S31)) (r:List (S31)) (w:World) (hr0:Kd.C k31 w A0 l0.length l0) (hc0:l0.length≤c0) (h:r10_copied.f l0=some r):
  Calls Try.prog 124 #[.slice A0 l0.length c0] w fun e w'=> ∃v0_:Value,e= .returned (v0_)∧Kd.R k31 31 w' w.heap.size (fun _=>True) v0_ r∧Below w.heap.size w w':=by
 have HR0:=Aside0.mk hr0
 have HC0:=Aside0.mk hc0
 clear hr0 hc0
 have HB:=am_ (Below.refl w.heap.size w)
 have H:((some (([]:List (S31)):List (S31))).bind fun y1=>(if y1.length+l0.length<1256584717458 then (some (y1++l0)) else (none)))=some r:=h
 clear h
 obtain ⟨y1,hy1⟩: ∃y_:List (S31),y_=(([]:List (S31))):=⟨_,rfl⟩
 replace H:(if y1.length+l0.length<1256584717458 then (some (y1++l0)) else (none))=some r:=by first|(rw [hy1];with_reducible exact H)|(have H2_:=(Option.bind_some _ _).symm.trans H;rw [hy1];with_reducible exact H2_)|(have H2_:=(Option.bind_some _ _).symm.trans H;with_reducible exact H2_)|with_reducible exact H|(rw [hy1];exact H)|exact H
 have Ny1:=Aside0.mk hy1
 clear hy1
 by_cases c2:y1.length+l0.length<1256584717458
 ·rw [if_pos c2] at H
  have LMc2:=Aside0.mk c2
  clear c2
  obtain ⟨y4,hy4⟩: ∃y_:List (S31),y_=(y1++l0):=⟨_,rfl⟩
  replace H:(some y4)=some r:=by first|(rw [hy4];with_reducible exact H)|(have H2_:=(Option.bind_some _ _).symm.trans H;rw [hy4];with_reducible exact H2_)|(have H2_:=(Option.bind_some _ _).symm.trans H;with_reducible exact H2_)|with_reducible exact H|(rw [hy4];exact H)|exact H
  have Ny4:=Aside0.mk hy4
  clear hy4
  obtain rfl:=Option.some.inj H
  go_enter Try.func124,Try.ntmps124
  go_wp2_with (first|((with_reducible refine gate_dst (N:=3) rfl ?_);refine Kd.R_lit k31 _ 31 ?hg (N:=3) ?hd (xs:=([]:List (S31))) (inner:=[]) (ok:=fun _=>True) (okp:=fun _=>True) ?hr ?hp (fun _ hk=>hk) trivial (Below.refl _ _) (Nat.le_refl _) (by simp) ?_;(case hd=>rfl);(case hg=>rfl);(case hr=>first|(go_simp;done)|(go_simp;rfl));(case hp=>exact (Reps.none _ _));intro v2 w3 ho4 hb hg_ hnew_;clear hg_ hnew_;(first|rw [←Ny1.out] at ho4|(simp only [Int.reduceToNat] at ho4;rw [←Ny1.out] at ho4));have n0_:=am_ (Kd.R_lower ho4 (below_size (zl0_ HB)));have n1_:=am_ (below_step (zl0_ HB) hb);clear HB;have HO3:=n0_;have HB:=n1_;clear n0_ n1_;clear hb ho4)|((with_reducible refine gate_builtin (b:= .append) (xs:=#[.tmp 3, .tmp 4]) rfl ?_);at_builtin;refine Kd.R_append_rows k31 (w0:=w) w.heap.size rfl (.tmp 3) (.tmp 4) 24 31 (.agg #[(.string ⟨#[]⟩),(.string ⟨#[]⟩),(.int .i64 0),(.int .i64 0),(.int .i64 0),(.int .i64 0),(.int .i64 0),(.int .i64 0),(.int .i64 0),(.int .i64 0),(.int .i64 0),(.int .i64 0)]) 112 rfl Try.underlying24 info31 rfl (by decide) (by omega) v2 y1 l0 _ _ _ (fun _=>True) (fun _=>False) rfl rfl ?aO ?aR (fun _ _ h=>h) (fun _ h=>h.elim) ?aF ?aB ?aS ?aL ?_;(case aR=>repeat (first|exact (Kd.C_below HR0.out HB.out)|(with_reducible refine Kd.C_alloc ?_ _)|(with_reducible refine Kd.C_drewN ?_ _)|(with_reducible refine Kd.C_drew ?_)));(case aB=>exact (zl0_ HB));(case aF=>exact (fun _ _=>trivial));(case aO=>exact (zr_ HO3));(case aS=>exact (below_size (zl0_ HB)));(case aL=>have:=LMc2.out;omega);intro v5 w5 ho hb hg hat;rw [←Ny4.out] at ho;have n0_:=am_ (hb);have n1_:=am_ (ho);clear HB;clear HO3;have HB:=n0_;have HO6:=n1_;clear n0_ n1_;clear ho hb hg hat))
  go_ret
  exact ⟨_,by first|rfl|(simp [errW_none,errW_some]<;>rfl)|(simp [*,errW_none,errW_some]<;>rfl),by (with_reducible repeat (first|apply Kd.R_alloc|apply Kd.R_drewN|apply Kd.R_drew));exact HO6.out,zl0_ HB⟩
 ·rw [if_neg c2] at H
  exact absurd H (by simp)

mutual
def r10_Create.j0:Nat→List (S31)→ByteArray→ByteArray→Bool→Int→Int→Int→Option ((List (S31))×Int)
 |0,_,_,_,_,_,_,_=>none
 |k+1,x0,x1,x2,x11,x2000,x2001,x2002=>if x11=true then ((r10_no.f 1).bind fun bt5=>(some (bt5.1,bt5.2))) else ((r10_Find.f k x0 x1).bind fun t9=>(if t9≥0 then ((r10_no.f 3).bind fun bt10=>(some (bt10.1,bt10.2))) else (if x2.toList=([]:List UInt8) then (r10_Create.j1 k x0 x1 x2 false x2000 x2001 x2002) else ((r10_Find.f k x0 x2).bind fun t14=>(r10_Create.j1 k x0 x1 x2 (decide (t14<0)) x2000 x2001 x2002)))))
def r10_Create.j1:Nat→List (S31)→ByteArray→ByteArray→Bool→Int→Int→Int→Option ((List (S31))×Int)
 |0,_,_,_,_,_,_,_=>none
 |k+1,x0,x1,x2,x27,x2000,x2001,x2002=>if x27=true then ((r10_no.f 2).bind fun bt15=>(some (bt15.1,bt15.2))) else (if (x0.length:Int)≥120 then ((r10_no.f 4).bind fun bt19=>(some (bt19.1,bt19.2))) else (r10_Create.l0 k x0 x1 x2 0 x2000 x2001 x2002))
def r10_Create.l0:Nat→List (S31)→ByteArray→ByteArray→Int→Int→Int→Int→Option ((List (S31))×Int)
 |0,_,_,_,_,_,_,_=>none
 |k+1,x0,x1,x2,x9,x2000,x2001,x2002=>if x9<(x0.length:Int) then (if 0≤x9 then (if (Op.bytesLess (((rd_T31 x0 x9).f0).toList) x1.toList)=true then (r10_Create.l0 k x0 x1 x2 (wrap64 (x9+1)) x2000 x2001 x2002) else (if x9≤(x0.length:Int) then ((r10_copied.f (x0.take (x9:Int).toNat)).bind fun t28=>(if t28.length<1256584717458 then ((some (t28++ [(⟨x1,x2,(⟨x2000,x2001,x2002⟩:S27),(⟨0,0,0⟩:S27),(⟨0,0,0⟩:S27),1⟩:S31)]:List (S31))).bind fun y31=>((some (x0.drop (x9:Int).toNat:List (S31))).bind fun y34=>(if y31.length+y34.length<1256584717458 then (some ((y31++y34),0)) else (none)))) else (none))) else (none))) else (none)) else (if 0≤x9 then (if x9≤(x0.length:Int) then ((r10_copied.f (x0.take (x9:Int).toNat)).bind fun t45=>(if t45.length<1256584717458 then ((some (t45++ [(⟨x1,x2,(⟨x2000,x2001,x2002⟩:S27),(⟨0,0,0⟩:S27),(⟨0,0,0⟩:S27),1⟩:S31)]:List (S31))).bind fun y48=>((some (x0.drop (x9:Int).toNat:List (S31))).bind fun y51=>(if y48.length+y51.length<1256584717458 then (some ((y48++y51),0)) else (none)))) else (none))) else (none)) else (none))
end
def r10_Create.f (k:Nat) (l0:List (S31)) (a1:ByteArray) (a2:ByteArray) (a3_0:Int) (a3_1:Int) (a3_2:Int):Option ((List (S31))×Int):=(r10_MayName.f a1).bind fun t3=>(if t3=true then ((r10_MayVec.f a3_0 a3_1 a3_2).bind fun t4=>(r10_Create.j0 k l0 a1 a2 (!t4) a3_0 a3_1 a3_2)) else (r10_Create.j0 k l0 a1 a2 true a3_0 a3_1 a3_2))
theorem r10_Create.mono_l: ∀k,(∀y0 y1 y2 y3 y4 y5 y6,LeO (r10_Create.j0 k y0 y1 y2 y3 y4 y5 y6) (r10_Create.j0 (k+1) y0 y1 y2 y3 y4 y5 y6))∧(∀y0 y1 y2 y3 y4 y5 y6,LeO (r10_Create.j1 k y0 y1 y2 y3 y4 y5 y6) (r10_Create.j1 (k+1) y0 y1 y2 y3 y4 y5 y6))∧(∀y0 y1 y2 y3 y4 y5 y6,LeO (r10_Create.l0 k y0 y1 y2 y3 y4 y5 y6) (r10_Create.l0 (k+1) y0 y1 y2 y3 y4 y5 y6))
 |0=>⟨fun _ _ _ _ _ _ _ r h=>by simp [r10_Create.j0] at h,fun _ _ _ _ _ _ _ r h=>by simp [r10_Create.j1] at h,fun _ _ _ _ _ _ _ r h=>by simp [r10_Create.l0] at h⟩
 |k+1=>by
  obtain ⟨ih0,ih1,ih2⟩:=r10_Create.mono_l k
  refine ⟨?_, ?_, ?_⟩
  ·intro y0 y1 y2 y3 y4 y5 y6
   unfold r10_Create.j0
   repeat' first
   |(with_reducible exact ih0 _ _ _ _ _ _ _)
   |(with_reducible exact ih1 _ _ _ _ _ _ _)
   |(with_reducible exact ih2 _ _ _ _ _ _ _)
   |(with_reducible exact r10_Find.mono _ _ _)
   |(with_reducible exact LeO.refl _)
   |(with_reducible exact LeO.none _)
   |(with_reducible refine LeO.ite ?_ ?_)
   |(with_reducible refine LeO.bind ?_ (fun _=> ?_))
   |exact ih0 _ _ _ _ _ _ _
   |exact ih1 _ _ _ _ _ _ _
   |exact ih2 _ _ _ _ _ _ _
   |exact r10_Find.mono _ _ _
   |exact LeO.none _
   |refine LeO.ite ?_ ?_
   |refine LeO.bind ?_ (fun _=> ?_)
  ·intro y0 y1 y2 y3 y4 y5 y6
   unfold r10_Create.j1
   repeat' first
   |(with_reducible exact ih0 _ _ _ _ _ _ _)
   |(with_reducible exact ih1 _ _ _ _ _ _ _)
   |(with_reducible exact ih2 _ _ _ _ _ _ _)
   |(with_reducible exact r10_Find.mono _ _ _)
   |(with_reducible exact LeO.refl _)
   |(with_reducible exact LeO.none _)
   |(with_reducible refine LeO.ite ?_ ?_)
   |(with_reducible refine LeO.bind ?_ (fun _=> ?_))
   |exact ih0 _ _ _ _ _ _ _
   |exact ih1 _ _ _ _ _ _ _
   |exact ih2 _ _ _ _ _ _ _
   |exact r10_Find.mono _ _ _
   |exact LeO.none _
   |refine LeO.ite ?_ ?_
   |refine LeO.bind ?_ (fun _=> ?_)
  ·intro y0 y1 y2 y3 y4 y5 y6
   unfold r10_Create.l0
   repeat' first
   |(with_reducible exact ih0 _ _ _ _ _ _ _)
   |(with_reducible exact ih1 _ _ _ _ _ _ _)
   |(with_reducible exact ih2 _ _ _ _ _ _ _)
   |(with_reducible exact r10_Find.mono _ _ _)
   |(with_reducible exact LeO.refl _)
   |(with_reducible exact LeO.none _)
   |(with_reducible refine LeO.ite ?_ ?_)
   |(with_reducible refine LeO.bind ?_ (fun _=> ?_))
   |exact ih0 _ _ _ _ _ _ _
   |exact ih1 _ _ _ _ _ _ _
   |exact ih2 _ _ _ _ _ _ _
   |exact r10_Find.mono _ _ _
   |exact LeO.none _
   |refine LeO.ite ?_ ?_
   |refine LeO.bind ?_ (fun _=> ?_)
theorem r10_Create.mono: ∀a0 a1 a2 a3 a4 a5 k,LeO (r10_Create.f k a0 a1 a2 a3 a4 a5) (r10_Create.f (k+1) a0 a1 a2 a3 a4 a5):=by
 intro a0 a1 a2 a3 a4 a5 k
 obtain ⟨ih0,ih1,ih2⟩:=r10_Create.mono_l k
 unfold r10_Create.f
 repeat' first
  |(with_reducible exact ih0 _ _ _ _ _ _ _)
  |(with_reducible exact ih1 _ _ _ _ _ _ _)
  |(with_reducible exact ih2 _ _ _ _ _ _ _)
  |(with_reducible exact r10_Find.mono _ _ _)
  |(with_reducible exact LeO.refl _)
  |(with_reducible exact LeO.none _)
  |(with_reducible refine LeO.ite ?_ ?_)
  |(with_reducible refine LeO.bind ?_ (fun _=> ?_))
  |exact ih0 _ _ _ _ _ _ _
  |exact ih1 _ _ _ _ _ _ _
  |exact ih2 _ _ _ _ _ _ _
  |exact r10_Find.mono _ _ _
  |exact LeO.none _
  |refine LeO.ite ?_ ?_
  |refine LeO.bind ?_ (fun _=> ?_)
set_option maxHeartbeats 8000000 in
set_option maxRecDepth 100000 in
theorem r10_Create.calls (k:Nat) (A0:Option Addr) (c0:Nat) (l0:List (S31)) (a1:ByteArray) (a2:ByteArray) (a3_0:Int) (a3_1:Int) (a3_2:Int) (r1:List (S31)) (r2:Int) (w:World) (hr0:Kd.C k31 w A0 l0.length l0) (hc0:l0.length≤c0) (h:r10_Create.f k l0 a1 a2 a3_0 a3_1 a3_2=some (r1,r2)):
  Calls Try.prog 83 #[.slice A0 l0.length c0, .string a1, .string a2, .agg #[.int .i64 a3_0, .int .i64 a3_1, .int .i64 a3_2]] w fun e w'=> ∃v0_:Value,e= .returned (.agg #[v0_, .int .i64 r2])∧Kd.R k31 31 w' w.heap.size (fun _=>True) v0_ r1∧Below w.heap.size w w':=by
 have hu27:=Try.underlying27
 have hu67:=Try.underlying67
 have hu31:=Try.underlying31
 have HR0:=Aside0.mk hr0
 have HC0:=Aside0.mk hc0
 clear hr0 hc0
 have HB:=am_ (Below.refl w.heap.size w)
 have H:((r10_MayName.f a1).bind fun t3=>(if t3=true then ((r10_MayVec.f a3_0 a3_1 a3_2).bind fun t4=>(r10_Create.j0 k l0 a1 a2 (!t4) a3_0 a3_1 a3_2)) else (r10_Create.j0 k l0 a1 a2 true a3_0 a3_1 a3_2)))=some (r1,r2):=h
 clear h
 have HC5:=Aside0.mk H
 clear H
 go_enter Try.func83,Try.ntmps83
 go_upto_region 1 with (first|((with_reducible refine gate_dst (N:=7) rfl ?_);refine box_event ?hg (N:=7) ?hd (cs:=#[.int .i64 a3_0, .int .i64 a3_1, .int .i64 a3_2]) (t:=27) ?hr ?_;(case hd=>rfl);(case hg=>rfl);(case hr=>first|(go_simp;done)|(go_simp;rfl));intro gb1 hg w6 hbox hb;have n0_:=am_ (below_step (zl0_ HB) hb);have n1_:=am_ (hbox);have n2_:=am_ ((zg0_ HB hg:w.heap.size≤gb1));have n3_:=am_ ((zg0_ HB hg:w.heap.size≤gb1));clear HB;have HB:=n0_;have BK1:=n1_;have GW1:=n2_;have GE1:=n3_;clear n0_ n1_ n2_ n3_;clear hb hbox hg)|((with_reducible refine gate_dst (N:=8) rfl ?_);refine box_event ?hg (N:=8) ?hd (cs:=#[.slice none 0 0, .int .i64 0]) (t:=67) ?hr ?_;(case hd=>rfl);(case hg=>rfl);(case hr=>first|(go_simp;done)|(go_simp;rfl));intro gb2 hg w7 hbox hb;have n0_:=am_ (blk_below (zb_ BK1) hb);have n1_:=am_ (below_step (zl1_ HB GE1) hb);have n2_:=am_ (hbox);have n3_:=am_ ((zg1_ HB GE1 hg:w.heap.size≤gb2));have n4_:=am_ ((zg1_ HB GE1 hg:w.heap.size≤gb2));have n5_:=am_ ((zn_ BK1 hg:gb1≠gb2));have n6_:=am_ ((zm_ BK1 hg:gb2≠gb1));clear BK1;clear HB;have BK1:=n0_;have HB:=n1_;have BK2:=n2_;have GW2:=n3_;have GE2:=n4_;have NB1_2:=n5_;have NB2_1:=n6_;clear n0_ n1_ n2_ n3_ n4_ n5_ n6_;clear hb hbox hg))
 (try simp only [Act.put,List.setIfInBounds_toArray,List.set_cons_zero,List.set_cons_succ])
 go_cut [11] (fun v11 wc=> ∃(kq:Nat) (x11_4:Bool),v11= .bool x11_4∧Aside0 (r10_Create.j0 kq l0 a1 a2 x11_4 a3_0 a3_1 a3_2=some (r1,r2))∧Aside0 (kq≤k)∧Aside0 (wc.heap[gb1]?=some (.cells #[.int .i64 a3_0, .int .i64 a3_1, .int .i64 a3_2] 27 (0,0)))∧Aside0 (wc.heap[gb2]?=some (.cells #[(.slice none 0 0), .int .i64 0] 67 (0,0)))∧Aside0 (Below w.heap.size w wc))
 case first=>
  have H:=HC5.out
  clear HC5
  replace H:=Option.bind_eq_some_iff.mp H
  obtain ⟨t3,A80,H⟩:=H
  replace H:(if t3=true then ((r10_MayVec.f a3_0 a3_1 a3_2).bind fun t4=>(r10_Create.j0 k l0 a1 a2 (!t4) a3_0 a3_1 a3_2)) else (r10_Create.j0 k l0 a1 a2 true a3_0 a3_1 a3_2))=some (r1,r2):=H
  have A8:=Aside0.mk A80
  clear A80
  by_cases c9:t3=true
  ·subst c9
   have H1:((r10_MayVec.f a3_0 a3_1 a3_2).bind fun t4=>(r10_Create.j0 k l0 a1 a2 (!t4) a3_0 a3_1 a3_2))=some (r1,r2):=by rw [if_pos rfl] at H;exact H
   clear H
   have H:=H1
   clear H1
   replace H:=Option.bind_eq_some_iff.mp H
   obtain ⟨t4,A100,H⟩:=H
   replace H:(r10_Create.j0 k l0 a1 a2 (!t4) a3_0 a3_1 a3_2)=some (r1,r2):=H
   have A10:=Aside0.mk A100
   clear A100
   have H':=Aside0.mk H
   clear H
   go_wp2_with (first|((with_reducible refine gate_callee (f:=105) rfl ?_);refine goesL_ (some 13) rfl rfl Try.func105 (by kernel_rfl) rfl #[.string a1] rfl zs_ ?_;(with_reducible refine (r10_MayName.calls a1 true _ A8.out).mono ?_);rintro e w' ⟨rfl,⟨nd,rfl⟩⟩;refine ⟨_,rfl, ?_⟩;have hnb11:=NB1_2.out;have hnc11:=NB2_1.out;have hcz12_0:w7.cell? ⟨gb1,0,none⟩=some (.int .i64 a3_0):=(blk_cell BK1.out 0).trans rfl;have hcz12_1:w7.cell? ⟨gb1,1,none⟩=some (.int .i64 a3_1):=(blk_cell BK1.out 1).trans rfl;have hcz12_2:w7.cell? ⟨gb1,2,none⟩=some (.int .i64 a3_2):=(blk_cell BK1.out 2).trans rfl;have hfz12_0:=blk_frozen BK1.out 0;have hfz12_1:=blk_frozen BK1.out 1;have hfz12_2:=blk_frozen BK1.out 2)|(go_at_call 65;(with_reducible refine (r10_MayVec.calls a3_0 a3_1 a3_2 t4 _ A10.out).mono ?_);rintro e w13 ⟨rfl,hb⟩;have n0_:=am_ (blk_below (zb_ BK1) hb);have n1_:=am_ (blk_below (zb_ BK2) hb);have n2_:=am_ (below_step (zl2_ HB GE1 GE2) hb);clear BK1;clear BK2;clear HB;have BK1:=n0_;have BK2:=n1_;have HB:=n2_;clear n0_ n1_ n2_;(try clear hb);(try clear hb2);(try clear hk);(try clear hi)))
   go_meet
   case rel=>exact ⟨_,(!t4),(by first|rfl|(simp;done)|(simp [*];done)),H',⟨by first|omega|exact Nat.le_refl _⟩,⟨by refine zk_ ?_;exact BK1.out⟩,⟨by refine zk_ ?_;exact BK2.out⟩,⟨zl2_ HB GE1 GE2⟩⟩
  ·replace c9:=Bool.eq_false_iff.mpr c9
   subst c9
   have H1:(r10_Create.j0 k l0 a1 a2 true a3_0 a3_1 a3_2)=some (r1,r2):=by rw [if_neg (show¬(false=true) by decide)] at H;exact H
   clear H
   have H:=H1
   clear H1
   have H':=Aside0.mk H
   clear H
   go_wp2_with ((with_reducible refine gate_callee (f:=105) rfl ?_);refine goesL_ (some 13) rfl rfl Try.func105 (by kernel_rfl) rfl #[.string a1] rfl zs_ ?_;(with_reducible refine (r10_MayName.calls a1 false _ A8.out).mono ?_);rintro e w' ⟨rfl,⟨nd,rfl⟩⟩;refine ⟨_,rfl, ?_⟩)
   go_meet
   case rel=>exact ⟨_,(true),(by first|rfl|(simp;done)|(simp [*];done)),H',⟨by first|omega|exact Nat.le_refl _⟩,⟨by refine zk_ ?_;exact BK1.out⟩,⟨by refine zk_ ?_;exact BK2.out⟩,⟨zl2_ HB GE1 GE2⟩⟩
 case rest=>
  clear HC5
  try clear c1
  try clear p2
  try clear c8
  try clear c9
  try clear c10
  try clear c11
  try clear hcz12_0
  try clear hcz12_1
  try clear hcz12_2
  try clear hfz12_0
  try clear hfz12_1
  try clear hfz12_2
  obtain ⟨kq,x11_4,rfl,HA,HJ4,BK1,BK2,HB⟩:=hcut
  cases kq with
  |zero=>exact absurd HA.out (by simp [r10_Create.j0])
  |succ kj4=>
   have H:=HA.out
   clear HA
   simp only [r10_Create.j0] at H
   by_cases c14:x11_4=true
   ·subst c14
    have H1:((r10_no.f 1).bind fun bt5=>(some (bt5.1,bt5.2)))=some (r1,r2):=by rw [if_pos rfl] at H;exact H
    clear H
    have H:=H1
    clear H1
    replace H:=Option.bind_eq_some_iff.mp H
    obtain ⟨⟨t5,t8⟩,A150,H⟩:=H
    replace H:(some (t5,t8))=some (r1,r2):=H
    have A15:=Aside0.mk A150
    clear A150
    simp only [Option.some.injEq,Prod.mk.injEq] at H
    obtain ⟨rfl,rfl⟩:=H
    go_wp2_with ((with_reducible refine gate_callee (f:=113) rfl ?_);refine goesL_ (some 20) rfl rfl Try.func113 (by kernel_rfl) rfl #[.int .i64 1] rfl zs_ ?_;(with_reducible refine (r10_no.calls 1 t5 t8 _ A15.out).mono ?_);rintro e w16 ⟨v6,rfl,ho0,hb⟩;refine ⟨_,rfl, ?_⟩;have n0_:=am_ (Kd.R_lower ho0 (below_size (zl2_ HB GE1 GE2)));have n1_:=am_ (blk_below (zb_ BK1) hb);have n2_:=am_ (blk_below (zb_ BK2) hb);have n3_:=am_ (below_step (zl2_ HB GE1 GE2) hb);clear BK1;clear BK2;clear HB;have HO7:=n0_;have BK1:=n1_;have BK2:=n2_;have HB:=n3_;clear n0_ n1_ n2_ n3_;(try clear hb);(try clear hb2);(try clear hk);(try clear hi);(try clear ho0);obtain ⟨Ao17,co17,eo17⟩:=Kd.R_slice HO7.out;subst eo17;have hnb18:=NB2_1.out;have hnc18:=NB1_2.out;have hcz19_0:w16.cell? ⟨gb2,0,none⟩=some (.slice none 0 0):=(blk_cell BK2.out 0).trans rfl;have hcz19_1:w16.cell? ⟨gb2,1,none⟩=some (.int .i64 0):=(blk_cell BK2.out 1).trans rfl;have hfz19_0:=blk_frozen BK2.out 0;have hfz19_1:=blk_frozen BK2.out 1)
    refine bodyPost_ret (results_cell_row rfl _ _ gb2 67 #[.slice Ao17 t5.length co17, .int .i64 t8] (0,0) _ rfl (by refine zk_ ?_;refine blk_put (cs:=#[.slice Ao17 t5.length co17, .int .i64 0]) ?_ 1 _ rfl;refine zk_ ?_;refine blk_put (cs:=#[.slice none 0 0, .int .i64 0]) ?_ 0 _ rfl;refine zk_ ?_;exact BK2.out) Try.underlying67 rfl (by kernel_rfl)) rfl ?_
    exact ⟨_,by first|rfl|(simp [errW_none,errW_some]<;>rfl)|(simp [*,errW_none,errW_some]<;>rfl),by (with_reducible repeat (first|apply Kd.R_alloc|apply Kd.R_drewN|apply Kd.R_drew));exact Kd.R_mono (Kd.R_far (p:=⟨gb2,1,none⟩) (Kd.R_far (p:=⟨gb2,0,none⟩) (Kd.R_types HO7.out BK2.out (by decide)) (fun _ hk=>hk.2) (.slice Ao17 t5.length co17)) (fun _ hk=>hk.2) (.int .i64 t8)) (fun _ hk=>trivial),zl2_ HB GE1 GE2⟩
   ·replace c14:=Bool.eq_false_iff.mpr c14
    subst c14
    have H1:((r10_Find.f kj4 l0 a1).bind fun t9=>(if t9≥0 then ((r10_no.f 3).bind fun bt10=>(some (bt10.1,bt10.2))) else (if a2.toList=([]:List UInt8) then (r10_Create.j1 kj4 l0 a1 a2 false a3_0 a3_1 a3_2) else ((r10_Find.f kj4 l0 a2).bind fun t14=>(r10_Create.j1 kj4 l0 a1 a2 (decide (t14<0)) a3_0 a3_1 a3_2)))))=some (r1,r2):=by rw [if_neg (show¬(false=true) by decide)] at H;exact H
    clear H
    have H:=H1
    clear H1
    replace H:=Option.bind_eq_some_iff.mp H
    obtain ⟨t9,A200,H⟩:=H
    replace H:(if t9≥0 then ((r10_no.f 3).bind fun bt10=>(some (bt10.1,bt10.2))) else (if a2.toList=([]:List UInt8) then (r10_Create.j1 kj4 l0 a1 a2 false a3_0 a3_1 a3_2) else ((r10_Find.f kj4 l0 a2).bind fun t14=>(r10_Create.j1 kj4 l0 a1 a2 (decide (t14<0)) a3_0 a3_1 a3_2))))=some (r1,r2):=H
    have A20:=Aside0.mk A200
    clear A200
    by_cases c21:t9≥0
    ·rw [if_pos c21] at H
     have c21b0:decide (0≤t9)=true:=decide_eq_true c21
     clear c21
     replace H:=Option.bind_eq_some_iff.mp H
     obtain ⟨⟨t10,t13⟩,A220,H⟩:=H
     replace H:(some (t10,t13))=some (r1,r2):=H
     have A22:=Aside0.mk A220
     clear A220
     simp only [Option.some.injEq,Prod.mk.injEq] at H
     obtain ⟨rfl,rfl⟩:=H
     go_wp2_with (first|((with_reducible refine gate_callee (f:=50) rfl ?_);refine goesL_ (some 24) rfl rfl Try.func50 (by kernel_rfl) rfl #[.slice A0 l0.length c0, .string a1] rfl zs_ ?_;(with_reducible refine (r10_Find.calls kj4 _ _ l0 a1 t9 _ ?side1 ?side2 A20.out).mono ?_);(case side1=>exact zc_ (Kd.C_below HR0.out HB.out));(case side2=>exact HC0.out);rintro e w' ⟨rfl,⟨nd,rfl⟩⟩;refine ⟨_,rfl, ?_⟩;(try (rw [drewN_self wc];generalize hq_:World.drewN wc _=wc;have n0_:Aside0 (wc.heap[gb1]?=some (.cells #[.int .i64 a3_0, .int .i64 a3_1, .int .i64 a3_2] 27 (0,0))):=⟨by rw [←hq_];exact (zb_ BK1)⟩;have n1_:Aside0 (wc.heap[gb2]?=some (.cells #[.slice none 0 0, .int .i64 0] 67 (0,0))):=⟨by rw [←hq_];exact (zb_ BK2)⟩;have n2_:Aside0 (Below w.heap.size w wc):=⟨by rw [←hq_];exact (zl2_ HB GE1 GE2)⟩;clear BK1 BK2 HB hq_;have BK1:=n0_;have BK2:=n1_;have HB:=n2_;clear n0_ n1_ n2_)))|((with_reducible refine gate_callee (f:=113) rfl ?_);refine goesL_ (some 26) rfl rfl Try.func113 (by kernel_rfl) rfl #[.int .i64 3] rfl zs_ ?_;(with_reducible refine (r10_no.calls 3 t10 t13 _ A22.out).mono ?_);rintro e w23 ⟨v11,rfl,ho0,hb⟩;refine ⟨_,rfl, ?_⟩;have n0_:=am_ (Kd.R_lower ho0 (below_size (zl2_ HB GE1 GE2)));have n1_:=am_ (blk_below (zb_ BK1) hb);have n2_:=am_ (blk_below (zb_ BK2) hb);have n3_:=am_ (below_step (zl2_ HB GE1 GE2) hb);clear BK1;clear BK2;clear HB;have HO12:=n0_;have BK1:=n1_;have BK2:=n2_;have HB:=n3_;clear n0_ n1_ n2_ n3_;(try clear hb);(try clear hb2);(try clear hk);(try clear hi);(try clear ho0);obtain ⟨Ao24,co24,eo24⟩:=Kd.R_slice HO12.out;subst eo24;have hnb25:=NB2_1.out;have hnc25:=NB1_2.out;have hcz26_0:w23.cell? ⟨gb2,0,none⟩=some (.slice none 0 0):=(blk_cell BK2.out 0).trans rfl;have hcz26_1:w23.cell? ⟨gb2,1,none⟩=some (.int .i64 0):=(blk_cell BK2.out 1).trans rfl;have hfz26_0:=blk_frozen BK2.out 0;have hfz26_1:=blk_frozen BK2.out 1))
     refine bodyPost_ret (results_cell_row rfl _ _ gb2 67 #[.slice Ao24 t10.length co24, .int .i64 t13] (0,0) _ rfl (by refine zk_ ?_;refine blk_put (cs:=#[.slice Ao24 t10.length co24, .int .i64 0]) ?_ 1 _ rfl;refine zk_ ?_;refine blk_put (cs:=#[.slice none 0 0, .int .i64 0]) ?_ 0 _ rfl;refine zk_ ?_;exact BK2.out) Try.underlying67 rfl (by kernel_rfl)) rfl ?_
     exact ⟨_,by first|rfl|(simp [errW_none,errW_some]<;>rfl)|(simp [*,errW_none,errW_some]<;>rfl),by (with_reducible repeat (first|apply Kd.R_alloc|apply Kd.R_drewN|apply Kd.R_drew));exact Kd.R_mono (Kd.R_far (p:=⟨gb2,1,none⟩) (Kd.R_far (p:=⟨gb2,0,none⟩) (Kd.R_types HO12.out BK2.out (by decide)) (fun _ hk=>hk.2) (.slice Ao24 t10.length co24)) (fun _ hk=>hk.2) (.int .i64 t13)) (fun _ hk=>trivial),zl2_ HB GE1 GE2⟩
    ·rw [if_neg c21] at H
     have c21b0:decide (0≤t9)=false:=decide_eq_false c21
     clear c21
     have HC27:=Aside0.mk H
     clear H
     go_upto_region 5 with (first|((with_reducible refine gate_callee (f:=50) rfl ?_);refine goesL_ (some 24) rfl rfl Try.func50 (by kernel_rfl) rfl #[.slice A0 l0.length c0, .string a1] rfl zs_ ?_;(with_reducible refine (r10_Find.calls kj4 _ _ l0 a1 t9 _ ?side1 ?side2 A20.out).mono ?_);(case side1=>exact zc_ (Kd.C_below HR0.out HB.out));(case side2=>exact HC0.out);rintro e w' ⟨rfl,⟨nd,rfl⟩⟩;refine ⟨_,rfl, ?_⟩))
     (try simp only [Act.put,List.setIfInBounds_toArray,List.set_cons_zero,List.set_cons_succ])
     go_cut [27] (fun v27 wc=> ∃(kq:Nat) (x27_26:Bool),v27= .bool x27_26∧Aside0 (r10_Create.j1 kq l0 a1 a2 x27_26 a3_0 a3_1 a3_2=some (r1,r2))∧Aside0 (kq≤kj4)∧Aside0 (wc.heap[gb1]?=some (.cells #[.int .i64 a3_0, .int .i64 a3_1, .int .i64 a3_2] 27 (0,0)))∧Aside0 (wc.heap[gb2]?=some (.cells #[(.slice none 0 0), .int .i64 0] 67 (0,0)))∧Aside0 (Below w.heap.size w wc))
     case first=>
      have H:=HC27.out
      clear HC27
      by_cases c28:a2.toList=([]:List UInt8)
      ·rw [if_pos c28] at H
       have c28b0:(a2.toList==([]:List UInt8))=true:=beq_iff_eq.mpr c28
       have c28b1:(a2.toList !=([]:List UInt8))=false:=bne_eq_false_iff_eq.mpr c28
       clear c28
       (first|rw [c28b0]|(simp only [i64_w,i32_w];rw [c28b0])|skip)
       have H':=Aside0.mk H
       clear H
       go_wp2
       go_meet
       case rel=>exact ⟨_,(false),(by first|rfl|(simp;done)|(simp [*];done)),H',⟨by have:=HJ4.out;first|omega|exact Nat.le_refl _⟩,⟨by refine zk_ ?_;exact BK1.out⟩,⟨by refine zk_ ?_;exact BK2.out⟩,⟨zl2_ HB GE1 GE2⟩⟩
      ·rw [if_neg c28] at H
       have c28b0:(a2.toList==([]:List UInt8))=false:=beq_eq_false_iff_ne.mpr c28
       have c28b1:(a2.toList !=([]:List UInt8))=true:=bne_iff_ne.mpr c28
       (first|rw [c28b0]|(simp only [i64_w,i32_w];rw [c28b0])|skip)
       replace H:=Option.bind_eq_some_iff.mp H
       obtain ⟨t14,A290,H⟩:=H
       replace H:(r10_Create.j1 kj4 l0 a1 a2 (decide (t14<0)) a3_0 a3_1 a3_2)=some (r1,r2):=H
       have A29:=Aside0.mk A290
       clear A290
       have H':=Aside0.mk H
       clear H
       go_wp2_with (go_at_call 50;(with_reducible refine (r10_Find.calls kj4 _ _ l0 a2 t14 _ ?side1 ?side2 A29.out).mono ?_);(case side1=>exact zc_ (Kd.C_below HR0.out HB.out));(case side2=>exact HC0.out);rintro e w' ⟨rfl,⟨nd,rfl⟩⟩)
       go_meet
       case rel=>exact ⟨_,(decide (t14<0)),(by first|rfl|(simp;done)|(simp [*];done)),H',⟨by have:=HJ4.out;first|omega|exact Nat.le_refl _⟩,⟨by refine zk_ ?_;exact BK1.out⟩,⟨by refine zk_ ?_;exact BK2.out⟩,⟨zl2_ HB GE1 GE2⟩⟩
     case rest=>
      clear HC27
      try clear c1
      try clear c2
      try clear p2
      try clear c5
      try clear c8
      try clear c9
      try clear c10
      try clear c11
      try clear c14
      try clear c18
      try clear c21
      try clear c21b0
      try clear c25
      try clear c28
      try clear c28b0
      try clear c28b1
      try clear hcz12_0
      try clear hcz12_1
      try clear hcz12_2
      try clear hcz19_0
      try clear hcz19_1
      try clear hcz26_0
      try clear hcz26_1
      try clear hfz12_0
      try clear hfz12_1
      try clear hfz12_2
      try clear hfz19_0
      try clear hfz19_1
      try clear hfz26_0
      try clear hfz26_1
      try clear p2
      obtain ⟨kq,x27_26,rfl,HA,HJ26,BK1,BK2,HB⟩:=hcut
      cases kq with
      |zero=>exact absurd HA.out (by simp [r10_Create.j1])
      |succ kj26=>
       have H:=HA.out
       clear HA
       simp only [r10_Create.j1] at H
       by_cases c30:x27_26=true
       ·subst c30
        have H1:((r10_no.f 2).bind fun bt15=>(some (bt15.1,bt15.2)))=some (r1,r2):=by rw [if_pos rfl] at H;exact H
        clear H
        have H:=H1
        clear H1
        replace H:=Option.bind_eq_some_iff.mp H
        obtain ⟨⟨t15,t18⟩,A310,H⟩:=H
        replace H:(some (t15,t18))=some (r1,r2):=H
        have A31:=Aside0.mk A310
        clear A310
        simp only [Option.some.injEq,Prod.mk.injEq] at H
        obtain ⟨rfl,rfl⟩:=H
        go_wp2_with ((with_reducible refine gate_callee (f:=113) rfl ?_);refine goesL_ (some 36) rfl rfl Try.func113 (by kernel_rfl) rfl #[.int .i64 2] rfl zs_ ?_;(with_reducible refine (r10_no.calls 2 t15 t18 _ A31.out).mono ?_);rintro e w32 ⟨v16,rfl,ho0,hb⟩;refine ⟨_,rfl, ?_⟩;have n0_:=am_ (Kd.R_lower ho0 (below_size (zl2_ HB GE1 GE2)));have n1_:=am_ (blk_below (zb_ BK1) hb);have n2_:=am_ (blk_below (zb_ BK2) hb);have n3_:=am_ (below_step (zl2_ HB GE1 GE2) hb);clear BK1;clear BK2;clear HB;have HO17:=n0_;have BK1:=n1_;have BK2:=n2_;have HB:=n3_;clear n0_ n1_ n2_ n3_;(try clear hb);(try clear hb2);(try clear hk);(try clear hi);(try clear ho0);obtain ⟨Ao33,co33,eo33⟩:=Kd.R_slice HO17.out;subst eo33;have hnb34:=NB2_1.out;have hnc34:=NB1_2.out;have hcz35_0:w32.cell? ⟨gb2,0,none⟩=some (.slice none 0 0):=(blk_cell BK2.out 0).trans rfl;have hcz35_1:w32.cell? ⟨gb2,1,none⟩=some (.int .i64 0):=(blk_cell BK2.out 1).trans rfl;have hfz35_0:=blk_frozen BK2.out 0;have hfz35_1:=blk_frozen BK2.out 1)
        refine bodyPost_ret (results_cell_row rfl _ _ gb2 67 #[.slice Ao33 t15.length co33, .int .i64 t18] (0,0) _ rfl (by refine zk_ ?_;refine blk_put (cs:=#[.slice Ao33 t15.length co33, .int .i64 0]) ?_ 1 _ rfl;refine zk_ ?_;refine blk_put (cs:=#[.slice none 0 0, .int .i64 0]) ?_ 0 _ rfl;refine zk_ ?_;exact BK2.out) Try.underlying67 rfl (by kernel_rfl)) rfl ?_
        exact ⟨_,by first|rfl|(simp [errW_none,errW_some]<;>rfl)|(simp [*,errW_none,errW_some]<;>rfl),by (with_reducible repeat (first|apply Kd.R_alloc|apply Kd.R_drewN|apply Kd.R_drew));exact Kd.R_mono (Kd.R_far (p:=⟨gb2,1,none⟩) (Kd.R_far (p:=⟨gb2,0,none⟩) (Kd.R_types HO17.out BK2.out (by decide)) (fun _ hk=>hk.2) (.slice Ao33 t15.length co33)) (fun _ hk=>hk.2) (.int .i64 t18)) (fun _ hk=>trivial),zl2_ HB GE1 GE2⟩
       ·replace c30:=Bool.eq_false_iff.mpr c30
        subst c30
        have H1:(if (l0.length:Int)≥120 then ((r10_no.f 4).bind fun bt19=>(some (bt19.1,bt19.2))) else (r10_Create.l0 kj26 l0 a1 a2 0 a3_0 a3_1 a3_2))=some (r1,r2):=by rw [if_neg (show¬(false=true) by decide)] at H;exact H
        clear H
        have H:=H1
        clear H1
        by_cases c36:(l0.length:Int)≥120
        ·rw [if_pos c36] at H
         have c36b0:decide (120≤(l0.length:Int))=true:=decide_eq_true c36
         have c36b1:decide (120≤l0.length)=true:=decide_eq_true (by omega)
         clear c36
         replace H:=Option.bind_eq_some_iff.mp H
         obtain ⟨⟨t19,t22⟩,A370,H⟩:=H
         replace H:(some (t19,t22))=some (r1,r2):=H
         have A37:=Aside0.mk A370
         clear A370
         simp only [Option.some.injEq,Prod.mk.injEq] at H
         obtain ⟨rfl,rfl⟩:=H
         go_wp2_with ((with_reducible refine gate_callee (f:=113) rfl ?_);refine goesL_ (some 41) rfl rfl Try.func113 (by kernel_rfl) rfl #[.int .i64 4] rfl zs_ ?_;(with_reducible refine (r10_no.calls 4 t19 t22 _ A37.out).mono ?_);rintro e w38 ⟨v20,rfl,ho0,hb⟩;refine ⟨_,rfl, ?_⟩;have n0_:=am_ (Kd.R_lower ho0 (below_size (zl2_ HB GE1 GE2)));have n1_:=am_ (blk_below (zb_ BK1) hb);have n2_:=am_ (blk_below (zb_ BK2) hb);have n3_:=am_ (below_step (zl2_ HB GE1 GE2) hb);clear BK1;clear BK2;clear HB;have HO21:=n0_;have BK1:=n1_;have BK2:=n2_;have HB:=n3_;clear n0_ n1_ n2_ n3_;(try clear hb);(try clear hb2);(try clear hk);(try clear hi);(try clear ho0);obtain ⟨Ao39,co39,eo39⟩:=Kd.R_slice HO21.out;subst eo39;have hnb40:=NB2_1.out;have hnc40:=NB1_2.out;have hcz41_0:w38.cell? ⟨gb2,0,none⟩=some (.slice none 0 0):=(blk_cell BK2.out 0).trans rfl;have hcz41_1:w38.cell? ⟨gb2,1,none⟩=some (.int .i64 0):=(blk_cell BK2.out 1).trans rfl;have hfz41_0:=blk_frozen BK2.out 0;have hfz41_1:=blk_frozen BK2.out 1)
         refine bodyPost_ret (results_cell_row rfl _ _ gb2 67 #[.slice Ao39 t19.length co39, .int .i64 t22] (0,0) _ rfl (by refine zk_ ?_;refine blk_put (cs:=#[.slice Ao39 t19.length co39, .int .i64 0]) ?_ 1 _ rfl;refine zk_ ?_;refine blk_put (cs:=#[.slice none 0 0, .int .i64 0]) ?_ 0 _ rfl;refine zk_ ?_;exact BK2.out) Try.underlying67 rfl (by kernel_rfl)) rfl ?_
         exact ⟨_,by first|rfl|(simp [errW_none,errW_some]<;>rfl)|(simp [*,errW_none,errW_some]<;>rfl),by (with_reducible repeat (first|apply Kd.R_alloc|apply Kd.R_drewN|apply Kd.R_drew));exact Kd.R_mono (Kd.R_far (p:=⟨gb2,1,none⟩) (Kd.R_far (p:=⟨gb2,0,none⟩) (Kd.R_types HO21.out BK2.out (by decide)) (fun _ hk=>hk.2) (.slice Ao39 t19.length co39)) (fun _ hk=>hk.2) (.int .i64 t22)) (fun _ hk=>trivial),zl2_ HB GE1 GE2⟩
        ·rw [if_neg c36] at H
         have c36b0:decide (120≤(l0.length:Int))=false:=decide_eq_false c36
         have c36b1:decide (120≤l0.length)=false:=decide_eq_false (by omega)
         clear c36
         have H':=Aside0.mk H
         clear H
         go_wp2
         go_loopg [9] kj26 (fun kq v9 w'=> ∃(x9_3:Int),v9= .int .i64 x9_3∧Aside0 (r10_Create.l0 kq l0 a1 a2 x9_3 a3_0 a3_1 a3_2=some (r1,r2))∧Aside0 (kq≤kj26)∧Aside0 (w'.heap[gb1]?=some (.cells #[.int .i64 a3_0, .int .i64 a3_1, .int .i64 a3_2] 27 (0,0)))∧Aside0 (w'.heap[gb2]?=some (.cells #[(.slice none 0 0), .int .i64 0] 67 (0,0)))∧Aside0 (Below w.heap.size w w'))
         case atStart=>exact ⟨(0),(by first|rfl|(simp;done)|(simp [*];done)),H',⟨Nat.le_refl _⟩,⟨by refine zk_ ?_;exact BK1.out⟩,⟨by refine zk_ ?_;exact BK2.out⟩,⟨zl2_ HB GE1 GE2⟩⟩
         case round=>
          clear H'
          try clear c1
          try clear c2
          try clear p2
          try clear c3
          try clear c4
          try clear c5
          try clear c8
          try clear c9
          try clear c10
          try clear c11
          try clear c14
          try clear c18
          try clear c21
          try clear c21b0
          try clear c25
          try clear c28
          try clear c28b0
          try clear c28b1
          try clear c30
          try clear c34
          try clear c36
          try clear c36b0
          try clear c36b1
          try clear c40
          try clear hcz12_0
          try clear hcz12_1
          try clear hcz12_2
          try clear hcz19_0
          try clear hcz19_1
          try clear hcz26_0
          try clear hcz26_1
          try clear hcz35_0
          try clear hcz35_1
          try clear hcz41_0
          try clear hcz41_1
          try clear hfz12_0
          try clear hfz12_1
          try clear hfz12_2
          try clear hfz19_0
          try clear hfz19_1
          try clear hfz26_0
          try clear hfz26_1
          try clear hfz35_0
          try clear hfz35_1
          try clear hfz41_0
          try clear hfz41_1
          try clear p2
          obtain ⟨x9_3,rfl,HA,HK3,BK1,BK2,HB⟩:=hrel
          cases gk with
          |zero=>exact absurd HA.out (by simp [r10_Create.l0])
          |succ k3=>
           have H:=HA.out
           clear HA
           simp only [r10_Create.l0] at H
           by_cases c42:x9_3<(l0.length:Int)
           ·rw [if_pos c42] at H
            have c42b0:decide (x9_3<(l0.length:Int))=true:=decide_eq_true c42
            clear c42
            by_cases c43:0≤x9_3
            ·rw [if_pos c43] at H
             have c43b0:decide (0≤x9_3)=true:=decide_eq_true c43
             clear c43
             by_cases c44:(Op.bytesLess (((rd_T31 l0 x9_3).f0).toList) a1.toList)=true
             ·rw [if_pos c44] at H
              have c44b0:(Op.bytesLess (((rd_T31 l0 x9_3).f0).toList) a1.toList)=true:=c44
              clear c44
              have H':=Aside0.mk H
              clear H
              have p23:0≤(x9_3:Int):=of_decide_eq_true zq_
              have q23:x9_3<(l0.length:Int):=of_decide_eq_true zq_
              obtain ⟨ad23,e23,hx23_0,hx23_1,hx23_2,hx23_3,hx23_4,hx23_5,hx23_6,hx23_7,hx23_8,hx23_9,hx23_10,hx23_11⟩:=at_T31 HR0.out x9_3 p23 q23
              cases e23
              replace hx23_0:=zx_ HB hx23_0
              replace hx23_1:=zx_ HB hx23_1
              replace hx23_2:=zx_ HB hx23_2
              replace hx23_3:=zx_ HB hx23_3
              replace hx23_4:=zx_ HB hx23_4
              replace hx23_5:=zx_ HB hx23_5
              replace hx23_6:=zx_ HB hx23_6
              replace hx23_7:=zx_ HB hx23_7
              replace hx23_8:=zx_ HB hx23_8
              replace hx23_9:=zx_ HB hx23_9
              replace hx23_10:=zx_ HB hx23_10
              replace hx23_11:=zx_ HB hx23_11
              replace p23:=eq_true p23
              replace q23:=eq_true q23
              go_wp2
              go_roundg k3
              case measure=>have:=HJ4.out;have:=HJ26.out;have:=HK3.out;omega
              case rel=>exact ⟨(wrap64 (x9_3+1)),(by first|rfl|(simp;done)|(simp [*];done)),H',⟨by have:=HJ4.out;have:=HJ26.out;have:=HK3.out;omega⟩,⟨by refine zk_ ?_;exact BK1.out⟩,⟨by refine zk_ ?_;exact BK2.out⟩,⟨zl2_ HB GE1 GE2⟩⟩
             ·rw [if_neg c44] at H
              have c44b0:(Op.bytesLess (((rd_T31 l0 x9_3).f0).toList) a1.toList)=false:=by simpa using c44
              clear c44
              have c45b0:=eq_true (of_decide_eq_true zq_:0≤x9_3)
              by_cases c46:x9_3≤(l0.length:Int)
              ·rw [if_pos c46] at H
               have c46b0:=eq_true c46
               have c46b1:decide (x9_3≤(l0.length:Int))=true:=decide_eq_true c46
               clear c46
               obtain ⟨y24,hy24⟩: ∃y_:List (S31),y_=(l0.take (x9_3:Int).toNat):=⟨_,rfl⟩
               replace H:((r10_copied.f y24).bind fun t28=>(if t28.length<1256584717458 then ((some (t28++ [(⟨a1,a2,(⟨a3_0,a3_1,a3_2⟩:S27),(⟨0,0,0⟩:S27),(⟨0,0,0⟩:S27),1⟩:S31)]:List (S31))).bind fun y31=>((some (l0.drop (x9_3:Int).toNat:List (S31))).bind fun y34=>(if y31.length+y34.length<1256584717458 then (some ((y31++y34),0)) else (none)))) else (none)))=some (r1,r2):=by first|(rw [hy24];with_reducible exact H)|(have H2_:=(Option.bind_some _ _).symm.trans H;rw [hy24];with_reducible exact H2_)|(have H2_:=(Option.bind_some _ _).symm.trans H;with_reducible exact H2_)|with_reducible exact H|(rw [hy24];exact H)|exact H
               have Ny24:=Aside0.mk hy24
               clear hy24
               replace H:=Option.bind_eq_some_iff.mp H
               obtain ⟨t28,A470,H⟩:=H
               replace H:(if t28.length<1256584717458 then ((some (t28++ [(⟨a1,a2,(⟨a3_0,a3_1,a3_2⟩:S27),(⟨0,0,0⟩:S27),(⟨0,0,0⟩:S27),1⟩:S31)]:List (S31))).bind fun y31=>((some (l0.drop (x9_3:Int).toNat:List (S31))).bind fun y34=>(if y31.length+y34.length<1256584717458 then (some ((y31++y34),0)) else (none)))) else (none))=some (r1,r2):=H
               have A47:=Aside0.mk A470
               clear A470
               by_cases c48:t28.length<1256584717458
               ·rw [if_pos c48] at H
                have LMc48:=Aside0.mk c48
                clear c48
                obtain ⟨y31,hy31⟩: ∃y_:List (S31),y_=(t28++ [(⟨a1,a2,(⟨a3_0,a3_1,a3_2⟩:S27),(⟨0,0,0⟩:S27),(⟨0,0,0⟩:S27),1⟩:S31)]):=⟨_,rfl⟩
                replace H:((some (l0.drop (x9_3:Int).toNat:List (S31))).bind fun y34=>(if y31.length+y34.length<1256584717458 then (some ((y31++y34),0)) else (none)))=some (r1,r2):=by first|(rw [hy31];with_reducible exact H)|(have H2_:=(Option.bind_some _ _).symm.trans H;rw [hy31];with_reducible exact H2_)|(have H2_:=(Option.bind_some _ _).symm.trans H;with_reducible exact H2_)|with_reducible exact H|(rw [hy31];exact H)|exact H
                have Ny31:=Aside0.mk hy31
                clear hy31
                have c49b0:=eq_true (of_decide_eq_true zq_:0≤x9_3)
                have c50b0:=eq_true (of_decide_eq_true zq_:x9_3≤(l0.length:Int))
                obtain ⟨y34,hy34⟩: ∃y_:List (S31),y_=(l0.drop (x9_3:Int).toNat):=⟨_,rfl⟩
                replace H:(if y31.length+y34.length<1256584717458 then (some ((y31++y34),0)) else (none))=some (r1,r2):=by first|(rw [hy34];with_reducible exact H)|(have H2_:=(Option.bind_some _ _).symm.trans H;rw [hy34];with_reducible exact H2_)|(have H2_:=(Option.bind_some _ _).symm.trans H;with_reducible exact H2_)|with_reducible exact H|(rw [hy34];exact H)|exact H
                have Ny34:=Aside0.mk hy34
                clear hy34
                by_cases c51:y31.length+y34.length<1256584717458
                ·rw [if_pos c51] at H
                 have LMc51:=Aside0.mk c51
                 clear c51
                 obtain ⟨y38,hy38⟩: ∃y_:List (S31),y_=(y31++y34):=⟨_,rfl⟩
                 replace H:(some (y38,0))=some (r1,r2):=by first|(rw [hy38];with_reducible exact H)|(have H2_:=(Option.bind_some _ _).symm.trans H;rw [hy38];with_reducible exact H2_)|(have H2_:=(Option.bind_some _ _).symm.trans H;with_reducible exact H2_)|with_reducible exact H|(rw [hy38];exact H)|exact H
                 have Ny38:=Aside0.mk hy38
                 clear hy38
                 simp only [Option.some.injEq,Prod.mk.injEq] at H
                 obtain ⟨rfl,rfl⟩:=H
                 have p23:0≤(x9_3:Int):=of_decide_eq_true zq_
                 have q23:x9_3<(l0.length:Int):=of_decide_eq_true zq_
                 obtain ⟨ad23,e23,hx23_0,hx23_1,hx23_2,hx23_3,hx23_4,hx23_5,hx23_6,hx23_7,hx23_8,hx23_9,hx23_10,hx23_11⟩:=at_T31 HR0.out x9_3 p23 q23
                 cases e23
                 replace hx23_0:=zx_ HB hx23_0
                 replace hx23_1:=zx_ HB hx23_1
                 replace hx23_2:=zx_ HB hx23_2
                 replace hx23_3:=zx_ HB hx23_3
                 replace hx23_4:=zx_ HB hx23_4
                 replace hx23_5:=zx_ HB hx23_5
                 replace hx23_6:=zx_ HB hx23_6
                 replace hx23_7:=zx_ HB hx23_7
                 replace hx23_8:=zx_ HB hx23_8
                 replace hx23_9:=zx_ HB hx23_9
                 replace hx23_10:=zx_ HB hx23_10
                 replace hx23_11:=zx_ HB hx23_11
                 replace p23:=eq_true p23
                 replace q23:=eq_true q23
                 have q52:(x9_3:Int)≤((l0.length:Int):Int):=of_decide_eq_true zq_
                 obtain ⟨i052,hi052,_,hsz52,_⟩:=info_parts info31
                 have hroom52:l0.length≤c0:=HC0.out
                 have hC52:Kd.C k31 _ (some ad23) l0.length l0:=HR0.out
                 have hcut52:=cut_to (P:=Try.prog) 24 31 .i64 Try.underlying24 hi052 (some ad23) l0.length c0 x9_3 (of_decide_eq_true zq_) q52 hroom52
                 have hr52:=Kd.C_take (m:=(x9_3:Int).toNat) hC52 (by omega)
                 have hy52:y24.length=(x9_3:Int).toNat:=(by rw [Ny24.out,List.length_take];omega)
                 rw [←Ny24.out] at hr52
                 rw [←hy52] at hcut52
                 have HR27:=Aside0.mk hr52
                 have HC27:=am_ (show y24.length≤c0 from by omega)
                 clear hr52 hC52 hroom52 hi052 hsz52
                 have KY52:=Aside0.mk hy52
                 clear hy52
                 replace q52:=eq_true q52
                 go_wp2_with (first|((with_reducible refine gate_callee (f:=124) rfl ?_);refine goesL_ (some 60) rfl rfl Try.func124 (by kernel_rfl) rfl #[.slice (some ad23) y24.length c0] rfl zs_ ?_;(with_reducible refine (r10_copied.calls _ _ y24 t28 _ ?side1 ?side2 A47.out).mono ?_);(case side1=>exact zc_ (Kd.C_below HR27.out HB.out));(case side2=>exact HC27.out);rintro e w53 ⟨v29,rfl,ho0,hb⟩;refine ⟨_,rfl, ?_⟩;have n0_:=am_ (Kd.R_lower ho0 (below_size (zl2_ HB GE1 GE2)));have n1_:=am_ (blk_below (zb_ BK1) hb);have n2_:=am_ (blk_below (zb_ BK2) hb);have n3_:=am_ (below_step (zl2_ HB GE1 GE2) hb);clear BK1;clear BK2;clear HB;have HO30:=n0_;have BK1:=n1_;have BK2:=n2_;have HB:=n3_;clear n0_ n1_ n2_ n3_;(try clear hb);(try clear hb2);(try clear hk);(try clear hi);(try clear ho0);have hnb54:=NB1_2.out;have hnc54:=NB2_1.out;have hcz55_0:w53.cell? ⟨gb1,0,none⟩=some (.int .i64 a3_0):=(blk_cell BK1.out 0).trans rfl;have hcz55_1:w53.cell? ⟨gb1,1,none⟩=some (.int .i64 a3_1):=(blk_cell BK1.out 1).trans rfl;have hcz55_2:w53.cell? ⟨gb1,2,none⟩=some (.int .i64 a3_2):=(blk_cell BK1.out 2).trans rfl;have hfz55_0:=blk_frozen BK1.out 0;have hfz55_1:=blk_frozen BK1.out 1;have hfz55_2:=blk_frozen BK1.out 2)|((with_reducible refine gate_builtin (b:= .append) (xs:=#[.tmp 61, .tmp 66]) rfl ?_);at_builtin;refine Kd.R_append k31 (w0:=w) w.heap.size rfl (.tmp 61) (.tmp 66) 24 31 (.agg #[(.string ⟨#[]⟩),(.string ⟨#[]⟩),(.int .i64 0),(.int .i64 0),(.int .i64 0),(.int .i64 0),(.int .i64 0),(.int .i64 0),(.int .i64 0),(.int .i64 0),(.int .i64 0),(.int .i64 0)]) 112 rfl Try.underlying24 info31 rfl (by decide) (by omega) v29 t28 (⟨a1,a2,(⟨a3_0,a3_1,a3_2⟩:S27),(⟨0,0,0⟩:S27),(⟨0,0,0⟩:S27),1⟩:S31) [.string a1, .string a2, .int .i64 a3_0, .int .i64 a3_1, .int .i64 a3_2, .int .i64 0, .int .i64 0, .int .i64 0, .int .i64 0, .int .i64 0, .int .i64 0, .int .i64 1] (fun _=>True) (fun _=>False) rfl rfl ?aP (fun _ hk=>hk.elim) ?aF ?aO ?aB ?aS ?aL ?_;(case aP=>exact k31_mkM _ _ _ (⟨a1,a2,(⟨a3_0,a3_1,a3_2⟩:S27),(⟨0,0,0⟩:S27),(⟨0,0,0⟩:S27),1⟩:S31));(case aB=>exact (zl2_ HB GE1 GE2));(case aF=>exact (fun _ _=>trivial));(case aO=>exact (zr_ HO30));(case aS=>exact (below_size (zl2_ HB GE1 GE2)));(case aL=>have:=LMc48.out;omega);intro v32 w56 ho hb hg hat;rw [←Ny31.out] at ho;have n0_:=am_ (blk_grown (zb_ BK1) hg (Kd.R_ne HO30.out BK1.out (by decide)));have n1_:=am_ (blk_grown (zb_ BK2) hg (Kd.R_ne HO30.out BK2.out (by decide)));have n2_:=am_ (hb);have n3_:=am_ (ho);clear BK1;clear BK2;clear HB;clear HO30;have BK1:=n0_;have BK2:=n1_;have HB:=n2_;have HO33:=n3_;clear n0_ n1_ n2_ n3_;clear ho hb hg hat;have q57:(x9_3:Int)≤((l0.length:Int):Int):=of_decide_eq_true zq_;obtain ⟨i057,hi057,_,hsz57,_⟩:=info_parts info31;have hroom57:l0.length≤c0:=HC0.out;have hC57:Kd.C k31 _ (some ad23) l0.length l0:=HR0.out;have q057:(0:Int)≤(x9_3:Int):=of_decide_eq_true zq_;have hcut57:=cut_from (P:=Try.prog) 24 31 .i64 Try.underlying24 hi057 12 hsz57 (some ad23) l0.length c0 x9_3 q057 q57;have hr57:=Kd.C_drop (m:=(x9_3:Int).toNat) (c:=c0) hC57 (by omega) hroom57;obtain ⟨A57,hA57⟩: ∃A1,A1=(if c0=(x9_3:Int).toNat then (some ad23) else ((some ad23):Option Addr).map (·.add ((x9_3:Int).toNat*12))):=⟨_,rfl⟩;obtain ⟨c57,hc57⟩: ∃c1,c1=c0 - (x9_3:Int).toNat:=⟨_,rfl⟩;have hy57:y34.length=l0.length - (x9_3:Int).toNat:=(by rw [Ny34.out,List.length_drop]<;>omega);rw [show (l0).drop (x9_3:Int).toNat=y34 from Ny34.out.symm] at hr57;replace hr57:Kd.C k31 _ A57 y34.length y34:=(by rw [hA57];exact hr57);rw [←hy57,←hA57,←hc57] at hcut57;have HR37:=Aside0.mk hr57;have HC37:=am_ (show y34.length≤c57 from by rw [hy57,hc57];exact Nat.sub_le_sub_right hroom57 _);clear hr57 hC57 hroom57 hi057 hsz57 hc57;have KY57:=Aside0.mk hy57;have KA57:=Aside0.mk hA57;clear hy57 hA57;replace q57:=eq_true q57)|((with_reducible refine gate_builtin (b:= .append) (xs:=#[.tmp 68, .tmp 71]) rfl ?_);at_builtin;refine Kd.R_append_rows k31 (w0:=w) w.heap.size rfl (.tmp 68) (.tmp 71) 24 31 (.agg #[(.string ⟨#[]⟩),(.string ⟨#[]⟩),(.int .i64 0),(.int .i64 0),(.int .i64 0),(.int .i64 0),(.int .i64 0),(.int .i64 0),(.int .i64 0),(.int .i64 0),(.int .i64 0),(.int .i64 0)]) 112 rfl Try.underlying24 info31 rfl (by decide) (by omega) v32 y31 y34 _ _ _ (fun _=>True) (fun _=>False) rfl rfl ?aO ?aR (fun _ _ h=>h) (fun _ h=>h.elim) ?aF ?aB ?aS ?aL ?_;(case aR=>repeat (first|exact (Kd.C_below HR37.out HB.out)|(with_reducible refine Kd.C_alloc ?_ _)|(with_reducible refine Kd.C_drewN ?_ _)|(with_reducible refine Kd.C_drew ?_)));(case aB=>exact (zl2_ HB GE1 GE2));(case aF=>exact (fun _ _=>trivial));(case aO=>exact (zr_ HO33));(case aS=>exact (below_size (zl2_ HB GE1 GE2)));(case aL=>have:=LMc51.out;omega);intro v39 w58 ho hb hg hat;rw [←Ny38.out] at ho;have n0_:=am_ (blk_grown (zb_ BK1) hg (Kd.R_ne HO33.out BK1.out (by decide)));have n1_:=am_ (blk_grown (zb_ BK2) hg (Kd.R_ne HO33.out BK2.out (by decide)));have n2_:=am_ (hb);have n3_:=am_ (ho);clear BK1;clear BK2;clear HB;clear HO33;have BK1:=n0_;have BK2:=n1_;have HB:=n2_;have HO40:=n3_;clear n0_ n1_ n2_ n3_;clear ho hb hg hat;obtain ⟨Ao59,co59,eo59⟩:=Kd.R_slice HO40.out;subst eo59;have hcz60_0:w58.cell? ⟨gb2,0,none⟩=some (.slice none 0 0):=(blk_cell BK2.out 0).trans rfl;have hcz60_1:w58.cell? ⟨gb2,1,none⟩=some (.int .i64 0):=(blk_cell BK2.out 1).trans rfl;have hfz60_0:=blk_frozen BK2.out 0;have hfz60_1:=blk_frozen BK2.out 1))
                 refine bodyPost_ret (results_cell_row rfl _ _ gb2 67 #[.slice Ao59 y38.length co59, .int .i64 0] (0,0) _ rfl (by refine zk_ ?_;refine blk_put (cs:=#[.slice Ao59 y38.length co59, .int .i64 0]) ?_ 1 _ rfl;refine zk_ ?_;refine blk_put (cs:=#[.slice none 0 0, .int .i64 0]) ?_ 0 _ rfl;refine zk_ ?_;exact BK2.out) Try.underlying67 rfl (by kernel_rfl)) rfl ?_
                 exact ⟨_,by first|rfl|(simp [errW_none,errW_some]<;>rfl)|(simp [*,errW_none,errW_some]<;>rfl),by (with_reducible repeat (first|apply Kd.R_alloc|apply Kd.R_drewN|apply Kd.R_drew));exact Kd.R_mono (Kd.R_far (p:=⟨gb2,1,none⟩) (Kd.R_far (p:=⟨gb2,0,none⟩) (Kd.R_types HO40.out BK2.out (by decide)) (fun _ hk=>hk.2) (.slice Ao59 y38.length co59)) (fun _ hk=>hk.2) (.int .i64 0)) (fun _ hk=>trivial),zl2_ HB GE1 GE2⟩
                ·rw [if_neg c51] at H
                 exact absurd H (by simp)
               ·rw [if_neg c48] at H
                exact absurd H (by simp)
              ·rw [if_neg c46] at H
               exact absurd H (by simp)
            ·rw [if_neg c43] at H
             exact absurd H (by simp)
           ·rw [if_neg c42] at H
            have c42b0:decide (x9_3<(l0.length:Int))=false:=decide_eq_false c42
            clear c42
            by_cases c61:0≤x9_3
            ·rw [if_pos c61] at H
             have c61b0:=eq_true c61
             have c61b1:decide (0≤x9_3)=true:=decide_eq_true c61
             clear c61
             by_cases c62:x9_3≤(l0.length:Int)
             ·rw [if_pos c62] at H
              have c62b0:=eq_true c62
              have c62b1:decide (x9_3≤(l0.length:Int))=true:=decide_eq_true c62
              clear c62
              obtain ⟨y41,hy41⟩: ∃y_:List (S31),y_=(l0.take (x9_3:Int).toNat):=⟨_,rfl⟩
              replace H:((r10_copied.f y41).bind fun t45=>(if t45.length<1256584717458 then ((some (t45++ [(⟨a1,a2,(⟨a3_0,a3_1,a3_2⟩:S27),(⟨0,0,0⟩:S27),(⟨0,0,0⟩:S27),1⟩:S31)]:List (S31))).bind fun y48=>((some (l0.drop (x9_3:Int).toNat:List (S31))).bind fun y51=>(if y48.length+y51.length<1256584717458 then (some ((y48++y51),0)) else (none)))) else (none)))=some (r1,r2):=by first|(rw [hy41];with_reducible exact H)|(have H2_:=(Option.bind_some _ _).symm.trans H;rw [hy41];with_reducible exact H2_)|(have H2_:=(Option.bind_some _ _).symm.trans H;with_reducible exact H2_)|with_reducible exact H|(rw [hy41];exact H)|exact H
              have Ny41:=Aside0.mk hy41
              clear hy41
              replace H:=Option.bind_eq_some_iff.mp H
              obtain ⟨t45,A630,H⟩:=H
              replace H:(if t45.length<1256584717458 then ((some (t45++ [(⟨a1,a2,(⟨a3_0,a3_1,a3_2⟩:S27),(⟨0,0,0⟩:S27),(⟨0,0,0⟩:S27),1⟩:S31)]:List (S31))).bind fun y48=>((some (l0.drop (x9_3:Int).toNat:List (S31))).bind fun y51=>(if y48.length+y51.length<1256584717458 then (some ((y48++y51),0)) else (none)))) else (none))=some (r1,r2):=H
              have A63:=Aside0.mk A630
              clear A630
              by_cases c64:t45.length<1256584717458
              ·rw [if_pos c64] at H
               have LMc64:=Aside0.mk c64
               clear c64
               obtain ⟨y48,hy48⟩: ∃y_:List (S31),y_=(t45++ [(⟨a1,a2,(⟨a3_0,a3_1,a3_2⟩:S27),(⟨0,0,0⟩:S27),(⟨0,0,0⟩:S27),1⟩:S31)]):=⟨_,rfl⟩
               replace H:((some (l0.drop (x9_3:Int).toNat:List (S31))).bind fun y51=>(if y48.length+y51.length<1256584717458 then (some ((y48++y51),0)) else (none)))=some (r1,r2):=by first|(rw [hy48];with_reducible exact H)|(have H2_:=(Option.bind_some _ _).symm.trans H;rw [hy48];with_reducible exact H2_)|(have H2_:=(Option.bind_some _ _).symm.trans H;with_reducible exact H2_)|with_reducible exact H|(rw [hy48];exact H)|exact H
               have Ny48:=Aside0.mk hy48
               clear hy48
               have c65b0:=eq_true (of_decide_eq_true zq_:0≤x9_3)
               have c66b0:=eq_true (of_decide_eq_true zq_:x9_3≤(l0.length:Int))
               obtain ⟨y51,hy51⟩: ∃y_:List (S31),y_=(l0.drop (x9_3:Int).toNat):=⟨_,rfl⟩
               replace H:(if y48.length+y51.length<1256584717458 then (some ((y48++y51),0)) else (none))=some (r1,r2):=by first|(rw [hy51];with_reducible exact H)|(have H2_:=(Option.bind_some _ _).symm.trans H;rw [hy51];with_reducible exact H2_)|(have H2_:=(Option.bind_some _ _).symm.trans H;with_reducible exact H2_)|with_reducible exact H|(rw [hy51];exact H)|exact H
               have Ny51:=Aside0.mk hy51
               clear hy51
               by_cases c67:y48.length+y51.length<1256584717458
               ·rw [if_pos c67] at H
                have LMc67:=Aside0.mk c67
                clear c67
                obtain ⟨y55,hy55⟩: ∃y_:List (S31),y_=(y48++y51):=⟨_,rfl⟩
                replace H:(some (y55,0))=some (r1,r2):=by first|(rw [hy55];with_reducible exact H)|(have H2_:=(Option.bind_some _ _).symm.trans H;rw [hy55];with_reducible exact H2_)|(have H2_:=(Option.bind_some _ _).symm.trans H;with_reducible exact H2_)|with_reducible exact H|(rw [hy55];exact H)|exact H
                have Ny55:=Aside0.mk hy55
                clear hy55
                simp only [Option.some.injEq,Prod.mk.injEq] at H
                obtain ⟨rfl,rfl⟩:=H
                have q68:(x9_3:Int)≤((l0.length:Int):Int):=of_decide_eq_true zq_
                obtain ⟨i068,hi068,_,hsz68,_⟩:=info_parts info31
                have hroom68:l0.length≤c0:=HC0.out
                have hC68:Kd.C k31 _ A0 l0.length l0:=HR0.out
                have hcut68:=cut_to (P:=Try.prog) 24 31 .i64 Try.underlying24 hi068 A0 l0.length c0 x9_3 (of_decide_eq_true zq_) q68 hroom68
                have hr68:=Kd.C_take (m:=(x9_3:Int).toNat) hC68 (by omega)
                have hy68:y41.length=(x9_3:Int).toNat:=(by rw [Ny41.out,List.length_take];omega)
                rw [←Ny41.out] at hr68
                rw [←hy68] at hcut68
                have HR44:=Aside0.mk hr68
                have HC44:=am_ (show y41.length≤c0 from by omega)
                clear hr68 hC68 hroom68 hi068 hsz68
                have KY68:=Aside0.mk hy68
                clear hy68
                replace q68:=eq_true q68
                go_wp2_with (first|((with_reducible refine gate_callee (f:=124) rfl ?_);refine goesL_ (some 60) rfl rfl Try.func124 (by kernel_rfl) rfl #[.slice A0 y41.length c0] rfl zs_ ?_;(with_reducible refine (r10_copied.calls _ _ y41 t45 _ ?side1 ?side2 A63.out).mono ?_);(case side1=>exact zc_ (Kd.C_below HR44.out HB.out));(case side2=>exact HC44.out);rintro e w69 ⟨v46,rfl,ho0,hb⟩;refine ⟨_,rfl, ?_⟩;have n0_:=am_ (Kd.R_lower ho0 (below_size (zl2_ HB GE1 GE2)));have n1_:=am_ (blk_below (zb_ BK1) hb);have n2_:=am_ (blk_below (zb_ BK2) hb);have n3_:=am_ (below_step (zl2_ HB GE1 GE2) hb);clear BK1;clear BK2;clear HB;have HO47:=n0_;have BK1:=n1_;have BK2:=n2_;have HB:=n3_;clear n0_ n1_ n2_ n3_;(try clear hb);(try clear hb2);(try clear hk);(try clear hi);(try clear ho0);have hnb70:=NB1_2.out;have hnc70:=NB2_1.out;have hcz71_0:w69.cell? ⟨gb1,0,none⟩=some (.int .i64 a3_0):=(blk_cell BK1.out 0).trans rfl;have hcz71_1:w69.cell? ⟨gb1,1,none⟩=some (.int .i64 a3_1):=(blk_cell BK1.out 1).trans rfl;have hcz71_2:w69.cell? ⟨gb1,2,none⟩=some (.int .i64 a3_2):=(blk_cell BK1.out 2).trans rfl;have hfz71_0:=blk_frozen BK1.out 0;have hfz71_1:=blk_frozen BK1.out 1;have hfz71_2:=blk_frozen BK1.out 2)|((with_reducible refine gate_builtin (b:= .append) (xs:=#[.tmp 61, .tmp 66]) rfl ?_);at_builtin;refine Kd.R_append k31 (w0:=w) w.heap.size rfl (.tmp 61) (.tmp 66) 24 31 (.agg #[(.string ⟨#[]⟩),(.string ⟨#[]⟩),(.int .i64 0),(.int .i64 0),(.int .i64 0),(.int .i64 0),(.int .i64 0),(.int .i64 0),(.int .i64 0),(.int .i64 0),(.int .i64 0),(.int .i64 0)]) 112 rfl Try.underlying24 info31 rfl (by decide) (by omega) v46 t45 (⟨a1,a2,(⟨a3_0,a3_1,a3_2⟩:S27),(⟨0,0,0⟩:S27),(⟨0,0,0⟩:S27),1⟩:S31) [.string a1, .string a2, .int .i64 a3_0, .int .i64 a3_1, .int .i64 a3_2, .int .i64 0, .int .i64 0, .int .i64 0, .int .i64 0, .int .i64 0, .int .i64 0, .int .i64 1] (fun _=>True) (fun _=>False) rfl rfl ?aP (fun _ hk=>hk.elim) ?aF ?aO ?aB ?aS ?aL ?_;(case aP=>exact k31_mkM _ _ _ (⟨a1,a2,(⟨a3_0,a3_1,a3_2⟩:S27),(⟨0,0,0⟩:S27),(⟨0,0,0⟩:S27),1⟩:S31));(case aB=>exact (zl2_ HB GE1 GE2));(case aF=>exact (fun _ _=>trivial));(case aO=>exact (zr_ HO47));(case aS=>exact (below_size (zl2_ HB GE1 GE2)));(case aL=>have:=LMc64.out;omega);intro v49 w72 ho hb hg hat;rw [←Ny48.out] at ho;have n0_:=am_ (blk_grown (zb_ BK1) hg (Kd.R_ne HO47.out BK1.out (by decide)));have n1_:=am_ (blk_grown (zb_ BK2) hg (Kd.R_ne HO47.out BK2.out (by decide)));have n2_:=am_ (hb);have n3_:=am_ (ho);clear BK1;clear BK2;clear HB;clear HO47;have BK1:=n0_;have BK2:=n1_;have HB:=n2_;have HO50:=n3_;clear n0_ n1_ n2_ n3_;clear ho hb hg hat;have q73:(x9_3:Int)≤((l0.length:Int):Int):=of_decide_eq_true zq_;obtain ⟨i073,hi073,_,hsz73,_⟩:=info_parts info31;have hroom73:l0.length≤c0:=HC0.out;have hC73:Kd.C k31 _ A0 l0.length l0:=HR0.out;have q073:(0:Int)≤(x9_3:Int):=of_decide_eq_true zq_;have hcut73:=cut_from (P:=Try.prog) 24 31 .i64 Try.underlying24 hi073 12 hsz73 A0 l0.length c0 x9_3 q073 q73;have hr73:=Kd.C_drop (m:=(x9_3:Int).toNat) (c:=c0) hC73 (by omega) hroom73;obtain ⟨A73,hA73⟩: ∃A1,A1=(if c0=(x9_3:Int).toNat then A0 else (A0:Option Addr).map (·.add ((x9_3:Int).toNat*12))):=⟨_,rfl⟩;obtain ⟨c73,hc73⟩: ∃c1,c1=c0 - (x9_3:Int).toNat:=⟨_,rfl⟩;have hy73:y51.length=l0.length - (x9_3:Int).toNat:=(by rw [Ny51.out,List.length_drop]<;>omega);rw [show (l0).drop (x9_3:Int).toNat=y51 from Ny51.out.symm] at hr73;replace hr73:Kd.C k31 _ A73 y51.length y51:=(by rw [hA73];exact hr73);rw [←hy73,←hA73,←hc73] at hcut73;have HR54:=Aside0.mk hr73;have HC54:=am_ (show y51.length≤c73 from by rw [hy73,hc73];exact Nat.sub_le_sub_right hroom73 _);clear hr73 hC73 hroom73 hi073 hsz73 hc73;have KY73:=Aside0.mk hy73;have KA73:=Aside0.mk hA73;clear hy73 hA73;replace q73:=eq_true q73)|((with_reducible refine gate_builtin (b:= .append) (xs:=#[.tmp 68, .tmp 71]) rfl ?_);at_builtin;refine Kd.R_append_rows k31 (w0:=w) w.heap.size rfl (.tmp 68) (.tmp 71) 24 31 (.agg #[(.string ⟨#[]⟩),(.string ⟨#[]⟩),(.int .i64 0),(.int .i64 0),(.int .i64 0),(.int .i64 0),(.int .i64 0),(.int .i64 0),(.int .i64 0),(.int .i64 0),(.int .i64 0),(.int .i64 0)]) 112 rfl Try.underlying24 info31 rfl (by decide) (by omega) v49 y48 y51 _ _ _ (fun _=>True) (fun _=>False) rfl rfl ?aO ?aR (fun _ _ h=>h) (fun _ h=>h.elim) ?aF ?aB ?aS ?aL ?_;(case aR=>repeat (first|exact (Kd.C_below HR54.out HB.out)|(with_reducible refine Kd.C_alloc ?_ _)|(with_reducible refine Kd.C_drewN ?_ _)|(with_reducible refine Kd.C_drew ?_)));(case aB=>exact (zl2_ HB GE1 GE2));(case aF=>exact (fun _ _=>trivial));(case aO=>exact (zr_ HO50));(case aS=>exact (below_size (zl2_ HB GE1 GE2)));(case aL=>have:=LMc67.out;omega);intro v56 w74 ho hb hg hat;rw [←Ny55.out] at ho;have n0_:=am_ (blk_grown (zb_ BK1) hg (Kd.R_ne HO50.out BK1.out (by decide)));have n1_:=am_ (blk_grown (zb_ BK2) hg (Kd.R_ne HO50.out BK2.out (by decide)));have n2_:=am_ (hb);have n3_:=am_ (ho);clear BK1;clear BK2;clear HB;clear HO50;have BK1:=n0_;have BK2:=n1_;have HB:=n2_;have HO57:=n3_;clear n0_ n1_ n2_ n3_;clear ho hb hg hat;obtain ⟨Ao75,co75,eo75⟩:=Kd.R_slice HO57.out;subst eo75;have hcz76_0:w74.cell? ⟨gb2,0,none⟩=some (.slice none 0 0):=(blk_cell BK2.out 0).trans rfl;have hcz76_1:w74.cell? ⟨gb2,1,none⟩=some (.int .i64 0):=(blk_cell BK2.out 1).trans rfl;have hfz76_0:=blk_frozen BK2.out 0;have hfz76_1:=blk_frozen BK2.out 1))
                refine bodyPost_ret (results_cell_row rfl _ _ gb2 67 #[.slice Ao75 y55.length co75, .int .i64 0] (0,0) _ rfl (by refine zk_ ?_;refine blk_put (cs:=#[.slice Ao75 y55.length co75, .int .i64 0]) ?_ 1 _ rfl;refine zk_ ?_;refine blk_put (cs:=#[.slice none 0 0, .int .i64 0]) ?_ 0 _ rfl;refine zk_ ?_;exact BK2.out) Try.underlying67 rfl (by kernel_rfl)) rfl ?_
                exact ⟨_,by first|rfl|(simp [errW_none,errW_some]<;>rfl)|(simp [*,errW_none,errW_some]<;>rfl),by (with_reducible repeat (first|apply Kd.R_alloc|apply Kd.R_drewN|apply Kd.R_drew));exact Kd.R_mono (Kd.R_far (p:=⟨gb2,1,none⟩) (Kd.R_far (p:=⟨gb2,0,none⟩) (Kd.R_types HO57.out BK2.out (by decide)) (fun _ hk=>hk.2) (.slice Ao75 y55.length co75)) (fun _ hk=>hk.2) (.int .i64 0)) (fun _ hk=>trivial),zl2_ HB GE1 GE2⟩
               ·rw [if_neg c67] at H
                exact absurd H (by simp)
              ·rw [if_neg c64] at H
               exact absurd H (by simp)
             ·rw [if_neg c62] at H
              exact absurd H (by simp)
            ·rw [if_neg c61] at H
             exact absurd H (by simp)

def r10_Le.f (a0_0:Int) (a0_1:Int) (a0_2:Int) (a1_0:Int) (a1_1:Int) (a1_2:Int):Option (Bool):=if a0_0≤a1_0 then (if a0_1≤a1_1 then (some (decide (a0_2≤a1_2))) else (some false)) else (some false)
set_option maxHeartbeats 8000000 in
set_option maxRecDepth 100000 in
theorem r10_Le.calls (a0_0:Int) (a0_1:Int) (a0_2:Int) (a1_0:Int) (a1_1:Int) (a1_2:Int) (r:Bool) (w:World) (h:r10_Le.f a0_0 a0_1 a0_2 a1_0 a1_1 a1_2=some r):
  Calls Try.prog 34 #[.agg #[.int .i64 a0_0, .int .i64 a0_1, .int .i64 a0_2], .agg #[.int .i64 a1_0, .int .i64 a1_1, .int .i64 a1_2]] w fun e w'=>e= .returned (.bool r)∧Below w.heap.size w w':=by
 have hu27:=Try.underlying27
 have HB:=am_ (Below.refl w.heap.size w)
 have H:(if a0_0≤a1_0 then (if a0_1≤a1_1 then (some (decide (a0_2≤a1_2))) else (some false)) else (some false))=some r:=h
 clear h
 by_cases c3:a0_0≤a1_0
 ·rw [if_pos c3] at H
  have c3b0:decide (a0_0≤a1_0)=true:=decide_eq_true c3
  clear c3
  by_cases c4:a0_1≤a1_1
  ·rw [if_pos c4] at H
   have c4b0:decide (a0_1≤a1_1)=true:=decide_eq_true c4
   clear c4
   obtain rfl:=Option.some.inj H
   go_enter Try.func34,Try.ntmps34
   go_wp2_with (first|((with_reducible refine gate_dst (N:=2) rfl ?_);refine box_event ?hg (N:=2) ?hd (cs:=#[.int .i64 a0_0, .int .i64 a0_1, .int .i64 a0_2]) (t:=27) ?hr ?_;(case hd=>rfl);(case hg=>rfl);(case hr=>first|(go_simp;done)|(go_simp;rfl));intro gb1 hg w5 hbox hb;have n0_:=am_ (below_step (zl0_ HB) hb);have n1_:=am_ (hbox);have n2_:=am_ ((zg0_ HB hg:w.heap.size≤gb1));have n3_:=am_ ((zg0_ HB hg:w.heap.size≤gb1));clear HB;have HB:=n0_;have BK1:=n1_;have GW1:=n2_;have GE1:=n3_;clear n0_ n1_ n2_ n3_;clear hb hbox hg)|((with_reducible refine gate_dst (N:=3) rfl ?_);refine box_event ?hg (N:=3) ?hd (cs:=#[.int .i64 a1_0, .int .i64 a1_1, .int .i64 a1_2]) (t:=27) ?hr ?_;(case hd=>rfl);(case hg=>rfl);(case hr=>first|(go_simp;done)|(go_simp;rfl));intro gb2 hg w6 hbox hb;have n0_:=am_ (blk_below (zb_ BK1) hb);have n1_:=am_ (below_step (zl1_ HB GE1) hb);have n2_:=am_ (hbox);have n3_:=am_ ((zg1_ HB GE1 hg:w.heap.size≤gb2));have n4_:=am_ ((zg1_ HB GE1 hg:w.heap.size≤gb2));have n5_:=am_ ((zn_ BK1 hg:gb1≠gb2));have n6_:=am_ ((zm_ BK1 hg:gb2≠gb1));clear BK1;clear HB;have BK1:=n0_;have HB:=n1_;have BK2:=n2_;have GW2:=n3_;have GE2:=n4_;have NB1_2:=n5_;have NB2_1:=n6_;clear n0_ n1_ n2_ n3_ n4_ n5_ n6_;clear hb hbox hg;have hnb7:=NB1_2.out;have hnc7:=NB2_1.out;have hcz8_0:w6.cell? ⟨gb1,0,none⟩=some (.int .i64 a0_0):=(blk_cell BK1.out 0).trans rfl;have hcz8_1:w6.cell? ⟨gb1,1,none⟩=some (.int .i64 a0_1):=(blk_cell BK1.out 1).trans rfl;have hcz8_2:w6.cell? ⟨gb1,2,none⟩=some (.int .i64 a0_2):=(blk_cell BK1.out 2).trans rfl;have hfz8_0:=blk_frozen BK1.out 0;have hfz8_1:=blk_frozen BK1.out 1;have hfz8_2:=blk_frozen BK1.out 2;have hcz9_0:w6.cell? ⟨gb2,0,none⟩=some (.int .i64 a1_0):=(blk_cell BK2.out 0).trans rfl;have hcz9_1:w6.cell? ⟨gb2,1,none⟩=some (.int .i64 a1_1):=(blk_cell BK2.out 1).trans rfl;have hcz9_2:w6.cell? ⟨gb2,2,none⟩=some (.int .i64 a1_2):=(blk_cell BK2.out 2).trans rfl;have hfz9_0:=blk_frozen BK2.out 0;have hfz9_1:=blk_frozen BK2.out 1;have hfz9_2:=blk_frozen BK2.out 2))
   go_ret
   exact ⟨by first|rfl|(simp [errW_none,errW_some]<;>rfl)|(simp [*,errW_none,errW_some]<;>rfl),zl2_ HB GE1 GE2⟩
  ·rw [if_neg c4] at H
   have c4b0:decide (a0_1≤a1_1)=false:=decide_eq_false c4
   clear c4
   obtain rfl:=Option.some.inj H
   go_enter Try.func34,Try.ntmps34
   go_wp2_with (first|((with_reducible refine gate_dst (N:=2) rfl ?_);refine box_event ?hg (N:=2) ?hd (cs:=#[.int .i64 a0_0, .int .i64 a0_1, .int .i64 a0_2]) (t:=27) ?hr ?_;(case hd=>rfl);(case hg=>rfl);(case hr=>first|(go_simp;done)|(go_simp;rfl));intro gb1 hg w10 hbox hb;have n0_:=am_ (below_step (zl0_ HB) hb);have n1_:=am_ (hbox);have n2_:=am_ ((zg0_ HB hg:w.heap.size≤gb1));have n3_:=am_ ((zg0_ HB hg:w.heap.size≤gb1));clear HB;have HB:=n0_;have BK1:=n1_;have GW1:=n2_;have GE1:=n3_;clear n0_ n1_ n2_ n3_;clear hb hbox hg)|((with_reducible refine gate_dst (N:=3) rfl ?_);refine box_event ?hg (N:=3) ?hd (cs:=#[.int .i64 a1_0, .int .i64 a1_1, .int .i64 a1_2]) (t:=27) ?hr ?_;(case hd=>rfl);(case hg=>rfl);(case hr=>first|(go_simp;done)|(go_simp;rfl));intro gb2 hg w11 hbox hb;have n0_:=am_ (blk_below (zb_ BK1) hb);have n1_:=am_ (below_step (zl1_ HB GE1) hb);have n2_:=am_ (hbox);have n3_:=am_ ((zg1_ HB GE1 hg:w.heap.size≤gb2));have n4_:=am_ ((zg1_ HB GE1 hg:w.heap.size≤gb2));have n5_:=am_ ((zn_ BK1 hg:gb1≠gb2));have n6_:=am_ ((zm_ BK1 hg:gb2≠gb1));clear BK1;clear HB;have BK1:=n0_;have HB:=n1_;have BK2:=n2_;have GW2:=n3_;have GE2:=n4_;have NB1_2:=n5_;have NB2_1:=n6_;clear n0_ n1_ n2_ n3_ n4_ n5_ n6_;clear hb hbox hg;have hnb12:=NB1_2.out;have hnc12:=NB2_1.out;have hcz13_0:w11.cell? ⟨gb1,0,none⟩=some (.int .i64 a0_0):=(blk_cell BK1.out 0).trans rfl;have hcz13_1:w11.cell? ⟨gb1,1,none⟩=some (.int .i64 a0_1):=(blk_cell BK1.out 1).trans rfl;have hcz13_2:w11.cell? ⟨gb1,2,none⟩=some (.int .i64 a0_2):=(blk_cell BK1.out 2).trans rfl;have hfz13_0:=blk_frozen BK1.out 0;have hfz13_1:=blk_frozen BK1.out 1;have hfz13_2:=blk_frozen BK1.out 2;have hcz14_0:w11.cell? ⟨gb2,0,none⟩=some (.int .i64 a1_0):=(blk_cell BK2.out 0).trans rfl;have hcz14_1:w11.cell? ⟨gb2,1,none⟩=some (.int .i64 a1_1):=(blk_cell BK2.out 1).trans rfl;have hcz14_2:w11.cell? ⟨gb2,2,none⟩=some (.int .i64 a1_2):=(blk_cell BK2.out 2).trans rfl;have hfz14_0:=blk_frozen BK2.out 0;have hfz14_1:=blk_frozen BK2.out 1;have hfz14_2:=blk_frozen BK2.out 2))
   go_ret
   exact ⟨by first|rfl|(simp [errW_none,errW_some]<;>rfl)|(simp [*,errW_none,errW_some]<;>rfl),zl2_ HB GE1 GE2⟩
 ·rw [if_neg c3] at H
  have c3b0:decide (a0_0≤a1_0)=false:=decide_eq_false c3
  clear c3
  obtain rfl:=Option.some.inj H
  go_enter Try.func34,Try.ntmps34
  go_wp2_with (first|((with_reducible refine gate_dst (N:=2) rfl ?_);refine box_event ?hg (N:=2) ?hd (cs:=#[.int .i64 a0_0, .int .i64 a0_1, .int .i64 a0_2]) (t:=27) ?hr ?_;(case hd=>rfl);(case hg=>rfl);(case hr=>first|(go_simp;done)|(go_simp;rfl));intro gb1 hg w15 hbox hb;have n0_:=am_ (below_step (zl0_ HB) hb);have n1_:=am_ (hbox);have n2_:=am_ ((zg0_ HB hg:w.heap.size≤gb1));have n3_:=am_ ((zg0_ HB hg:w.heap.size≤gb1));clear HB;have HB:=n0_;have BK1:=n1_;have GW1:=n2_;have GE1:=n3_;clear n0_ n1_ n2_ n3_;clear hb hbox hg)|((with_reducible refine gate_dst (N:=3) rfl ?_);refine box_event ?hg (N:=3) ?hd (cs:=#[.int .i64 a1_0, .int .i64 a1_1, .int .i64 a1_2]) (t:=27) ?hr ?_;(case hd=>rfl);(case hg=>rfl);(case hr=>first|(go_simp;done)|(go_simp;rfl));intro gb2 hg w16 hbox hb;have n0_:=am_ (blk_below (zb_ BK1) hb);have n1_:=am_ (below_step (zl1_ HB GE1) hb);have n2_:=am_ (hbox);have n3_:=am_ ((zg1_ HB GE1 hg:w.heap.size≤gb2));have n4_:=am_ ((zg1_ HB GE1 hg:w.heap.size≤gb2));have n5_:=am_ ((zn_ BK1 hg:gb1≠gb2));have n6_:=am_ ((zm_ BK1 hg:gb2≠gb1));clear BK1;clear HB;have BK1:=n0_;have HB:=n1_;have BK2:=n2_;have GW2:=n3_;have GE2:=n4_;have NB1_2:=n5_;have NB2_1:=n6_;clear n0_ n1_ n2_ n3_ n4_ n5_ n6_;clear hb hbox hg;have hnb17:=NB1_2.out;have hnc17:=NB2_1.out;have hcz18_0:w16.cell? ⟨gb1,0,none⟩=some (.int .i64 a0_0):=(blk_cell BK1.out 0).trans rfl;have hcz18_1:w16.cell? ⟨gb1,1,none⟩=some (.int .i64 a0_1):=(blk_cell BK1.out 1).trans rfl;have hcz18_2:w16.cell? ⟨gb1,2,none⟩=some (.int .i64 a0_2):=(blk_cell BK1.out 2).trans rfl;have hfz18_0:=blk_frozen BK1.out 0;have hfz18_1:=blk_frozen BK1.out 1;have hfz18_2:=blk_frozen BK1.out 2;have hcz19_0:w16.cell? ⟨gb2,0,none⟩=some (.int .i64 a1_0):=(blk_cell BK2.out 0).trans rfl;have hcz19_1:w16.cell? ⟨gb2,1,none⟩=some (.int .i64 a1_1):=(blk_cell BK2.out 1).trans rfl;have hcz19_2:w16.cell? ⟨gb2,2,none⟩=some (.int .i64 a1_2):=(blk_cell BK2.out 2).trans rfl;have hfz19_0:=blk_frozen BK2.out 0;have hfz19_1:=blk_frozen BK2.out 1;have hfz19_2:=blk_frozen BK2.out 2))
  go_ret
  exact ⟨by first|rfl|(simp [errW_none,errW_some]<;>rfl)|(simp [*,errW_none,errW_some]<;>rfl),zl2_ HB GE1 GE2⟩

def r10_Add.f (a0_0:Int) (a0_1:Int) (a0_2:Int) (a1_0:Int) (a1_1:Int) (a1_2:Int):Option (Int×Int×Int):=some (wrap64 (a0_0+a1_0),wrap64 (a0_1+a1_1),wrap64 (a0_2+a1_2))
set_option maxHeartbeats 8000000 in
set_option maxRecDepth 100000 in
theorem r10_Add.calls (a0_0:Int) (a0_1:Int) (a0_2:Int) (a1_0:Int) (a1_1:Int) (a1_2:Int) (r1:Int) (r2:Int) (r3:Int) (w:World) (h:r10_Add.f a0_0 a0_1 a0_2 a1_0 a1_1 a1_2=some (r1,r2,r3)):
  Calls Try.prog 63 #[.agg #[.int .i64 a0_0, .int .i64 a0_1, .int .i64 a0_2], .agg #[.int .i64 a1_0, .int .i64 a1_1, .int .i64 a1_2]] w fun e w'=>e= .returned (.agg #[.int .i64 r1, .int .i64 r2, .int .i64 r3])∧Below w.heap.size w w':=by
 have hu27:=Try.underlying27
 have HB:=am_ (Below.refl w.heap.size w)
 have H:(some (wrap64 (a0_0+a1_0),wrap64 (a0_1+a1_1),wrap64 (a0_2+a1_2)))=some (r1,r2,r3):=h
 clear h
 simp only [Option.some.injEq,Prod.mk.injEq] at H
 obtain ⟨rfl,rfl,rfl⟩:=H
 go_enter Try.func63,Try.ntmps63
 go_wp2_with (first|((with_reducible refine gate_dst (N:=2) rfl ?_);refine box_event ?hg (N:=2) ?hd (cs:=#[.int .i64 a0_0, .int .i64 a0_1, .int .i64 a0_2]) (t:=27) ?hr ?_;(case hd=>rfl);(case hg=>rfl);(case hr=>first|(go_simp;done)|(go_simp;rfl));intro gb1 hg w3 hbox hb;have n0_:=am_ (below_step (zl0_ HB) hb);have n1_:=am_ (hbox);have n2_:=am_ ((zg0_ HB hg:w.heap.size≤gb1));have n3_:=am_ ((zg0_ HB hg:w.heap.size≤gb1));clear HB;have HB:=n0_;have BK1:=n1_;have GW1:=n2_;have GE1:=n3_;clear n0_ n1_ n2_ n3_;clear hb hbox hg)|((with_reducible refine gate_dst (N:=3) rfl ?_);refine box_event ?hg (N:=3) ?hd (cs:=#[.int .i64 a1_0, .int .i64 a1_1, .int .i64 a1_2]) (t:=27) ?hr ?_;(case hd=>rfl);(case hg=>rfl);(case hr=>first|(go_simp;done)|(go_simp;rfl));intro gb2 hg w4 hbox hb;have n0_:=am_ (blk_below (zb_ BK1) hb);have n1_:=am_ (below_step (zl1_ HB GE1) hb);have n2_:=am_ (hbox);have n3_:=am_ ((zg1_ HB GE1 hg:w.heap.size≤gb2));have n4_:=am_ ((zg1_ HB GE1 hg:w.heap.size≤gb2));have n5_:=am_ ((zn_ BK1 hg:gb1≠gb2));have n6_:=am_ ((zm_ BK1 hg:gb2≠gb1));clear BK1;clear HB;have BK1:=n0_;have HB:=n1_;have BK2:=n2_;have GW2:=n3_;have GE2:=n4_;have NB1_2:=n5_;have NB2_1:=n6_;clear n0_ n1_ n2_ n3_ n4_ n5_ n6_;clear hb hbox hg)|((with_reducible refine gate_dst (N:=4) rfl ?_);refine box_event ?hg (N:=4) ?hd (cs:=#[.int .i64 0, .int .i64 0, .int .i64 0]) (t:=27) ?hr ?_;(case hd=>rfl);(case hg=>rfl);(case hr=>first|(go_simp;done)|(go_simp;rfl));intro gb3 hg w5 hbox hb;have n0_:=am_ (blk_below (zb_ BK1) hb);have n1_:=am_ (blk_below (zb_ BK2) hb);have n2_:=am_ (below_step (zl2_ HB GE1 GE2) hb);have n3_:=am_ (hbox);have n4_:=am_ ((zg2_ HB GE1 GE2 hg:w.heap.size≤gb3));have n5_:=am_ ((zg2_ HB GE1 GE2 hg:w.heap.size≤gb3));have n6_:=am_ ((zn_ BK1 hg:gb1≠gb3));have n7_:=am_ ((zm_ BK1 hg:gb3≠gb1));have n8_:=am_ ((zn_ BK2 hg:gb2≠gb3));have n9_:=am_ ((zm_ BK2 hg:gb3≠gb2));clear BK1;clear BK2;clear HB;have BK1:=n0_;have BK2:=n1_;have HB:=n2_;have BK3:=n3_;have GW3:=n4_;have GE3:=n5_;have NB1_3:=n6_;have NB3_1:=n7_;have NB2_3:=n8_;have NB3_2:=n9_;clear n0_ n1_ n2_ n3_ n4_ n5_ n6_ n7_ n8_ n9_;clear hb hbox hg;have hnb6:=NB1_2.out;have hnc6:=NB2_1.out;have hnb7:=NB1_3.out;have hnc7:=NB3_1.out;have hcz8_0:w5.cell? ⟨gb1,0,none⟩=some (.int .i64 a0_0):=(blk_cell BK1.out 0).trans rfl;have hcz8_1:w5.cell? ⟨gb1,1,none⟩=some (.int .i64 a0_1):=(blk_cell BK1.out 1).trans rfl;have hcz8_2:w5.cell? ⟨gb1,2,none⟩=some (.int .i64 a0_2):=(blk_cell BK1.out 2).trans rfl;have hfz8_0:=blk_frozen BK1.out 0;have hfz8_1:=blk_frozen BK1.out 1;have hfz8_2:=blk_frozen BK1.out 2;have hnb9:=NB2_3.out;have hnc9:=NB3_2.out;have hcz10_0:w5.cell? ⟨gb2,0,none⟩=some (.int .i64 a1_0):=(blk_cell BK2.out 0).trans rfl;have hcz10_1:w5.cell? ⟨gb2,1,none⟩=some (.int .i64 a1_1):=(blk_cell BK2.out 1).trans rfl;have hcz10_2:w5.cell? ⟨gb2,2,none⟩=some (.int .i64 a1_2):=(blk_cell BK2.out 2).trans rfl;have hfz10_0:=blk_frozen BK2.out 0;have hfz10_1:=blk_frozen BK2.out 1;have hfz10_2:=blk_frozen BK2.out 2;have hcz11_0:w5.cell? ⟨gb3,0,none⟩=some (.int .i64 0):=(blk_cell BK3.out 0).trans rfl;have hcz11_1:w5.cell? ⟨gb3,1,none⟩=some (.int .i64 0):=(blk_cell BK3.out 1).trans rfl;have hcz11_2:w5.cell? ⟨gb3,2,none⟩=some (.int .i64 0):=(blk_cell BK3.out 2).trans rfl;have hfz11_0:=blk_frozen BK3.out 0;have hfz11_1:=blk_frozen BK3.out 1;have hfz11_2:=blk_frozen BK3.out 2))
 refine bodyPost_ret (results_cell_row rfl _ _ gb3 27 #[.int .i64 (wrap64 (a0_0+a1_0)), .int .i64 (wrap64 (a0_1+a1_1)), .int .i64 (wrap64 (a0_2+a1_2))] (0,0) _ rfl (by refine zk_ ?_;refine blk_put (cs:=#[.int .i64 (wrap64 (a0_0+a1_0)), .int .i64 (wrap64 (a0_1+a1_1)), .int .i64 0]) ?_ 2 _ rfl;refine zk_ ?_;refine blk_put (cs:=#[.int .i64 (wrap64 (a0_0+a1_0)), .int .i64 0, .int .i64 0]) ?_ 1 _ rfl;refine zk_ ?_;refine blk_put (cs:=#[.int .i64 0, .int .i64 0, .int .i64 0]) ?_ 0 _ rfl;refine zk_ ?_;exact BK3.out) Try.underlying27 rfl (by kernel_rfl)) rfl ?_
 exact ⟨by first|rfl|(simp [errW_none,errW_some]<;>rfl)|(simp [*,errW_none,errW_some]<;>rfl),zl3_ HB GE1 GE2 GE3⟩

def r10_Up.l0:Nat→List (S31)→List ByteArray→Int→Option (List ByteArray)
 |0,_,_,_=>none
 |k+1,x0,x5,x6=>if x6≥0 then (if (x5.length:Int)≤(x0.length:Int) then (if 0≤x6 then (if x6<(x0.length:Int) then (if x5.length<8796093022208 then ((r10_Find.f k x0 ((rd_T31 x0 x6).f1)).bind fun t7=>(r10_Up.l0 k x0 (x5++ [(rd_T31 x0 x6).f0]) t7)) else (none)) else (none)) else (none)) else (some x5)) else (some x5)
def r10_Up.f (k:Nat) (l0:List (S31)) (a1:ByteArray):Option (List ByteArray):=(r10_Find.f k l0 a1).bind fun t1=>(r10_Up.l0 k l0 ([]:List ByteArray) t1)
theorem r10_Up.mono_l: ∀k,(∀y0 y1 y2,LeO (r10_Up.l0 k y0 y1 y2) (r10_Up.l0 (k+1) y0 y1 y2))
 |0=>fun _ _ _ r h=>by simp [r10_Up.l0] at h
 |k+1=>by
  have ih0:=r10_Up.mono_l k
  ·intro y0 y1 y2
   unfold r10_Up.l0
   repeat' first
   |(with_reducible exact ih0 _ _ _)
   |(with_reducible exact r10_Find.mono _ _ _)
   |(with_reducible exact LeO.refl _)
   |(with_reducible exact LeO.none _)
   |(with_reducible refine LeO.ite ?_ ?_)
   |(with_reducible refine LeO.bind ?_ (fun _=> ?_))
   |exact ih0 _ _ _
   |exact r10_Find.mono _ _ _
   |exact LeO.none _
   |refine LeO.ite ?_ ?_
   |refine LeO.bind ?_ (fun _=> ?_)
theorem r10_Up.mono: ∀a0 a1 k,LeO (r10_Up.f k a0 a1) (r10_Up.f (k+1) a0 a1):=by
 intro a0 a1 k
 have ih0:=r10_Up.mono_l k
 unfold r10_Up.f
 repeat' first
  |(with_reducible exact ih0 _ _ _)
  |(with_reducible exact r10_Find.mono _ _ _)
  |(with_reducible exact LeO.refl _)
  |(with_reducible exact LeO.none _)
  |(with_reducible refine LeO.ite ?_ ?_)
  |(with_reducible refine LeO.bind ?_ (fun _=> ?_))
  |exact ih0 _ _ _
  |exact r10_Find.mono _ _ _
  |exact LeO.none _
  |refine LeO.ite ?_ ?_
  |refine LeO.bind ?_ (fun _=> ?_)
set_option maxHeartbeats 8000000 in
set_option maxRecDepth 100000 in
theorem r10_Up.calls (k:Nat) (A0:Option Addr) (c0:Nat) (l0:List (S31)) (a1:ByteArray) (r:List ByteArray) (w:World) (hr0:Kd.C k31 w A0 l0.length l0) (hc0:l0.length≤c0) (h:r10_Up.f k l0 a1=some r):
  Calls Try.prog 106 #[.slice A0 l0.length c0, .string a1] w fun e w'=> ∃v0_:Value,e= .returned (v0_)∧Kd.R Kd.string 9 w' w.heap.size (fun _=>True) v0_ r∧Below w.heap.size w w':=by
 have HR0:=Aside0.mk hr0
 have HC0:=Aside0.mk hc0
 clear hr0 hc0
 have HB:=am_ (Below.refl w.heap.size w)
 have H:((r10_Find.f k l0 a1).bind fun t1=>(r10_Up.l0 k l0 ([]:List ByteArray) t1))=some r:=h
 clear h
 replace H:=Option.bind_eq_some_iff.mp H
 obtain ⟨t1,A30,H⟩:=H
 replace H:(r10_Up.l0 k l0 ([]:List ByteArray) t1)=some r:=H
 have A3:=Aside0.mk A30
 clear A30
 have H':=Aside0.mk H
 clear H
 go_enter Try.func106,Try.ntmps106
 go_wp2_with (first|((with_reducible refine gate_callee (f:=50) rfl ?_);refine goesL_ (some 9) rfl rfl Try.func50 (by kernel_rfl) rfl #[.slice A0 l0.length c0, .string a1] rfl zs_ ?_;(with_reducible refine (r10_Find.calls k _ _ l0 a1 t1 _ ?side1 ?side2 A3.out).mono ?_);(case side1=>repeat (first|exact HR0.out|(with_reducible refine Kd.C_alloc ?_ _)|(with_reducible refine Kd.C_drewN ?_ _)|(with_reducible refine Kd.C_drew ?_)));(case side2=>exact HC0.out);rintro e w' ⟨rfl,⟨nd,rfl⟩⟩;refine ⟨_,rfl, ?_⟩))
 go_loopg [5,6] k (fun kq v5 v6 w'=> ∃(x5_1:List ByteArray) (x6_1:Int),v6= .int .i64 x6_1∧Aside0 (r10_Up.l0 kq l0 x5_1 x6_1=some r)∧Aside0 (kq≤k)∧Aside0 (Kd.R Kd.string 9 w' w.heap.size (fun _=>True) v5 x5_1)∧Aside0 (Below w.heap.size w w'))
 case atStart=>exact ⟨(([]:List ByteArray)),(t1),(by first|rfl|(simp;done)|(simp [*];done)),H',⟨Nat.le_refl _⟩,⟨by first|exact Kd.R_nil _ _ _ _ _|exact Kd.N_nil _ _ _ _ _|exact Kd.V_nil _ _ _ _ _|exact Kd.Q_nil _ _ _ _ _|exact Kd.S_nil _ _ _ _ _⟩,⟨zl0_ HB⟩⟩
 case round=>
  clear H'
  try clear c1
  try clear p2
  obtain ⟨x5_1,x6_1,rfl,HA,HK1,HO_5,HB⟩:=hrel
  cases gk with
  |zero=>exact absurd HA.out (by simp [r10_Up.l0])
  |succ k1=>
   have H:=HA.out
   clear HA
   simp only [r10_Up.l0] at H
   by_cases c4:x6_1≥0
   ·rw [if_pos c4] at H
    have c4b0:decide (0≤x6_1)=true:=decide_eq_true c4
    clear c4
    by_cases c5:(x5_1.length:Int)≤(l0.length:Int)
    ·rw [if_pos c5] at H
     have c5b0:decide ((x5_1.length:Int)≤(l0.length:Int))=true:=decide_eq_true c5
     have c5b1:decide (x5_1.length≤l0.length)=true:=decide_eq_true (Int.ofNat_le.mp c5)
     clear c5
     by_cases c6:0≤x6_1
     ·rw [if_pos c6] at H
      have c6b0:decide (0≤x6_1)=true:=decide_eq_true c6
      clear c6
      by_cases c7:x6_1<(l0.length:Int)
      ·rw [if_pos c7] at H
       have c7b0:decide (x6_1<(l0.length:Int))=true:=decide_eq_true c7
       clear c7
       by_cases c8:x5_1.length<8796093022208
       ·rw [if_pos c8] at H
        have LMc8:=Aside0.mk c8
        clear c8
        obtain ⟨y3,hy3⟩: ∃y_:List ByteArray,y_=(x5_1++ [(rd_T31 l0 x6_1).f0]):=⟨_,rfl⟩
        replace H:((r10_Find.f k1 l0 ((rd_T31 l0 x6_1).f1)).bind fun t7=>(r10_Up.l0 k1 l0 y3 t7))=some r:=by first|(rw [hy3];with_reducible exact H)|(have H2_:=(Option.bind_some _ _).symm.trans H;rw [hy3];with_reducible exact H2_)|(have H2_:=(Option.bind_some _ _).symm.trans H;with_reducible exact H2_)|with_reducible exact H|(rw [hy3];exact H)|exact H
        have Ny3:=Aside0.mk hy3
        clear hy3
        replace H:=Option.bind_eq_some_iff.mp H
        obtain ⟨t7,A90,H⟩:=H
        replace H:(r10_Up.l0 k1 l0 y3 t7)=some r:=H
        have A9:=Aside0.mk A90
        clear A90
        have H':=Aside0.mk H
        clear H
        obtain ⟨Ao10,co10,eo10⟩:=Kd.R_slice HO_5.out
        subst eo10
        have p2:0≤(x6_1:Int):=of_decide_eq_true zq_
        have q2:x6_1<(l0.length:Int):=of_decide_eq_true zq_
        obtain ⟨ad2,e2,hx2_0,hx2_1,hx2_2,hx2_3,hx2_4,hx2_5,hx2_6,hx2_7,hx2_8,hx2_9,hx2_10,hx2_11⟩:=at_T31 HR0.out x6_1 p2 q2
        cases e2
        replace hx2_0:=zx_ HB hx2_0
        replace hx2_1:=zx_ HB hx2_1
        replace hx2_2:=zx_ HB hx2_2
        replace hx2_3:=zx_ HB hx2_3
        replace hx2_4:=zx_ HB hx2_4
        replace hx2_5:=zx_ HB hx2_5
        replace hx2_6:=zx_ HB hx2_6
        replace hx2_7:=zx_ HB hx2_7
        replace hx2_8:=zx_ HB hx2_8
        replace hx2_9:=zx_ HB hx2_9
        replace hx2_10:=zx_ HB hx2_10
        replace hx2_11:=zx_ HB hx2_11
        replace p2:=eq_true p2
        replace q2:=eq_true q2
        go_wp2_with (first|((with_reducible refine gate_builtin (b:= .append) (xs:=#[.tmp 26, .tmp 32]) rfl ?_);(try (refine gate_guard (by rfl) ?_;dsimp only));at_builtin;refine Kd.R_append Kd.string (w0:=w) w.heap.size rfl (.tmp 26) (.tmp 32) 74 9 (.string ⟨#[]⟩) 16 rfl Try.underlying74 info9 rfl (by decide) (by omega) (.slice Ao10 x5_1.length co10) x5_1 ((rd_T31 l0 x6_1).f0) [.string ((rd_T31 l0 x6_1).f0)] (fun _=>True) (fun _=>False) rfl rfl ?aP (fun _ hk=>hk.elim) ?aF ?aO ?aB ?aS ?aL ?_;(case aP=>exact rfl);(case aB=>exact (zl0_ HB));(case aF=>exact (fun _ _=>trivial));(case aO=>exact (zr_ HO_5));(case aS=>exact (below_size (zl0_ HB)));(case aL=>have:=LMc8.out;omega);intro v4 w11 ho hb hg hat;rw [←Ny3.out] at ho;have n0_:=am_ (hb);have n1_:=am_ (ho);clear HB;clear HO_5;have HB:=n0_;have HO5:=n1_;clear n0_ n1_;clear ho hb hg hat;have p6:0≤(x6_1:Int):=of_decide_eq_true zq_;have q6:x6_1<(l0.length:Int):=of_decide_eq_true zq_;obtain ⟨ad6,e6,hx6_0,hx6_1,hx6_2,hx6_3,hx6_4,hx6_5,hx6_6,hx6_7,hx6_8,hx6_9,hx6_10,hx6_11⟩:=at_T31 HR0.out x6_1 p6 q6;obtain rfl:ad2=ad6:=(by injection e6);replace hx6_0:=zx_ HB hx6_0;replace hx6_1:=zx_ HB hx6_1;replace hx6_2:=zx_ HB hx6_2;replace hx6_3:=zx_ HB hx6_3;replace hx6_4:=zx_ HB hx6_4;replace hx6_5:=zx_ HB hx6_5;replace hx6_6:=zx_ HB hx6_6;replace hx6_7:=zx_ HB hx6_7;replace hx6_8:=zx_ HB hx6_8;replace hx6_9:=zx_ HB hx6_9;replace hx6_10:=zx_ HB hx6_10;replace hx6_11:=zx_ HB hx6_11;replace p6:=eq_true p6;replace q6:=eq_true q6)|((with_reducible refine gate_callee (f:=50) rfl ?_);refine goesL_ (some 25) rfl rfl Try.func50 (by kernel_rfl) rfl #[.slice (some ad2) l0.length c0, .string ((rd_T31 l0 x6_1).f1)] rfl zs_ ?_;(with_reducible refine (r10_Find.calls k1 _ _ l0 ((rd_T31 l0 x6_1).f1) t7 _ ?side1 ?side2 A9.out).mono ?_);(case side1=>exact zc_ (Kd.C_below HR0.out HB.out));(case side2=>exact HC0.out);rintro e w' ⟨rfl,⟨nd,rfl⟩⟩;refine ⟨_,rfl, ?_⟩))
        go_roundg k1
        case measure=>have:=HK1.out;omega
        case rel=>exact ⟨(y3),(t7),(by first|rfl|(simp;done)|(simp [*];done)),H',⟨by have:=HK1.out;omega⟩,⟨by (with_reducible repeat (first|apply Kd.R_alloc|apply Kd.R_drewN|apply Kd.R_drew));exact HO5.out⟩,⟨zl0_ HB⟩⟩
       ·rw [if_neg c8] at H
        exact absurd H (by simp)
      ·rw [if_neg c7] at H
       exact absurd H (by simp)
     ·rw [if_neg c6] at H
      exact absurd H (by simp)
    ·rw [if_neg c5] at H
     have c5b0:decide ((x5_1.length:Int)≤(l0.length:Int))=false:=decide_eq_false c5
     have c5b1:decide (x5_1.length≤l0.length)=false:=decide_eq_false (fun h=>c5 (Int.ofNat_le.mpr h))
     clear c5
     obtain rfl:=Option.some.inj H
     obtain ⟨Ao12,co12,eo12⟩:=Kd.R_slice HO_5.out
     subst eo12
     go_wp2
     go_ret
     exact ⟨_,by first|rfl|(simp [errW_none,errW_some]<;>rfl)|(simp [*,errW_none,errW_some]<;>rfl),by (with_reducible repeat (first|apply Kd.R_alloc|apply Kd.R_drewN|apply Kd.R_drew));exact HO_5.out,zl0_ HB⟩
   ·rw [if_neg c4] at H
    have c4b0:decide (0≤x6_1)=false:=decide_eq_false c4
    clear c4
    obtain rfl:=Option.some.inj H
    go_wp2
    go_ret
    exact ⟨_,by first|rfl|(simp [errW_none,errW_some]<;>rfl)|(simp [*,errW_none,errW_some]<;>rfl),by (with_reducible repeat (first|apply Kd.R_alloc|apply Kd.R_drewN|apply Kd.R_drew));exact HO_5.out,zl0_ HB⟩

end Go.Proofs.Ytcgefpklljclgaa.Print

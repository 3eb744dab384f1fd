/- WantMade: a part -/
import Derived.Test.YtahidkjncljkaaaProg
import Derived.Below
import Derived.Deep.Draws
import Derived.Deep.AppendLies
import Derived.Maps.AppendAt
import Derived.OwnWalk
import Derived.Laws.BytesArg
import Derived.Laws.MakeOwn
import Derived.Laws.OwnMore
import Derived.Deep.OwnRows
import Derived.Tactics
import Derived.Lib.ConvBytes
import Derived.Laws.Slices
import Derived.WalkKit
import Derived.KernelRfl
import Derived.RowKit3
import Derived.Deep.LoopGhost
import Derived.Deep.QuietTactic
import Derived.BigQuiet
import Derived.WideLaws
import Derived.Deep.DeepCutAuto
import Derived.Deep.CutBlock
import Derived.Deep.RegionHeld3
import Derived.Laws.Rows
import Derived.Lib.AppendStr
import Derived.ArgAppend
import Derived.Laws.IdiomCopy
import Derived.OrdersHeld
import Derived.Laws.BitsLemmas
import Derived.RowKit
import Derived.Shelf.Abstract
import Derived.Laws.Strings
import Derived.Maps.OwnOps
import Derived.Maps.Views
import Derived.StillTailTactics
import Derived.WalkSpells
import Derived.Sort.LotA
import Derived.Test.YtahidkjncljkaaaBWantMade0
set_option linter.unusedVariables false
set_option linter.unusedSimpArgs false
namespace Go.Proofs.Ytahidkjncljkaaa.Print
open Go.RowKit Go.Proofs.YtahidkjncljkaaaW.PrintWords Go.Proofs.YtahidkjncljkaaaW.PrintLast Go.Proofs.YtahidkjncljkaaaW.PrintMore
attribute [local go_sem] max2_int min2_int max_two min_two max_three min_three max_four min_four



def errW:Option Int→Value
 |none=> .nilIface
 |some c=> .iface 0 (.int .i64 c)
theorem errW_none:errW none= .nilIface:=rfl
theorem errW_some (c:Int):errW (some c)= .iface 0 (.int .i64 c):=rfl

theorem info3:(Try.prog.info? 3).map (fun i=>(i.zero,i.size,i.bytes))=some (some (.int .i64 0),1,8):=by kernel_rfl
theorem info37:(Try.prog.info? 37).map (fun i=>(i.zero,i.size,i.bytes))=some (some (.agg #[(.int .i64 0),(.int .i64 0),(.int .i64 0)]),3,24):=by kernel_rfl
theorem info39:(Try.prog.info? 39).map (fun i=>(i.zero,i.size,i.bytes))=some (some (.agg #[(.string ⟨#[]⟩),(.string ⟨#[]⟩),(.int .i64 0),(.int .i64 0),(.int .i64 0)]),5,56):=by kernel_rfl
-- the values' own types
structure S37 where
 f0:Int
 f1:Int
 f2:Int
def z37:S37:=⟨(0:Int),(0:Int),(0:Int)⟩
def k37:Kd S37:=Kd.iso (Kd.pair (Kd.int .i64) (Kd.pair (Kd.int .i64) (Kd.int .i64))) (fun x:S37=>(x.f0,x.f1,x.f2))
theorem k37_open {w:World} {x:S37} {cs:List Value} (h:k37.K w x cs):cs=[.int .i64 x.f0, .int .i64 x.f1, .int .i64 x.f2]:=by
 obtain ⟨_,_,rfl,rfl,⟨_,_,rfl,rfl,rfl⟩⟩:=h
 exact rfl
theorem k37_openM {w:World} {base:Nat} {ok:Nat→Prop} {x:S37} {cs:List Value} (h:k37.M w base ok x cs):cs=[.int .i64 x.f0, .int .i64 x.f1, .int .i64 x.f2]:=by
 obtain ⟨_,_,rfl,rfl,⟨_,_,rfl,rfl,rfl⟩⟩:=h
 exact rfl
theorem k37_mkM (w:World) (base:Nat) (ok:Nat→Prop) (x:S37):k37.M w base ok x [.int .i64 x.f0, .int .i64 x.f1, .int .i64 x.f2]:=⟨[.int .i64 x.f0],[.int .i64 x.f1, .int .i64 x.f2],rfl,rfl,⟨[.int .i64 x.f1],[.int .i64 x.f2],rfl,rfl,rfl⟩⟩
def rd_T37 (xs:List S37) (i:Int):S37:=xs.getD i.toNat z37
theorem at_T37 {w:World} {A:Option Addr} {n:Nat} {xs:List S37} (h:Kd.C k37 w A n xs) (i:Int) (h0:0≤i) (h1:i<n): ∃ad,A=some ad∧w.cell? (ad.add (i.toNat*3))=some (.int .i64 (rd_T37 xs i).f0)∧w.cell? ⟨(ad.add (i.toNat*3)).block,(ad.add (i.toNat*3)).off+1,none⟩=some (.int .i64 (rd_T37 xs i).f1)∧w.cell? ⟨(ad.add (i.toNat*3)).block,(ad.add (i.toNat*3)).off+2,none⟩=some (.int .i64 (rd_T37 xs i).f2):=by
 obtain ⟨ad,c,e,_,hK,hc0⟩:=Kd.C_get h z37 i h0 h1
 have hc: ∀j u,c[j]?=some u→w.cell? (ad.add (i.toNat*3+j))=some u:=hc0
 obtain rfl:=k37_open hK
 exact ⟨ad,e,hc 0 _ rfl,by rw [←add_field _ _ 1 (by omega)];exact hc 1 _ rfl,by rw [←add_field _ _ 2 (by omega)];exact hc 2 _ rfl⟩

structure S39 where
 f0:ByteArray
 f1:ByteArray
 f2:S37
def z39:S39:=⟨(⟨#[]⟩:ByteArray),(⟨#[]⟩:ByteArray),z37⟩
def k39:Kd S39:=Kd.iso (Kd.pair Kd.string (Kd.pair Kd.string k37)) (fun x:S39=>(x.f0,x.f1,x.f2))
theorem k39_open {w:World} {x:S39} {cs:List Value} (h:k39.K w x cs):cs=[.string x.f0, .string x.f1, .int .i64 x.f2.f0, .int .i64 x.f2.f1, .int .i64 x.f2.f2]:=by
 obtain ⟨_,_,rfl,rfl,⟨_,_,rfl,rfl,s2⟩⟩:=h
 obtain rfl:=k37_open s2
 exact rfl
theorem k39_openM {w:World} {base:Nat} {ok:Nat→Prop} {x:S39} {cs:List Value} (h:k39.M w base ok x cs):cs=[.string x.f0, .string x.f1, .int .i64 x.f2.f0, .int .i64 x.f2.f1, .int .i64 x.f2.f2]:=by
 obtain ⟨_,_,rfl,rfl,⟨_,_,rfl,rfl,s2⟩⟩:=h
 obtain rfl:=k37_openM s2
 exact rfl
theorem k39_mkM (w:World) (base:Nat) (ok:Nat→Prop) (x:S39):k39.M w base ok x [.string x.f0, .string x.f1, .int .i64 x.f2.f0, .int .i64 x.f2.f1, .int .i64 x.f2.f2]:=⟨[.string x.f0],[.string x.f1, .int .i64 x.f2.f0, .int .i64 x.f2.f1, .int .i64 x.f2.f2],rfl,rfl,⟨[.string x.f1],[.int .i64 x.f2.f0, .int .i64 x.f2.f1, .int .i64 x.f2.f2],rfl,rfl,(k37_mkM w base ok x.f2)⟩⟩
def rd_T39 (xs:List S39) (i:Int):S39:=xs.getD i.toNat z39
theorem at_T39 {w:World} {A:Option Addr} {n:Nat} {xs:List S39} (h:Kd.C k39 w A n xs) (i:Int) (h0:0≤i) (h1:i<n): ∃ad,A=some ad∧w.cell? (ad.add (i.toNat*5))=some (.string (rd_T39 xs i).f0)∧w.cell? ⟨(ad.add (i.toNat*5)).block,(ad.add (i.toNat*5)).off+1,none⟩=some (.string (rd_T39 xs i).f1)∧w.cell? ⟨(ad.add (i.toNat*5)).block,(ad.add (i.toNat*5)).off+2,none⟩=some (.int .i64 (rd_T39 xs i).f2.f0)∧w.cell? ⟨(ad.add (i.toNat*5)).block,(ad.add (i.toNat*5)).off+3,none⟩=some (.int .i64 (rd_T39 xs i).f2.f1)∧w.cell? ⟨(ad.add (i.toNat*5)).block,(ad.add (i.toNat*5)).off+4,none⟩=some (.int .i64 (rd_T39 xs i).f2.f2):=by
 obtain ⟨ad,c,e,_,hK,hc0⟩:=Kd.C_get h z39 i h0 h1
 have hc: ∀j u,c[j]?=some u→w.cell? (ad.add (i.toNat*5+j))=some u:=hc0
 obtain rfl:=k39_open hK
 exact ⟨ad,e,hc 0 _ rfl,by rw [←add_field _ _ 1 (by omega)];exact hc 1 _ rfl,by rw [←add_field _ _ 2 (by omega)];exact hc 2 _ rfl,by rw [←add_field _ _ 3 (by omega)];exact hc 3 _ rfl,by rw [←add_field _ _ 4 (by omega)];exact hc 4 _ rfl⟩

structure S79 where
 f0:ByteArray
 f1:ByteArray
 f2:S37
 f3:S37
 f4:S37
 f5:Int
structure S84 where
 f0:ByteArray
 f1:ByteArray
 f2:S37
 f3:Int
structure S76 where
 f0:Int
 f1:ByteArray
 f2:ByteArray
 f3:S37
structure S56 where
 f0:(List S79)
 f1:Int
 f2:Int
structure S141 where
 f0:S39
 f1:S79
 f2:Bool
 f3:S37
def r10_wanted.l0:Nat→List (S39)→ByteArray→Int→Option (Int)
 |0,_,_,_=>none
 |k+1,x0,x1,x5=>if x5<(x0.length:Int) then (if 0≤x5 then (if ((rd_T39 x0 x5).f0).toList=x1.toList then (some x5) else (r10_wanted.l0 k x0 x1 (wrap64 (x5+1)))) else (none)) else (some (-1))
def r10_wanted.f (k:Nat) (l0:List (S39)) (a1:ByteArray):Option (Int):=r10_wanted.l0 k l0 a1 0
theorem r10_wanted.mono_l: ∀k,(∀y0 y1 y2,LeO (r10_wanted.l0 k y0 y1 y2) (r10_wanted.l0 (k+1) y0 y1 y2))
 |0=>fun _ _ _ r h=>by simp [r10_wanted.l0] at h
 |k+1=>by
  have ih0:=r10_wanted.mono_l k
  intro y0 y1 y2
  unfold r10_wanted.l0
  repeat' first
  |(with_reducible exact ih0 _ _ _)
  |(with_reducible exact LeO.refl _)
  |(with_reducible exact LeO.none _)
  |(with_reducible refine LeO.ite ?_ ?_)
  |(with_reducible refine LeO.bind ?_ (fun _=> ?_))
  |exact ih0 _ _ _
  |exact LeO.none _
  |refine LeO.ite ?_ ?_
  |refine LeO.bind ?_ (fun _=> ?_)
theorem r10_wanted.mono: ∀a0 a1 k,LeO (r10_wanted.f k a0 a1) (r10_wanted.f (k+1) a0 a1):=by
 intro a0 a1 k
 have ih0:=r10_wanted.mono_l k
 unfold r10_wanted.f
 repeat' first
  |(with_reducible exact ih0 _ _ _)
  |(with_reducible exact LeO.refl _)
  |(with_reducible exact LeO.none _)
  |(with_reducible refine LeO.ite ?_ ?_)
  |(with_reducible refine LeO.bind ?_ (fun _=> ?_))
  |exact ih0 _ _ _
  |exact LeO.none _
  |refine LeO.ite ?_ ?_
  |refine LeO.bind ?_ (fun _=> ?_)
set_option maxHeartbeats 8000000 in
set_option maxRecDepth 100000 in
theorem r10_wanted.calls (k:Nat) (A0:Option Addr) (c0:Nat) (l0:List (S39)) (a1:ByteArray) (r:Int) (w:World) (hr0:Kd.C k39 w A0 l0.length l0) (hc0:l0.length≤c0) (h:r10_wanted.f k l0 a1=some r):
  Calls Try.prog 69 #[.slice A0 l0.length c0, .string a1] w fun e w'=>e= .returned (.int .i64 r)∧Drawn0 w w':=by
 have HR0:=Aside0.mk hr0
 have HC0:=Aside0.mk hc0
 clear hr0 hc0
 have H:(r10_wanted.l0 k l0 a1 0)=some r:=h
 clear h
 have H':=Aside0.mk H
 clear H
 go_enter Try.func69,Try.ntmps69
 go_wp2
 go_loopg [5] k (fun kq v5 w'=> ∃(x5_1:Int),v5= .int .i64 x5_1∧Aside0 (r10_wanted.l0 kq l0 a1 x5_1=some r)∧Aside0 (kq≤k)∧Drawn0 w w')
 case atStart=>exact ⟨(0),(by first|rfl|(simp;done)|(simp [*];done)),H',⟨Nat.le_refl _⟩,by repeat (first|exact Drawn0.refl _|apply Drawn0.step)⟩
 case round=>
  clear H'
  try clear p2
  obtain ⟨x5_1,rfl,HA,HK1,⟨m1,rfl⟩⟩:=hrel
  cases gk with
  |zero=>exact absurd HA.out (by simp [r10_wanted.l0])
  |succ k1=>
   have H:=HA.out
   clear HA
   simp only [r10_wanted.l0] at H
   by_cases c3:x5_1<(l0.length:Int)
   rotate_left
   ·rw [if_neg c3] at H
    have c3b0:decide (x5_1<(l0.length:Int))=false:=decide_eq_false c3
    clear c3
    obtain rfl:=Option.some.inj H
    go_wp2
    go_ret
    exact ⟨by first|rfl|(simp;done)|(simp [*];done),by repeat (first|exact Drawn0.refl _|apply Drawn0.step)⟩

   rw [if_pos c3] at H
   have c3b0:decide (x5_1<(l0.length:Int))=true:=decide_eq_true c3
   clear c3
   by_cases c4:0≤x5_1
   rotate_left
   ·rw [if_neg c4] at H
    exact absurd H (by simp)
   rw [if_pos c4] at H
   have c4b0:decide (0≤x5_1)=true:=decide_eq_true c4
   clear c4
   by_cases c5:((rd_T39 l0 x5_1).f0).toList=a1.toList
   ·rw [if_pos c5] at H
    have c5b0:(((rd_T39 l0 x5_1).f0).toList==a1.toList)=true:=beq_iff_eq.mpr c5
    have c5b1:(((rd_T39 l0 x5_1).f0).toList !=a1.toList)=false:=bne_eq_false_iff_eq.mpr c5
    clear c5
    obtain rfl:=Option.some.inj H
    have p1:0≤(x5_1:Int):=of_decide_eq_true zq_
    have q1:x5_1<(l0.length:Int):=of_decide_eq_true zq_
    obtain ⟨ad1,e1,hx1_0,hx1_1,hx1_2,hx1_3,hx1_4⟩:=at_T39 HR0.out x5_1 p1 q1
    cases e1
    replace p1:=eq_true p1
    replace q1:=eq_true q1
    go_wp2
    go_ret
    exact ⟨by first|rfl|(simp;done)|(simp [*];done),by repeat (first|exact Drawn0.refl _|apply Drawn0.step)⟩
   rw [if_neg c5] at H
   have c5b0:(((rd_T39 l0 x5_1).f0).toList==a1.toList)=false:=beq_eq_false_iff_ne.mpr c5
   have c5b1:(((rd_T39 l0 x5_1).f0).toList !=a1.toList)=true:=bne_iff_ne.mpr c5
   have H':=Aside0.mk H
   clear H
   have p1:0≤(x5_1:Int):=of_decide_eq_true zq_
   have q1:x5_1<(l0.length:Int):=of_decide_eq_true zq_
   obtain ⟨ad1,e1,hx1_0,hx1_1,hx1_2,hx1_3,hx1_4⟩:=at_T39 HR0.out x5_1 p1 q1
   cases e1
   replace p1:=eq_true p1
   replace q1:=eq_true q1
   go_wp2
   go_roundg k1
   case measure=>have:=HK1.out;omega
   case rel=>exact ⟨(wrap64 (x5_1+1)),(by first|rfl|(simp;done)|(simp [*];done)),H',⟨by have:=HK1.out;omega⟩,by repeat (first|exact Drawn0.refl _|apply Drawn0.step)⟩
def r10_Depth.l0:Nat→List (S39)→Int→Int→Option (Int)
 |0,_,_,_=>none
 |k+1,x0,x5,x6=>if x6≥0 then (if (wrap64 (x5+1))>(x0.length:Int) then (some (-1)) else (if 0≤x6 then (if x6<(x0.length:Int) then (if ((rd_T39 x0 x6).f1).toList=([]:List UInt8) then (some (wrap64 (x5+1))) else ((r10_wanted.f k x0 ((rd_T39 x0 x6).f1)).bind fun t4=>(r10_Depth.l0 k x0 (wrap64 (x5+1)) t4))) else (none)) else (none))) else (some 0)
def r10_Depth.f (k:Nat) (l0:List (S39)) (a1:ByteArray):Option (Int):=(r10_wanted.f k l0 a1).bind fun t1=>(r10_Depth.l0 k l0 0 t1)
theorem r10_Depth.mono_l: ∀k,(∀y0 y1 y2,LeO (r10_Depth.l0 k y0 y1 y2) (r10_Depth.l0 (k+1) y0 y1 y2))
 |0=>fun _ _ _ r h=>by simp [r10_Depth.l0] at h
 |k+1=>by
  have ih0:=r10_Depth.mono_l k
  intro y0 y1 y2
  unfold r10_Depth.l0
  repeat' first
  |(with_reducible exact ih0 _ _ _)
  |(with_reducible exact r10_wanted.mono _ _ _)
  |(with_reducible exact LeO.refl _)
  |(with_reducible exact LeO.none _)
  |(with_reducible refine LeO.ite ?_ ?_)
  |(with_reducible refine LeO.bind ?_ (fun _=> ?_))
  |exact ih0 _ _ _
  |exact r10_wanted.mono _ _ _
  |exact LeO.none _
  |refine LeO.ite ?_ ?_
  |refine LeO.bind ?_ (fun _=> ?_)
theorem r10_Depth.mono: ∀a0 a1 k,LeO (r10_Depth.f k a0 a1) (r10_Depth.f (k+1) a0 a1):=by
 intro a0 a1 k
 have ih0:=r10_Depth.mono_l k
 unfold r10_Depth.f
 repeat' first
  |(with_reducible exact ih0 _ _ _)
  |(with_reducible exact r10_wanted.mono _ _ _)
  |(with_reducible exact LeO.refl _)
  |(with_reducible exact LeO.none _)
  |(with_reducible refine LeO.ite ?_ ?_)
  |(with_reducible refine LeO.bind ?_ (fun _=> ?_))
  |exact ih0 _ _ _
  |exact r10_wanted.mono _ _ _
  |exact LeO.none _
  |refine LeO.ite ?_ ?_
  |refine LeO.bind ?_ (fun _=> ?_)
set_option maxHeartbeats 8000000 in
set_option maxRecDepth 100000 in
theorem r10_Depth.calls (k:Nat) (A0:Option Addr) (c0:Nat) (l0:List (S39)) (a1:ByteArray) (r:Int) (w:World) (hr0:Kd.C k39 w A0 l0.length l0) (hc0:l0.length≤c0) (h:r10_Depth.f k l0 a1=some r):
  Calls Try.prog 28 #[.slice A0 l0.length c0, .string a1] w fun e w'=>e= .returned (.int .i64 r)∧Drawn0 w w':=by
 have HR0:=Aside0.mk hr0
 have HC0:=Aside0.mk hc0
 clear hr0 hc0
 have H:((r10_wanted.f k l0 a1).bind fun t1=>(r10_Depth.l0 k l0 0 t1))=some r:=h
 clear h
 replace H:=Option.bind_eq_some_iff.mp H
 obtain ⟨t1,A30,H⟩:=H
 try dsimp only at H
 have A3:=Aside0.mk A30
 clear A30
 have H':=Aside0.mk H
 clear H
 go_enter Try.func28,Try.ntmps28
 go_wp2_with (first|((with_reducible refine gate_callee (f:=69) rfl ?_);refine gl_ (some 9) Try.func69 #[.slice A0 l0.length c0, .string a1] ?_;(with_reducible refine (r10_wanted.calls k _ _ l0 a1 t1 _ ?side1 ?side2 A3.out).mono ?_);(case side1=>repeat (first|exact HR0.out|(with_reducible refine Kd.C_alloc ?_ _)|(with_reducible refine Kd.C_drewN ?_ _)|(with_reducible refine Kd.C_drew ?_)));(case side2=>exact HC0.out);rintro e w' ⟨rfl,⟨nd,rfl⟩⟩;refine ⟨_,rfl, ?_⟩))
 go_loopg [5,6] k (fun kq v5 v6 w'=> ∃(x5_1:Int) (x6_1:Int),v5= .int .i64 x5_1∧v6= .int .i64 x6_1∧Aside0 (r10_Depth.l0 kq l0 x5_1 x6_1=some r)∧Aside0 (kq≤k)∧Drawn0 w w')
 case atStart=>exact ⟨(0),(t1),(by first|rfl|(simp;done)|(simp [*];done)),(by first|rfl|(simp;done)|(simp [*];done)),H',⟨Nat.le_refl _⟩,by repeat (first|exact Drawn0.refl _|apply Drawn0.step)⟩
 case round=>
  clear H'
  try clear c2
  try clear p2
  obtain ⟨x5_1,x6_1,rfl,rfl,HA,HK1,⟨m1,rfl⟩⟩:=hrel
  cases gk with
  |zero=>exact absurd HA.out (by simp [r10_Depth.l0])
  |succ k1=>
   have H:=HA.out
   clear HA
   simp only [r10_Depth.l0] at H
   by_cases c4:x6_1≥0
   rotate_left
   ·rw [if_neg c4] at H
    have c4b0:decide (0≤x6_1)=false:=decide_eq_false c4
    clear c4
    obtain rfl:=Option.some.inj H
    go_wp2
    go_ret
    exact ⟨by first|rfl|(simp;done)|(simp [*];done),by repeat (first|exact Drawn0.refl _|apply Drawn0.step)⟩

   rw [if_pos c4] at H
   have c4b0:decide (0≤x6_1)=true:=decide_eq_true c4
   clear c4
   by_cases c5:(wrap64 (x5_1+1))>(l0.length:Int)
   ·rw [if_pos c5] at H
    have c5b0:decide ((l0.length:Int)<(wrap64 (x5_1+1)))=true:=decide_eq_true c5
    clear c5
    obtain rfl:=Option.some.inj H
    go_wp2
    go_ret
    exact ⟨by first|rfl|(simp;done)|(simp [*];done),by repeat (first|exact Drawn0.refl _|apply Drawn0.step)⟩
   rw [if_neg c5] at H
   have c5b0:decide ((l0.length:Int)<(wrap64 (x5_1+1)))=false:=decide_eq_false c5
   clear c5
   by_cases c6:0≤x6_1
   rotate_left
   ·rw [if_neg c6] at H
    exact absurd H (by simp)
   rw [if_pos c6] at H
   have c6b0:decide (0≤x6_1)=true:=decide_eq_true c6
   clear c6
   by_cases c7:x6_1<(l0.length:Int)
   rotate_left
   ·rw [if_neg c7] at H
    exact absurd H (by simp)
   rw [if_pos c7] at H
   have c7b0:decide (x6_1<(l0.length:Int))=true:=decide_eq_true c7
   clear c7
   by_cases c8:((rd_T39 l0 x6_1).f1).toList=([]:List UInt8)
   ·rw [if_pos c8] at H
    have c8b0:(((rd_T39 l0 x6_1).f1).toList==([]:List UInt8))=true:=beq_iff_eq.mpr c8
    have c8b1:(((rd_T39 l0 x6_1).f1).toList !=([]:List UInt8))=false:=bne_eq_false_iff_eq.mpr c8
    clear c8
    obtain rfl:=Option.some.inj H
    have p2:0≤(x6_1:Int):=of_decide_eq_true zq_
    have q2:x6_1<(l0.length:Int):=of_decide_eq_true zq_
    obtain ⟨ad2,e2,hx2_0,hx2_1,hx2_2,hx2_3,hx2_4⟩:=at_T39 HR0.out x6_1 p2 q2
    cases e2
    replace p2:=eq_true p2
    replace q2:=eq_true q2
    go_wp2
    go_ret
    exact ⟨by first|rfl|(simp;done)|(simp [*];done),by repeat (first|exact Drawn0.refl _|apply Drawn0.step)⟩
   rw [if_neg c8] at H
   have c8b0:(((rd_T39 l0 x6_1).f1).toList==([]:List UInt8))=false:=beq_eq_false_iff_ne.mpr c8
   have c8b1:(((rd_T39 l0 x6_1).f1).toList !=([]:List UInt8))=true:=bne_iff_ne.mpr c8
   replace H:=Option.bind_eq_some_iff.mp H
   obtain ⟨t4,A90,H⟩:=H
   try dsimp only at H
   have A9:=Aside0.mk A90
   clear A90
   have H':=Aside0.mk H
   clear H
   have p2:0≤(x6_1:Int):=of_decide_eq_true zq_
   have q2:x6_1<(l0.length:Int):=of_decide_eq_true zq_
   obtain ⟨ad2,e2,hx2_0,hx2_1,hx2_2,hx2_3,hx2_4⟩:=at_T39 HR0.out x6_1 p2 q2
   cases e2
   replace p2:=eq_true p2
   replace q2:=eq_true q2
   have p3:0≤(x6_1:Int):=of_decide_eq_true zq_
   have q3:x6_1<(l0.length:Int):=of_decide_eq_true zq_
   obtain ⟨ad3,e3,hx3_0,hx3_1,hx3_2,hx3_3,hx3_4⟩:=at_T39 HR0.out x6_1 p3 q3
   obtain rfl:ad2=ad3:=(by injection e3)
   replace p3:=eq_true p3
   replace q3:=eq_true q3
   go_wp2_with (first|((with_reducible refine gate_callee (f:=69) rfl ?_);refine gl_ (some 18) Try.func69 #[.slice (some ad2) l0.length c0, .string ((rd_T39 l0 x6_1).f1)] ?_;(with_reducible refine (r10_wanted.calls k1 _ _ l0 ((rd_T39 l0 x6_1).f1) t4 _ ?side1 ?side2 A9.out).mono ?_);(case side1=>repeat (first|exact HR0.out|(with_reducible refine Kd.C_alloc ?_ _)|(with_reducible refine Kd.C_drewN ?_ _)|(with_reducible refine Kd.C_drew ?_)));(case side2=>exact HC0.out);rintro e w' ⟨rfl,⟨nd,rfl⟩⟩;refine ⟨_,rfl, ?_⟩))
   go_roundg k1
   case measure=>have:=HK1.out;omega
   case rel=>exact ⟨(wrap64 (x5_1+1)),(t4),(by first|rfl|(simp;done)|(simp [*];done)),(by first|rfl|(simp;done)|(simp [*];done)),H',⟨by have:=HK1.out;omega⟩,by repeat (first|exact Drawn0.refl _|apply Drawn0.step)⟩
def r10_MayName.f (a0:ByteArray):Option (Bool):=if a0.toList=([]:List UInt8) then (some false) else (some (decide ((a0.size:Int)≤24)))
set_option maxHeartbeats 8000000 in
set_option maxRecDepth 100000 in
theorem r10_MayName.calls (a0:ByteArray) (r:Bool) (w:World) (h:r10_MayName.f a0=some r):
  Calls Try.prog 67 #[.string a0] w fun e w'=>e= .returned (.bool r)∧Drawn0 w w':=by
 have H:(if a0.toList=([]:List UInt8) then (some false) else (some (decide ((a0.size:Int)≤24))))=some r:=h
 clear h
 by_cases c2:a0.toList=([]:List UInt8)
 ·rw [if_pos c2] at H
  have c2b0:(a0.toList==([]:List UInt8))=true:=beq_iff_eq.mpr c2
  have c2b1:(a0.toList !=([]:List UInt8))=false:=bne_eq_false_iff_eq.mpr c2
  clear c2
  obtain rfl:=Option.some.inj H
  go_enter Try.func67,Try.ntmps67
  go_wp2
  go_ret
  exact ⟨by first|rfl|(simp;done)|(simp [*];done),by repeat (first|exact Drawn0.refl _|apply Drawn0.step)⟩
 rw [if_neg c2] at H
 have c2b0:(a0.toList==([]:List UInt8))=false:=beq_eq_false_iff_ne.mpr c2
 have c2b1:(a0.toList !=([]:List UInt8))=true:=bne_iff_ne.mpr c2
 obtain rfl:=Option.some.inj H
 go_enter Try.func67,Try.ntmps67
 go_wp2
 go_ret
 exact ⟨by first|rfl|(simp;done)|(simp [*];done),by repeat (first|exact Drawn0.refl _|apply Drawn0.step)⟩

def r10_unit.f (a0:Int):Option (Bool):=if a0≥0 then (some (decide (a0≤1099511627776))) else (some false)
set_option maxHeartbeats 8000000 in
set_option maxRecDepth 100000 in
theorem r10_unit.calls (a0:Int) (r:Bool) (w:World) (h:r10_unit.f a0=some r):
  Calls Try.prog 110 #[.int .i64 a0] w fun e w'=>e= .returned (.bool r)∧Drawn0 w w':=by
 have H:(if a0≥0 then (some (decide (a0≤1099511627776))) else (some false))=some r:=h
 clear h
 by_cases c2:a0≥0
 ·rw [if_pos c2] at H
  have c2b0:decide (0≤a0)=true:=decide_eq_true c2
  clear c2
  obtain rfl:=Option.some.inj H
  go_enter Try.func110,Try.ntmps110
  go_wp2
  go_ret
  exact ⟨by first|rfl|(simp;done)|(simp [*];done),by repeat (first|exact Drawn0.refl _|apply Drawn0.step)⟩
 rw [if_neg c2] at H
 have c2b0:decide (0≤a0)=false:=decide_eq_false c2
 clear c2
 obtain rfl:=Option.some.inj H
 go_enter Try.func110,Try.ntmps110
 go_wp2
 go_ret
 exact ⟨by first|rfl|(simp;done)|(simp [*];done),by repeat (first|exact Drawn0.refl _|apply Drawn0.step)⟩

def r10_MayVec.f (a0_0:Int) (a0_1:Int) (a0_2:Int):Option (Bool):=(r10_unit.f a0_0).bind fun t2=>(if t2=true then ((r10_unit.f a0_1).bind fun t3=>(if t3=true then ((r10_unit.f a0_2).bind fun t4=>(some t4)) else (some false))) else (some false))
set_option maxHeartbeats 8000000 in
set_option maxRecDepth 100000 in
theorem r10_MayVec.calls (a0_0:Int) (a0_1:Int) (a0_2:Int) (r:Bool) (w:World) (h:r10_MayVec.f a0_0 a0_1 a0_2=some r):
  Calls Try.prog 68 #[.agg #[.int .i64 a0_0, .int .i64 a0_1, .int .i64 a0_2]] w fun e w'=>e= .returned (.bool r)∧Below w.heap.size w w':=by
 have hu37:=Try.underlying37
 have HB:=am_ (Below.refl w.heap.size w)
 have H:((r10_unit.f a0_0).bind fun t2=>(if t2=true then ((r10_unit.f a0_1).bind fun t3=>(if t3=true then ((r10_unit.f a0_2).bind fun t4=>(some t4)) else (some false))) else (some false)))=some r:=h
 clear h
 replace H:=Option.bind_eq_some_iff.mp H
 obtain ⟨t2,A20,H⟩:=H
 try dsimp only at H
 have A2:=Aside0.mk A20
 clear A20
 by_cases c3:t2=true
 rotate_left
 ·replace c3:=Bool.eq_false_iff.mpr c3
  subst c3
  have H1:(some false)=some r:=by rw [if_neg (show¬(false=true) by decide)] at H;exact H
  clear H
  have H:=H1
  clear H1
  obtain rfl:=Option.some.inj H
  go_enter Try.func68,Try.ntmps68
  go_wp2_with (first|((with_reducible refine gate_dst (N:=1) rfl ?_);refine bx_ (N:=1) (cs:=#[.int .i64 a0_0, .int .i64 a0_1, .int .i64 a0_2]) (t:=37) ?_;intro gb1 hg w11 hbox hb;have BK1:=am_ (hbox);have GW1:=am_ ((zg0_ HB hg:w.heap.size≤gb1));have GE1:=am_ ((zg0_ HB hg:w.heap.size≤gb1));replace HB:=am_ (below_step (zl0_ HB) hb);clear hb hbox hg;obtain ⟨hcz12_0,hcz12_1,hcz12_2⟩:=x3_ BK1;have hfz12_0:=blk_frozen BK1.out 0;have hfz12_1:=blk_frozen BK1.out 1;have hfz12_2:=blk_frozen BK1.out 2)|((with_reducible refine gate_callee (f:=110) rfl ?_);refine gl_ (some 5) Try.func110 #[.int .i64 a0_0] ?_;(with_reducible refine (r10_unit.calls a0_0 false _ A2.out).mono ?_);rintro e w' ⟨rfl,⟨nd,rfl⟩⟩;refine ⟨_,rfl, ?_⟩))
  go_ret
  exact ⟨by first|rfl|(simp [errW_none,errW_some]<;>rfl)|(simp [*,errW_none,errW_some]<;>rfl),zl1_ HB GE1⟩

 subst c3
 have H1:((r10_unit.f a0_1).bind fun t3=>(if t3=true then ((r10_unit.f a0_2).bind fun t4=>(some t4)) else (some false)))=some r:=by rw [if_pos rfl] at H;exact H
 clear H
 have H:=H1
 clear H1
 replace H:=Option.bind_eq_some_iff.mp H
 obtain ⟨t3,A40,H⟩:=H
 try dsimp only at H
 have A4:=Aside0.mk A40
 clear A40
 by_cases c5:t3=true
 rotate_left
 ·replace c5:=Bool.eq_false_iff.mpr c5
  subst c5
  have H1:(some false)=some r:=by rw [if_neg (show¬(false=true) by decide)] at H;exact H
  clear H
  have H:=H1
  clear H1
  obtain rfl:=Option.some.inj H
  go_enter Try.func68,Try.ntmps68
  go_wp2_with (first|((with_reducible refine gate_dst (N:=1) rfl ?_);refine bx_ (N:=1) (cs:=#[.int .i64 a0_0, .int .i64 a0_1, .int .i64 a0_2]) (t:=37) ?_;intro gb1 hg w9 hbox hb;have BK1:=am_ (hbox);have GW1:=am_ ((zg0_ HB hg:w.heap.size≤gb1));have GE1:=am_ ((zg0_ HB hg:w.heap.size≤gb1));replace HB:=am_ (below_step (zl0_ HB) hb);clear hb hbox hg;obtain ⟨hcz10_0,hcz10_1,hcz10_2⟩:=x3_ BK1;have hfz10_0:=blk_frozen BK1.out 0;have hfz10_1:=blk_frozen BK1.out 1;have hfz10_2:=blk_frozen BK1.out 2)|((with_reducible refine gate_callee (f:=110) rfl ?_);refine gl_ (some 5) Try.func110 #[.int .i64 a0_0] ?_;(with_reducible refine (r10_unit.calls a0_0 true _ A2.out).mono ?_);rintro e w' ⟨rfl,⟨nd,rfl⟩⟩;refine ⟨_,rfl, ?_⟩)|(go_at_call 110;(with_reducible refine (r10_unit.calls a0_1 false _ A4.out).mono ?_);rintro e w' ⟨rfl,⟨nd,rfl⟩⟩))
  go_ret
  exact ⟨by first|rfl|(simp [errW_none,errW_some]<;>rfl)|(simp [*,errW_none,errW_some]<;>rfl),zl1_ HB GE1⟩
 subst c5
 have H1:((r10_unit.f a0_2).bind fun t4=>(some t4))=some r:=by rw [if_pos rfl] at H;exact H
 clear H
 have H:=H1
 clear H1
 replace H:=Option.bind_eq_some_iff.mp H
 obtain ⟨t4,A60,H⟩:=H
 try dsimp only at H
 have A6:=Aside0.mk A60
 clear A60
 obtain rfl:=Option.some.inj H
 go_enter Try.func68,Try.ntmps68
 go_wp2_with (first|((with_reducible refine gate_dst (N:=1) rfl ?_);refine bx_ (N:=1) (cs:=#[.int .i64 a0_0, .int .i64 a0_1, .int .i64 a0_2]) (t:=37) ?_;intro gb1 hg w7 hbox hb;have BK1:=am_ (hbox);have GW1:=am_ ((zg0_ HB hg:w.heap.size≤gb1));have GE1:=am_ ((zg0_ HB hg:w.heap.size≤gb1));replace HB:=am_ (below_step (zl0_ HB) hb);clear hb hbox hg;obtain ⟨hcz8_0,hcz8_1,hcz8_2⟩:=x3_ BK1;have hfz8_0:=blk_frozen BK1.out 0;have hfz8_1:=blk_frozen BK1.out 1;have hfz8_2:=blk_frozen BK1.out 2)|((with_reducible refine gate_callee (f:=110) rfl ?_);refine gl_ (some 5) Try.func110 #[.int .i64 a0_0] ?_;(with_reducible refine (r10_unit.calls a0_0 true _ A2.out).mono ?_);rintro e w' ⟨rfl,⟨nd,rfl⟩⟩;refine ⟨_,rfl, ?_⟩)|(go_at_call 110;(with_reducible refine (r10_unit.calls a0_1 true _ A4.out).mono ?_);rintro e w' ⟨rfl,⟨nd,rfl⟩⟩)|(go_at_call 110;(with_reducible refine (r10_unit.calls a0_2 t4 _ A6.out).mono ?_);rintro e w' ⟨rfl,⟨nd,rfl⟩⟩))
 go_ret
 exact ⟨by first|rfl|(simp [errW_none,errW_some]<;>rfl)|(simp [*,errW_none,errW_some]<;>rfl),zl1_ HB GE1⟩
def r10_Add.f (a0_0:Int) (a0_1:Int) (a0_2:Int) (a1_0:Int) (a1_1:Int) (a1_2:Int):Option (Int×Int×Int):=some (wrap64 (a0_0+a1_0),wrap64 (a0_1+a1_1),wrap64 (a0_2+a1_2))
set_option maxHeartbeats 8000000 in
set_option maxRecDepth 100000 in
theorem r10_Add.calls (a0_0:Int) (a0_1:Int) (a0_2:Int) (a1_0:Int) (a1_1:Int) (a1_2:Int) (r1:Int) (r2:Int) (r3:Int) (w:World) (h:r10_Add.f a0_0 a0_1 a0_2 a1_0 a1_1 a1_2=some (r1,r2,r3)):
  Calls Try.prog 70 #[.agg #[.int .i64 a0_0, .int .i64 a0_1, .int .i64 a0_2], .agg #[.int .i64 a1_0, .int .i64 a1_1, .int .i64 a1_2]] w fun e w'=>e= .returned (.agg #[.int .i64 r1, .int .i64 r2, .int .i64 r3])∧Below w.heap.size w w':=by
 have hu37:=Try.underlying37
 have HB:=am_ (Below.refl w.heap.size w)
 have H:(some (wrap64 (a0_0+a1_0),wrap64 (a0_1+a1_1),wrap64 (a0_2+a1_2)))=some (r1,r2,r3):=h
 clear h
 simp only [Option.some.injEq,Prod.mk.injEq] at H
 obtain ⟨rfl,rfl,rfl⟩:=H
 go_enter Try.func70,Try.ntmps70
 go_wp2_with (first|((with_reducible refine gate_dst (N:=2) rfl ?_);refine bx_ (N:=2) (cs:=#[.int .i64 a0_0, .int .i64 a0_1, .int .i64 a0_2]) (t:=37) ?_;intro gb1 hg w3 hbox hb;have BK1:=am_ (hbox);have GW1:=am_ ((zg0_ HB hg:w.heap.size≤gb1));have GE1:=am_ ((zg0_ HB hg:w.heap.size≤gb1));replace HB:=am_ (below_step (zl0_ HB) hb);clear hb hbox hg)|((with_reducible refine gate_dst (N:=3) rfl ?_);refine bx_ (N:=3) (cs:=#[.int .i64 a1_0, .int .i64 a1_1, .int .i64 a1_2]) (t:=37) ?_;intro gb2 hg w4 hbox hb;have BK2:=am_ (hbox);have GW2:=am_ ((zg1_ HB GE1 hg:w.heap.size≤gb2));have GE2:=am_ ((zg1_ HB GE1 hg:w.heap.size≤gb2));replace HB:=am_ (below_step (zl1_ HB GE1) hb);have NB1_2:=am_ ((zn_ BK1 hg:gb1≠gb2));have NB2_1:=am_ ((zm_ BK1 hg:gb2≠gb1));replace BK1:=am_ (blk_below (zb_ BK1) hb);clear hb hbox hg)|((with_reducible refine gate_dst (N:=4) rfl ?_);refine bx_ (N:=4) (cs:=#[.int .i64 0, .int .i64 0, .int .i64 0]) (t:=37) ?_;intro gb3 hg w5 hbox hb;have BK3:=am_ (hbox);have GW3:=am_ ((zg2_ HB GE1 GE2 hg:w.heap.size≤gb3));have GE3:=am_ ((zg2_ HB GE1 GE2 hg:w.heap.size≤gb3));replace HB:=am_ (below_step (zl2_ HB GE1 GE2) hb);have NB1_3:=am_ ((zn_ BK1 hg:gb1≠gb3));have NB3_1:=am_ ((zm_ BK1 hg:gb3≠gb1));replace BK1:=am_ (blk_below (zb_ BK1) hb);have NB2_3:=am_ ((zn_ BK2 hg:gb2≠gb3));have NB3_2:=am_ ((zm_ BK2 hg:gb3≠gb2));replace BK2:=am_ (blk_below (zb_ BK2) hb);clear hb hbox hg;have hnb6:=NB1_2.out;have hnc6:=NB2_1.out;have hnb7:=NB1_3.out;have hnc7:=NB3_1.out;obtain ⟨hcz8_0,hcz8_1,hcz8_2,hfz8_0,hfz8_1,hfz8_2⟩:=y3_ BK1;have hnb9:=NB2_3.out;have hnc9:=NB3_2.out;obtain ⟨hcz10_0,hcz10_1,hcz10_2,hfz10_0,hfz10_1,hfz10_2⟩:=y3_ BK2;obtain ⟨hcz11_0,hcz11_1,hcz11_2⟩:=x3_ BK3;have hfz11_0:=blk_frozen BK3.out 0;have hfz11_1:=blk_frozen BK3.out 1;have hfz11_2:=blk_frozen BK3.out 2))
 refine bodyPost_ret (results_cell_row rfl _ _ gb3 37 #[.int .i64 (wrap64 (a0_0+a1_0)), .int .i64 (wrap64 (a0_1+a1_1)), .int .i64 (wrap64 (a0_2+a1_2))] (0,0) _ rfl (zw_ BK3) Try.underlying37 rfl (by kernel_rfl)) rfl ?_
 exact ⟨by first|rfl|(simp [errW_none,errW_some]<;>rfl)|(simp [*,errW_none,errW_some]<;>rfl),zl3_ HB GE1 GE2 GE3⟩

def r10_Le.f (a0_0:Int) (a0_1:Int) (a0_2:Int) (a1_0:Int) (a1_1:Int) (a1_2:Int):Option (Bool):=if a0_0≤a1_0 then (if a0_1≤a1_1 then (some (decide (a0_2≤a1_2))) else (some false)) else (some false)
set_option maxHeartbeats 8000000 in
set_option maxRecDepth 100000 in
theorem r10_Le.calls (a0_0:Int) (a0_1:Int) (a0_2:Int) (a1_0:Int) (a1_1:Int) (a1_2:Int) (r:Bool) (w:World) (h:r10_Le.f a0_0 a0_1 a0_2 a1_0 a1_1 a1_2=some r):
  Calls Try.prog 71 #[.agg #[.int .i64 a0_0, .int .i64 a0_1, .int .i64 a0_2], .agg #[.int .i64 a1_0, .int .i64 a1_1, .int .i64 a1_2]] w fun e w'=>e= .returned (.bool r)∧Below w.heap.size w w':=by
 have hu37:=Try.underlying37
 have HB:=am_ (Below.refl w.heap.size w)
 have H:(if a0_0≤a1_0 then (if a0_1≤a1_1 then (some (decide (a0_2≤a1_2))) else (some false)) else (some false))=some r:=h
 clear h
 by_cases c3:a0_0≤a1_0
 rotate_left
 ·rw [if_neg c3] at H
  have c3b0:decide (a0_0≤a1_0)=false:=decide_eq_false c3
  clear c3
  obtain rfl:=Option.some.inj H
  go_enter Try.func71,Try.ntmps71
  go_wp2_with (first|((with_reducible refine gate_dst (N:=2) rfl ?_);refine bx_ (N:=2) (cs:=#[.int .i64 a0_0, .int .i64 a0_1, .int .i64 a0_2]) (t:=37) ?_;intro gb1 hg w15 hbox hb;have BK1:=am_ (hbox);have GW1:=am_ ((zg0_ HB hg:w.heap.size≤gb1));have GE1:=am_ ((zg0_ HB hg:w.heap.size≤gb1));replace HB:=am_ (below_step (zl0_ HB) hb);clear hb hbox hg)|((with_reducible refine gate_dst (N:=3) rfl ?_);refine bx_ (N:=3) (cs:=#[.int .i64 a1_0, .int .i64 a1_1, .int .i64 a1_2]) (t:=37) ?_;intro gb2 hg w16 hbox hb;have BK2:=am_ (hbox);have GW2:=am_ ((zg1_ HB GE1 hg:w.heap.size≤gb2));have GE2:=am_ ((zg1_ HB GE1 hg:w.heap.size≤gb2));replace HB:=am_ (below_step (zl1_ HB GE1) hb);have NB1_2:=am_ ((zn_ BK1 hg:gb1≠gb2));have NB2_1:=am_ ((zm_ BK1 hg:gb2≠gb1));replace BK1:=am_ (blk_below (zb_ BK1) hb);clear hb hbox hg;have hnb17:=NB1_2.out;have hnc17:=NB2_1.out;obtain ⟨hcz18_0,hcz18_1,hcz18_2,hfz18_0,hfz18_1,hfz18_2⟩:=y3_ BK1;obtain ⟨hcz19_0,hcz19_1,hcz19_2⟩:=x3_ BK2;have hfz19_0:=blk_frozen BK2.out 0;have hfz19_1:=blk_frozen BK2.out 1;have hfz19_2:=blk_frozen BK2.out 2))
  go_ret
  exact ⟨by first|rfl|(simp [errW_none,errW_some]<;>rfl)|(simp [*,errW_none,errW_some]<;>rfl),zl2_ HB GE1 GE2⟩

 rw [if_pos c3] at H
 have c3b0:decide (a0_0≤a1_0)=true:=decide_eq_true c3
 clear c3
 by_cases c4:a0_1≤a1_1
 ·rw [if_pos c4] at H
  have c4b0:decide (a0_1≤a1_1)=true:=decide_eq_true c4
  clear c4
  obtain rfl:=Option.some.inj H
  go_enter Try.func71,Try.ntmps71
  go_wp2_with (first|((with_reducible refine gate_dst (N:=2) rfl ?_);refine bx_ (N:=2) (cs:=#[.int .i64 a0_0, .int .i64 a0_1, .int .i64 a0_2]) (t:=37) ?_;intro gb1 hg w5 hbox hb;have BK1:=am_ (hbox);have GW1:=am_ ((zg0_ HB hg:w.heap.size≤gb1));have GE1:=am_ ((zg0_ HB hg:w.heap.size≤gb1));replace HB:=am_ (below_step (zl0_ HB) hb);clear hb hbox hg)|((with_reducible refine gate_dst (N:=3) rfl ?_);refine bx_ (N:=3) (cs:=#[.int .i64 a1_0, .int .i64 a1_1, .int .i64 a1_2]) (t:=37) ?_;intro gb2 hg w6 hbox hb;have BK2:=am_ (hbox);have GW2:=am_ ((zg1_ HB GE1 hg:w.heap.size≤gb2));have GE2:=am_ ((zg1_ HB GE1 hg:w.heap.size≤gb2));replace HB:=am_ (below_step (zl1_ HB GE1) hb);have NB1_2:=am_ ((zn_ BK1 hg:gb1≠gb2));have NB2_1:=am_ ((zm_ BK1 hg:gb2≠gb1));replace BK1:=am_ (blk_below (zb_ BK1) hb);clear hb hbox hg;have hnb7:=NB1_2.out;have hnc7:=NB2_1.out;obtain ⟨hcz8_0,hcz8_1,hcz8_2,hfz8_0,hfz8_1,hfz8_2⟩:=y3_ BK1;obtain ⟨hcz9_0,hcz9_1,hcz9_2⟩:=x3_ BK2;have hfz9_0:=blk_frozen BK2.out 0;have hfz9_1:=blk_frozen BK2.out 1;have hfz9_2:=blk_frozen BK2.out 2))
  go_ret
  exact ⟨by first|rfl|(simp [errW_none,errW_some]<;>rfl)|(simp [*,errW_none,errW_some]<;>rfl),zl2_ HB GE1 GE2⟩
 rw [if_neg c4] at H
 have c4b0:decide (a0_1≤a1_1)=false:=decide_eq_false c4
 clear c4
 obtain rfl:=Option.some.inj H
 go_enter Try.func71,Try.ntmps71
 go_wp2_with (first|((with_reducible refine gate_dst (N:=2) rfl ?_);refine bx_ (N:=2) (cs:=#[.int .i64 a0_0, .int .i64 a0_1, .int .i64 a0_2]) (t:=37) ?_;intro gb1 hg w10 hbox hb;have BK1:=am_ (hbox);have GW1:=am_ ((zg0_ HB hg:w.heap.size≤gb1));have GE1:=am_ ((zg0_ HB hg:w.heap.size≤gb1));replace HB:=am_ (below_step (zl0_ HB) hb);clear hb hbox hg)|((with_reducible refine gate_dst (N:=3) rfl ?_);refine bx_ (N:=3) (cs:=#[.int .i64 a1_0, .int .i64 a1_1, .int .i64 a1_2]) (t:=37) ?_;intro gb2 hg w11 hbox hb;have BK2:=am_ (hbox);have GW2:=am_ ((zg1_ HB GE1 hg:w.heap.size≤gb2));have GE2:=am_ ((zg1_ HB GE1 hg:w.heap.size≤gb2));replace HB:=am_ (below_step (zl1_ HB GE1) hb);have NB1_2:=am_ ((zn_ BK1 hg:gb1≠gb2));have NB2_1:=am_ ((zm_ BK1 hg:gb2≠gb1));replace BK1:=am_ (blk_below (zb_ BK1) hb);clear hb hbox hg;have hnb12:=NB1_2.out;have hnc12:=NB2_1.out;obtain ⟨hcz13_0,hcz13_1,hcz13_2,hfz13_0,hfz13_1,hfz13_2⟩:=y3_ BK1;obtain ⟨hcz14_0,hcz14_1,hcz14_2⟩:=x3_ BK2;have hfz14_0:=blk_frozen BK2.out 0;have hfz14_1:=blk_frozen BK2.out 1;have hfz14_2:=blk_frozen BK2.out 2))
 go_ret
 exact ⟨by first|rfl|(simp [errW_none,errW_some]<;>rfl)|(simp [*,errW_none,errW_some]<;>rfl),zl2_ HB GE1 GE2⟩
mutual
def r10_Check.l0:Nat→List (S39)→Int→Option (Int)
 |0,_,_=>none
 |k+1,x0,x3=>if x3<(x0.length:Int) then (if 0≤x3 then ((r10_MayName.f ((rd_T39 x0 x3).f0)).bind fun t2=>(if t2=true then ((r10_MayVec.f ((rd_T39 x0 x3).f2.f0) ((rd_T39 x0 x3).f2.f1) ((rd_T39 x0 x3).f2.f2)).bind fun t4=>(r10_Check.j1 k x0 x3 (!t4))) else (r10_Check.j1 k x0 x3 true))) else (none)) else (r10_Check.l1 k x0 0)
def r10_Check.j1:Nat→List (S39)→Int→Bool→Option (Int)
 |0,_,_,_=>none
 |k+1,x0,x3,x33=>if x33=true then (some 1) else (if 0≤x3 then (if x3≤(x0.length:Int) then (if x3<(x0.length:Int) then ((r10_wanted.f k (x0.take (x3:Int).toNat) ((rd_T39 x0 x3).f0)).bind fun t10=>(if t10≥0 then (some 3) else (r10_Check.l0 k x0 (wrap64 (x3+1))))) else (none)) else (none)) else (none))
def r10_Check.l1:Nat→List (S39)→Int→Option (Int)
 |0,_,_=>none
 |k+1,x0,x4=>if x4<(x0.length:Int) then (if 0≤x4 then (if ((rd_T39 x0 x4).f1).toList=([]:List UInt8) then (r10_Check.l1 k x0 (wrap64 (x4+1))) else ((r10_wanted.f k x0 ((rd_T39 x0 x4).f1)).bind fun t13=>(if t13<0 then (some 2) else (r10_Check.l1 k x0 (wrap64 (x4+1)))))) else (none)) else (r10_Check.l2 k x0 0)
def r10_Check.l2:Nat→List (S39)→Int→Option (Int)
 |0,_,_=>none
 |k+1,x0,x5=>if x5<(x0.length:Int) then (if 0≤x5 then ((r10_Depth.f k x0 ((rd_T39 x0 x5).f0)).bind fun t15=>(if t15<1 then (some 10) else (r10_Check.l2 k x0 (wrap64 (x5+1))))) else (none)) else (r10_Check.l3 k x0 0)
def r10_Check.l3:Nat→List (S39)→Int→Option (Int)
 |0,_,_=>none
 |k+1,x0,x6=>if x6<(x0.length:Int) then (r10_Check.l4 k x0 x6 0 0 0 0) else (some 0)
def r10_Check.l4:Nat→List (S39)→Int→Int→Int→Int→Int→Option (Int)
 |0,_,_,_,_,_,_=>none
 |k+1,x0,x6,x8,x17000,x17001,x17002=>if x8<(x0.length:Int) then (if 0≤x8 then (if 0≤x6 then (if x6<(x0.length:Int) then (if ((rd_T39 x0 x8).f1).toList=((rd_T39 x0 x6).f0).toList then ((r10_Add.f x17000 x17001 x17002 ((rd_T39 x0 x8).f2.f0) ((rd_T39 x0 x8).f2.f1) ((rd_T39 x0 x8).f2.f2)).bind fun bt20=>(r10_Check.l4 k x0 x6 (wrap64 (x8+1)) bt20.1 bt20.2.1 bt20.2.2)) else (r10_Check.l4 k x0 x6 (wrap64 (x8+1)) x17000 x17001 x17002)) else (none)) else (none)) else (none)) else (if 0≤x6 then (if x6<(x0.length:Int) then ((r10_Le.f x17000 x17001 x17002 ((rd_T39 x0 x6).f2.f0) ((rd_T39 x0 x6).f2.f1) ((rd_T39 x0 x6).f2.f2)).bind fun t24=>(if t24=true then (r10_Check.l3 k x0 (wrap64 (x6+1))) else (some 11))) else (none)) else (none))
end
def r10_Check.f (k:Nat) (l0:List (S39)):Option (Int):=if (l0.length:Int)>120 then (some 4) else (r10_Check.l0 k l0 0)
theorem r10_Check.mono_l: ∀k,(∀y0 y1,LeO (r10_Check.l0 k y0 y1) (r10_Check.l0 (k+1) y0 y1))∧(∀y0 y1 y2,LeO (r10_Check.j1 k y0 y1 y2) (r10_Check.j1 (k+1) y0 y1 y2))∧(∀y0 y1,LeO (r10_Check.l1 k y0 y1) (r10_Check.l1 (k+1) y0 y1))∧(∀y0 y1,LeO (r10_Check.l2 k y0 y1) (r10_Check.l2 (k+1) y0 y1))∧(∀y0 y1,LeO (r10_Check.l3 k y0 y1) (r10_Check.l3 (k+1) y0 y1))∧(∀y0 y1 y2 y3 y4 y5,LeO (r10_Check.l4 k y0 y1 y2 y3 y4 y5) (r10_Check.l4 (k+1) y0 y1 y2 y3 y4 y5))
 |0=>⟨fun _ _ r h=>by simp [r10_Check.l0] at h,fun _ _ _ r h=>by simp [r10_Check.j1] at h,fun _ _ r h=>by simp [r10_Check.l1] at h,fun _ _ r h=>by simp [r10_Check.l2] at h,fun _ _ r h=>by simp [r10_Check.l3] at h,fun _ _ _ _ _ _ r h=>by simp [r10_Check.l4] at h⟩
 |k+1=>by
  obtain ⟨ih0,ih1,ih2,ih3,ih4,ih5⟩:=r10_Check.mono_l k
  refine ⟨?_, ?_, ?_, ?_, ?_, ?_⟩
  ·intro y0 y1
   unfold r10_Check.l0
   repeat' first
   |(with_reducible exact ih0 _ _)
   |(with_reducible exact ih1 _ _ _)
   |(with_reducible exact ih2 _ _)
   |(with_reducible exact ih3 _ _)
   |(with_reducible exact ih4 _ _)
   |(with_reducible exact ih5 _ _ _ _ _ _)
   |(with_reducible exact r10_Depth.mono _ _ _)
   |(with_reducible exact r10_wanted.mono _ _ _)
   |(with_reducible exact LeO.refl _)
   |(with_reducible exact LeO.none _)
   |(with_reducible refine LeO.ite ?_ ?_)
   |(with_reducible refine LeO.bind ?_ (fun _=> ?_))
   |exact ih0 _ _
   |exact ih1 _ _ _
   |exact ih2 _ _
   |exact ih3 _ _
   |exact ih4 _ _
   |exact ih5 _ _ _ _ _ _
   |exact r10_Depth.mono _ _ _
   |exact r10_wanted.mono _ _ _
   |exact LeO.none _
   |refine LeO.ite ?_ ?_
   |refine LeO.bind ?_ (fun _=> ?_)
  ·intro y0 y1 y2
   unfold r10_Check.j1
   repeat' first
   |(with_reducible exact ih0 _ _)
   |(with_reducible exact ih1 _ _ _)
   |(with_reducible exact ih2 _ _)
   |(with_reducible exact ih3 _ _)
   |(with_reducible exact ih4 _ _)
   |(with_reducible exact ih5 _ _ _ _ _ _)
   |(with_reducible exact r10_Depth.mono _ _ _)
   |(with_reducible exact r10_wanted.mono _ _ _)
   |(with_reducible exact LeO.refl _)
   |(with_reducible exact LeO.none _)
   |(with_reducible refine LeO.ite ?_ ?_)
   |(with_reducible refine LeO.bind ?_ (fun _=> ?_))
   |exact ih0 _ _
   |exact ih1 _ _ _
   |exact ih2 _ _
   |exact ih3 _ _
   |exact ih4 _ _
   |exact ih5 _ _ _ _ _ _
   |exact r10_Depth.mono _ _ _
   |exact r10_wanted.mono _ _ _
   |exact LeO.none _
   |refine LeO.ite ?_ ?_
   |refine LeO.bind ?_ (fun _=> ?_)
  ·intro y0 y1
   unfold r10_Check.l1
   repeat' first
   |(with_reducible exact ih0 _ _)
   |(with_reducible exact ih1 _ _ _)
   |(with_reducible exact ih2 _ _)
   |(with_reducible exact ih3 _ _)
   |(with_reducible exact ih4 _ _)
   |(with_reducible exact ih5 _ _ _ _ _ _)
   |(with_reducible exact r10_Depth.mono _ _ _)
   |(with_reducible exact r10_wanted.mono _ _ _)
   |(with_reducible exact LeO.refl _)
   |(with_reducible exact LeO.none _)
   |(with_reducible refine LeO.ite ?_ ?_)
   |(with_reducible refine LeO.bind ?_ (fun _=> ?_))
   |exact ih0 _ _
   |exact ih1 _ _ _
   |exact ih2 _ _
   |exact ih3 _ _
   |exact ih4 _ _
   |exact ih5 _ _ _ _ _ _
   |exact r10_Depth.mono _ _ _
   |exact r10_wanted.mono _ _ _
   |exact LeO.none _
   |refine LeO.ite ?_ ?_
   |refine LeO.bind ?_ (fun _=> ?_)
  ·intro y0 y1
   unfold r10_Check.l2
   repeat' first
   |(with_reducible exact ih0 _ _)
   |(with_reducible exact ih1 _ _ _)
   |(with_reducible exact ih2 _ _)
   |(with_reducible exact ih3 _ _)
   |(with_reducible exact ih4 _ _)
   |(with_reducible exact ih5 _ _ _ _ _ _)
   |(with_reducible exact r10_Depth.mono _ _ _)
   |(with_reducible exact r10_wanted.mono _ _ _)
   |(with_reducible exact LeO.refl _)
   |(with_reducible exact LeO.none _)
   |(with_reducible refine LeO.ite ?_ ?_)
   |(with_reducible refine LeO.bind ?_ (fun _=> ?_))
   |exact ih0 _ _
   |exact ih1 _ _ _
   |exact ih2 _ _
   |exact ih3 _ _
   |exact ih4 _ _
   |exact ih5 _ _ _ _ _ _
   |exact r10_Depth.mono _ _ _
   |exact r10_wanted.mono _ _ _
   |exact LeO.none _
   |refine LeO.ite ?_ ?_
   |refine LeO.bind ?_ (fun _=> ?_)
  ·intro y0 y1
   unfold r10_Check.l3
   repeat' first
   |(with_reducible exact ih0 _ _)
   |(with_reducible exact ih1 _ _ _)
   |(with_reducible exact ih2 _ _)
   |(with_reducible exact ih3 _ _)
   |(with_reducible exact ih4 _ _)
   |(with_reducible exact ih5 _ _ _ _ _ _)
   |(with_reducible exact r10_Depth.mono _ _ _)
   |(with_reducible exact r10_wanted.mono _ _ _)
   |(with_reducible exact LeO.refl _)
   |(with_reducible exact LeO.none _)
   |(with_reducible refine LeO.ite ?_ ?_)
   |(with_reducible refine LeO.bind ?_ (fun _=> ?_))
   |exact ih0 _ _
   |exact ih1 _ _ _
   |exact ih2 _ _
   |exact ih3 _ _
   |exact ih4 _ _
   |exact ih5 _ _ _ _ _ _
   |exact r10_Depth.mono _ _ _
   |exact r10_wanted.mono _ _ _
   |exact LeO.none _
   |refine LeO.ite ?_ ?_
   |refine LeO.bind ?_ (fun _=> ?_)
  intro y0 y1 y2 y3 y4 y5
  unfold r10_Check.l4
  repeat' first
  |(with_reducible exact ih0 _ _)
  |(with_reducible exact ih1 _ _ _)
  |(with_reducible exact ih2 _ _)
  |(with_reducible exact ih3 _ _)
  |(with_reducible exact ih4 _ _)
  |(with_reducible exact ih5 _ _ _ _ _ _)
  |(with_reducible exact r10_Depth.mono _ _ _)
  |(with_reducible exact r10_wanted.mono _ _ _)
  |(with_reducible exact LeO.refl _)
  |(with_reducible exact LeO.none _)
  |(with_reducible refine LeO.ite ?_ ?_)
  |(with_reducible refine LeO.bind ?_ (fun _=> ?_))
  |exact ih0 _ _
  |exact ih1 _ _ _
  |exact ih2 _ _
  |exact ih3 _ _
  |exact ih4 _ _
  |exact ih5 _ _ _ _ _ _
  |exact r10_Depth.mono _ _ _
  |exact r10_wanted.mono _ _ _
  |exact LeO.none _
  |refine LeO.ite ?_ ?_
  |refine LeO.bind ?_ (fun _=> ?_)
theorem r10_Check.mono: ∀a0 k,LeO (r10_Check.f k a0) (r10_Check.f (k+1) a0):=by
 intro a0 k
 obtain ⟨ih0,ih1,ih2,ih3,ih4,ih5⟩:=r10_Check.mono_l k
 unfold r10_Check.f
 repeat' first
  |(with_reducible exact ih0 _ _)
  |(with_reducible exact ih1 _ _ _)
  |(with_reducible exact ih2 _ _)
  |(with_reducible exact ih3 _ _)
  |(with_reducible exact ih4 _ _)
  |(with_reducible exact ih5 _ _ _ _ _ _)
  |(with_reducible exact r10_Depth.mono _ _ _)
  |(with_reducible exact r10_wanted.mono _ _ _)
  |(with_reducible exact LeO.refl _)
  |(with_reducible exact LeO.none _)
  |(with_reducible refine LeO.ite ?_ ?_)
  |(with_reducible refine LeO.bind ?_ (fun _=> ?_))
  |exact ih0 _ _
  |exact ih1 _ _ _
  |exact ih2 _ _
  |exact ih3 _ _
  |exact ih4 _ _
  |exact ih5 _ _ _ _ _ _
  |exact r10_Depth.mono _ _ _
  |exact r10_wanted.mono _ _ _
  |exact LeO.none _
  |refine LeO.ite ?_ ?_
  |refine LeO.bind ?_ (fun _=> ?_)
def r10_Check.T8:Bool×List (List Nat×List Nat):=(true,[([],[]),([],[]),([0,1],[0,1]),([],[]),([],[]),([3,4],[3,4]),([5],[5]),([6],[6]),([2,7],[2,7]),([8],[8])])
def r10_Check.B8:List Nat:=[0,0,3,0,0,24,56,120,255,511]
theorem r10_Check.tab8:rtab .any (opsOf Try.f24 8)=r10_Check.T8:=by kernel_rfl
theorem r10_Check.bits8:waitsOk r10_Check.T8.2 r10_Check.B8=true:=by kernel_rfl
def r10_Check.T27:Bool×List (List Nat×List Nat):=(true,[([],[]),([],[]),([0,1],[0,1]),([2],[2]),([3],[3]),([],[]),([],[]),([5,6],[5,6]),([7],[7]),([8],[8]),([4,9],[4,9])])
def r10_Check.B27:List Nat:=[0,0,3,7,15,0,0,96,224,480,1023]
theorem r10_Check.tab27:rtab .any (opsOf Try.f24 27)=r10_Check.T27:=by kernel_rfl
theorem r10_Check.bits27:waitsOk r10_Check.T27.2 r10_Check.B27=true:=by kernel_rfl
def r10_Check.T28:Bool×List (List Nat×List Nat):=(true,[([],[]),([],[]),([],[]),([1,2],[1,2]),([3],[3]),([4],[4]),([0,5],[0,5]),([6,6,0,1,2,3,4,5,6],[6])])
def r10_Check.B28:List Nat:=[0,0,0,6,14,30,63,127]
theorem r10_Check.tab28:rtab .any (opsOf Try.f24 28)=r10_Check.T28:=by kernel_rfl
theorem r10_Check.bits28:waitsOk r10_Check.T28.2 r10_Check.B28=true:=by kernel_rfl
def r10_Check.T29:Bool×List (List Nat×List Nat):=(true,[([],[]),([],[]),([],[]),([1,2],[1,2]),([3],[3]),([4],[4]),([0,5],[0,5]),([6],[6])])
def r10_Check.B29:List Nat:=[0,0,0,6,14,30,63,127]
theorem r10_Check.tab29:rtab .any (opsOf Try.f24 29)=r10_Check.T29:=by kernel_rfl
theorem r10_Check.bits29:waitsOk r10_Check.T29.2 r10_Check.B29=true:=by kernel_rfl
set_option maxHeartbeats 8000000 in
set_option maxRecDepth 100000 in
theorem r10_Check.calls (k:Nat) (A0:Option Addr) (c0:Nat) (l0:List (S39)) (r:Int) (w:World) (hr0:Kd.C k39 w A0 l0.length l0) (hc0:l0.length≤c0) (h:r10_Check.f k l0=some r):
  Calls Try.prog 24 #[.slice A0 l0.length c0] w fun e w'=>e= .returned (.int .i64 r)∧Below w.heap.size w w':=by
 have hu37:=Try.underlying37
 have HR0:=Aside0.mk hr0
 have HC0:=Aside0.mk hc0
 clear hr0 hc0
 have HB:=am_ (Below.refl w.heap.size w)
 have H:(if (l0.length:Int)>120 then (some 4) else (r10_Check.l0 k l0 0))=some r:=h
 clear h
 by_cases c2:(l0.length:Int)>120
 ·rw [if_pos c2] at H
  have c2b0:decide (120<(l0.length:Int))=true:=decide_eq_true c2
  have c2b1:decide (120<l0.length)=true:=decide_eq_true (by omega)
  clear c2
  obtain rfl:=Option.some.inj H
  go_enter Try.func24,Try.ntmps24
  go_wp2
  go_ret
  exact ⟨by first|rfl|(simp [errW_none,errW_some]<;>rfl)|(simp [*,errW_none,errW_some]<;>rfl),zl0_ HB⟩
 rw [if_neg c2] at H
 have c2b0:decide (120<(l0.length:Int))=false:=decide_eq_false c2
 have c2b1:decide (120<l0.length)=false:=decide_eq_false (by omega)
 clear c2
 have H':=Aside0.mk H
 clear H
 go_enter Try.func24,Try.ntmps24
 go_wp2
 go_loopg [3] k (fun kq v3 w'=> ∃(x3_1:Int),v3= .int .i64 x3_1∧Aside0 (r10_Check.l0 kq l0 x3_1=some r)∧Aside0 (kq≤k)∧Aside0 (Below w.heap.size w w'))
 case atStart=>exact ⟨(0),(by first|rfl|(simp;done)|(simp [*];done)),H',⟨Nat.le_refl _⟩,⟨zl0_ HB⟩⟩
 case round=>
  clear H'
  try clear c2
  try clear c2b0
  try clear c2b1
  try clear p2
  obtain ⟨x3_1,rfl,HA,HK1,HB⟩:=hrel
  cases gk with
  |zero=>exact absurd HA.out (by simp [r10_Check.l0])
  |succ k1=>
   have H:=HA.out
   clear HA
   simp only [r10_Check.l0] at H
   by_cases c3:x3_1<(l0.length:Int)
   ·rw [if_pos c3] at H
    have c3b0:decide (x3_1<(l0.length:Int))=true:=decide_eq_true c3
    clear c3
    have HC4:=Aside0.mk H
    clear H
    go_upto_region 6 with (fail)
    go_cut [33] (fun v33 wc=> ∃(kq:Nat) (x33_3:Bool),v33= .bool x33_3∧Aside0 (r10_Check.j1 kq l0 x3_1 x33_3=some r)∧Aside0 (kq≤k1)∧Aside0 (Below w.heap.size w wc))
    case first=>
     have H:=HC4.out
     clear HC4
     by_cases c5:0≤x3_1
     rotate_left
     ·rw [if_neg c5] at H
      exact absurd H (by simp)
     rw [if_pos c5] at H
     have c5b0:decide (0≤x3_1)=true:=decide_eq_true c5
     clear c5
     (first|rw [c5b0]|(simp only [i64_w,i32_w];rw [c5b0])|skip)
     replace H:=Option.bind_eq_some_iff.mp H
     obtain ⟨t2,A60,H⟩:=H
     try dsimp only at H
     have A6:=Aside0.mk A60
     clear A60
     by_cases c7:t2=true
     rotate_left
     ·replace c7:=Bool.eq_false_iff.mpr c7
      subst c7
      have H1:(r10_Check.j1 k1 l0 x3_1 true)=some r:=by rw [if_neg (show¬(false=true) by decide)] at H;exact H
      clear H
      have H:=H1
      clear H1
      have H':=Aside0.mk H
      clear H
      have p1:0≤(x3_1:Int):=of_decide_eq_true zq_
      have q1:x3_1<(l0.length:Int):=of_decide_eq_true zq_
      obtain ⟨ad1,e1,hx1_0,hx1_1,hx1_2,hx1_3,hx1_4⟩:=at_T39 HR0.out x3_1 p1 q1
      cases e1
      replace hx1_0:=zx_ HB hx1_0
      replace hx1_1:=zx_ HB hx1_1
      replace hx1_2:=zx_ HB hx1_2
      replace hx1_3:=zx_ HB hx1_3
      replace hx1_4:=zx_ HB hx1_4
      replace p1:=eq_true p1
      replace q1:=eq_true q1
      go_wp2_with (first|((with_reducible refine gate_callee (f:=67) rfl ?_);refine gl_ (some 23) Try.func67 #[.string ((rd_T39 l0 x3_1).f0)] ?_;(with_reducible refine (r10_MayName.calls ((rd_T39 l0 x3_1).f0) false _ A6.out).mono ?_);rintro e w' ⟨rfl,⟨nd,rfl⟩⟩;refine ⟨_,rfl, ?_⟩))
      go_meet
      case rel=>exact ⟨_,(true),(by first|rfl|(simp;done)|(simp [*];done)),H',⟨by have:=HK1.out;first|omega|exact Nat.le_refl _⟩,⟨zl0_ HB⟩⟩
     subst c7
     have H1:((r10_MayVec.f ((rd_T39 l0 x3_1).f2.f0) ((rd_T39 l0 x3_1).f2.f1) ((rd_T39 l0 x3_1).f2.f2)).bind fun t4=>(r10_Check.j1 k1 l0 x3_1 (!t4)))=some r:=by rw [if_pos rfl] at H;exact H
     clear H
     have H:=H1
     clear H1
     replace H:=Option.bind_eq_some_iff.mp H
     obtain ⟨t4,A80,H⟩:=H
     try dsimp only at H
     have A8:=Aside0.mk A80
     clear A80
     have H':=Aside0.mk H
     clear H
     have p1:0≤(x3_1:Int):=of_decide_eq_true zq_
     have q1:x3_1<(l0.length:Int):=of_decide_eq_true zq_
     obtain ⟨ad1,e1,hx1_0,hx1_1,hx1_2,hx1_3,hx1_4⟩:=at_T39 HR0.out x3_1 p1 q1
     cases e1
     replace hx1_0:=zx_ HB hx1_0
     replace hx1_1:=zx_ HB hx1_1
     replace hx1_2:=zx_ HB hx1_2
     replace hx1_3:=zx_ HB hx1_3
     replace hx1_4:=zx_ HB hx1_4
     replace p1:=eq_true p1
     replace q1:=eq_true q1
     go_wp2_with (first|((with_reducible refine gate_callee (f:=67) rfl ?_);refine gl_ (some 23) Try.func67 #[.string ((rd_T39 l0 x3_1).f0)] ?_;(with_reducible refine (r10_MayName.calls ((rd_T39 l0 x3_1).f0) true _ A6.out).mono ?_);rintro e w' ⟨rfl,⟨nd,rfl⟩⟩;refine ⟨_,rfl, ?_⟩;have p3:0≤(x3_1:Int):=of_decide_eq_true zq_;have q3:x3_1<(l0.length:Int):=of_decide_eq_true zq_;obtain ⟨ad3,e3,hx3_0,hx3_1,hx3_2,hx3_3,hx3_4⟩:=at_T39 HR0.out x3_1 p3 q3;obtain rfl:ad1=ad3:=(by injection e3);replace hx3_0:=zx_ HB hx3_0;replace hx3_1:=zx_ HB hx3_1;replace hx3_2:=zx_ HB hx3_2;replace hx3_3:=zx_ HB hx3_3;replace hx3_4:=zx_ HB hx3_4;replace p3:=eq_true p3;replace q3:=eq_true q3)|(go_at_call 68;(with_reducible refine (r10_MayVec.calls ((rd_T39 l0 x3_1).f2.f0) ((rd_T39 l0 x3_1).f2.f1) ((rd_T39 l0 x3_1).f2.f2) t4 _ A8.out).mono ?_);rintro e w9 ⟨rfl,hb⟩;replace HB:=am_ (below_step (zl0_ HB) hb);(try clear hb);(try clear hb2);(try clear hk);(try clear hi)))
     go_meet
     case rel=>exact ⟨_,(!t4),(by first|rfl|(simp;done)|(simp [*];done)),H',⟨by have:=HK1.out;first|omega|exact Nat.le_refl _⟩,⟨zl0_ HB⟩⟩
    case rest=>
     clear HC4
     try clear p1
     try clear q1
     try clear hx1
     try clear c2
     try clear c2b0
     try clear c2b1
     try clear p2
     try clear c3
     try clear c3b0
     try clear p3
     try clear q3
     try clear hx3
     try clear c5
     try clear c5b0
     try clear c6
     try clear c7
     try clear hx1_0
     try clear hx1_1
     try clear hx1_2
     try clear hx1_3
     try clear hx1_4
     try clear hx3_0
     try clear hx3_1
     try clear hx3_2
     try clear hx3_3
     try clear hx3_4
     try clear p1
     try clear p2
     try clear p3
     try clear q1
     try clear q3
     obtain ⟨kq,x33_3,rfl,HA,HJ3,HB⟩:=hcut
     cases kq with
     |zero=>exact absurd HA.out (by simp [r10_Check.j1])
     |succ kj3=>
      have H:=HA.out
      clear HA
      simp only [r10_Check.j1] at H
      by_cases c10:x33_3=true
      ·subst c10
       have H1:(some 1)=some r:=by rw [if_pos rfl] at H;exact H
       clear H
       have H:=H1
       clear H1
       obtain rfl:=Option.some.inj H
       go_wp2
       go_ret
       exact ⟨by first|rfl|(simp [errW_none,errW_some]<;>rfl)|(simp [*,errW_none,errW_some]<;>rfl),zl0_ HB⟩
      replace c10:=Bool.eq_false_iff.mpr c10
      subst c10
      have H1:(if 0≤x3_1 then (if x3_1≤(l0.length:Int) then (if x3_1<(l0.length:Int) then ((r10_wanted.f kj3 (l0.take (x3_1:Int).toNat) ((rd_T39 l0 x3_1).f0)).bind fun t10=>(if t10≥0 then (some 3) else (r10_Check.l0 kj3 l0 (wrap64 (x3_1+1))))) else (none)) else (none)) else (none))=some r:=by rw [if_neg (show¬(false=true) by decide)] at H;exact H
      clear H
      have H:=H1
      clear H1
      by_cases c11:0≤x3_1
      rotate_left
      ·rw [if_neg c11] at H
       exact absurd H (by simp)
      rw [if_pos c11] at H
      have c11b0:=eq_true c11
      have c11b1:decide (0≤x3_1)=true:=decide_eq_true c11
      clear c11
      by_cases c12:x3_1≤(l0.length:Int)
      rotate_left
      ·rw [if_neg c12] at H
       exact absurd H (by simp)
      rw [if_pos c12] at H
      have c12b0:=eq_true c12
      have c12b1:decide (x3_1≤(l0.length:Int))=true:=decide_eq_true c12
      clear c12
      obtain ⟨y5,hy5⟩: ∃y_:List (S39),y_=(l0.take (x3_1:Int).toNat):=⟨_,rfl⟩
      replace H:(if x3_1<(l0.length:Int) then ((r10_wanted.f kj3 y5 ((rd_T39 l0 x3_1).f0)).bind fun t10=>(if t10≥0 then (some 3) else (r10_Check.l0 kj3 l0 (wrap64 (x3_1+1))))) else (none))=some r:=by first|(rw [hy5];with_reducible exact H)|(have H2_:=(Option.bind_some _ _).symm.trans H;rw [hy5];with_reducible exact H2_)|(have H2_:=(Option.bind_some _ _).symm.trans H;with_reducible exact H2_)|with_reducible exact H|(rw [hy5];exact H)|exact H
      have Ny5:=Aside0.mk hy5
      clear hy5
      by_cases c13:x3_1<(l0.length:Int)
      rotate_left
      ·rw [if_neg c13] at H
       exact absurd H (by simp)
      rw [if_pos c13] at H
      have c13b0:decide (x3_1<(l0.length:Int))=true:=decide_eq_true c13
      clear c13
      replace H:=Option.bind_eq_some_iff.mp H
      obtain ⟨t10,A140,H⟩:=H
      try dsimp only at H
      have A14:=Aside0.mk A140
      clear A140
      by_cases c15:t10≥0
      ·rw [if_pos c15] at H
       have c15b0:decide (0≤t10)=true:=decide_eq_true c15
       clear c15
       obtain rfl:=Option.some.inj H
       try go_wp2
       replace HB:=am_ (below_drew1 HB.out)
       have q17:(x3_1:Int)≤((l0.length:Int):Int):=of_decide_eq_true zq_
       obtain ⟨i017,hi017,_,hsz17,_⟩:=info_parts info39
       have hroom17:l0.length≤c0:=HC0.out
       have hC17:Kd.C k39 _ A0 l0.length l0:=HR0.out
       have hcut17:=cut_to (P:=Try.prog) 22 39 .i64 Try.underlying22 hi017 A0 l0.length c0 x3_1 (of_decide_eq_true zq_) q17 hroom17
       have hr17:=Kd.C_take (m:=(x3_1:Int).toNat) hC17 (by omega)
       have hy17:y5.length=(x3_1:Int).toNat:=(by rw [Ny5.out,List.length_take];omega)
       rw [←Ny5.out] at hr17
       rw [←hy17] at hcut17
       have HR8:=Aside0.mk hr17
       have HC8:=am_ (show y5.length≤c0 from by omega)
       clear hr17 hC17 hroom17 hi017 hsz17
       have KY17:=Aside0.mk hy17
       clear hy17
       replace q17:=eq_true q17
       have p9:0≤(x3_1:Int):=of_decide_eq_true zq_
       have q9:x3_1<(l0.length:Int):=of_decide_eq_true zq_
       obtain ⟨ad9,e9,hx9_0,hx9_1,hx9_2,hx9_3,hx9_4⟩:=at_T39 HR0.out x3_1 p9 q9
       have hw9_4:=hx9_4
       have hw9_3:=hx9_3
       have hw9_2:=hx9_2
       have hw9_1:=hx9_1
       have hw9_0:=hx9_0
       cases e9
       replace hx9_0:=zx_ HB hx9_0
       replace hx9_1:=zx_ HB hx9_1
       replace hx9_2:=zx_ HB hx9_2
       replace hx9_3:=zx_ HB hx9_3
       replace hx9_4:=zx_ HB hx9_4
       replace p9:=eq_true p9
       replace q9:=eq_true q9
       refine start_ (n:=10) (S:=fun w'=>w'.cell? (ad9.add ((x3_1).toNat*5))=some (.string ((rd_T39 l0 x3_1).f0))∧w'.cell? ⟨(ad9.add ((x3_1).toNat*5)).block,(ad9.add ((x3_1).toNat*5)).off+1,none⟩=some (.string ((rd_T39 l0 x3_1).f1))∧w'.cell? ⟨(ad9.add ((x3_1).toNat*5)).block,(ad9.add ((x3_1).toNat*5)).off+2,none⟩=some (.int .i64 ((rd_T39 l0 x3_1).f2.f0))∧w'.cell? ⟨(ad9.add ((x3_1).toNat*5)).block,(ad9.add ((x3_1).toNat*5)).off+3,none⟩=some (.int .i64 ((rd_T39 l0 x3_1).f2.f1))∧w'.cell? ⟨(ad9.add ((x3_1).toNat*5)).block,(ad9.add ((x3_1).toNat*5)).off+4,none⟩=some (.int .i64 ((rd_T39 l0 x3_1).f2.f2))) (ds:=[]) (bt_ 10 0) (by kernel_rfl) rfl rfl ⟨(zx_ HB hw9_0:),(zx_ HB hw9_1:),(zx_ HB hw9_2:),(zx_ HB hw9_3:),(zx_ HB hw9_4:)⟩ (fun hHeld=> ?_);refine with_tabW r10_Check.tab8 r10_Check.bits8 (fun HT_ HW_=> ?_)
       generalize wc.drew=w16 at HB HR8 hx9_0 hx9_1 hx9_2 hx9_3 hx9_4 hHeld ⊢
       refine pu_ (i:=0) (N:=some 34) (bt_ 10 1) HT_ ?_
       refine pu_ (i:=1) (N:=some 35) (bt_ 10 3) HT_ ?_
       refine pu_ (i:=2) (N:=some 36) (bt_ 10 7) HT_ ?_
       refine pu_ (i:=3) (N:=some 37) (bt_ 10 15) HT_ ?_
       refine pu_ (i:=4) (N:=some 38) (bt_ 10 31) HT_ ?_
       refine pu_ (i:=5) (N:=some 39) (bt_ 10 63) HT_ ?_
       refine pu_ (i:=6) (N:=some 40) (bt_ 10 127) HT_ ?_
       refine tk_ (i:=7) (N:=some 41) (bt_ 10 255) HT_ HW_ hHeld ?_
       refine on_ (i:=8) (N:=some 42) (bt_ 10 511) HT_ (fun K hK=> ?_)
       refine gs_ Try.func69 #[.slice (some ad9) y5.length c0, .string ((rd_T39 l0 x3_1).f0)] ?_
       with_reducible refine (r10_wanted.calls kj3 _ _ y5 ((rd_T39 l0 x3_1).f0) t10 _ ?side1 ?side2 A14.out).mono ?_
       (case side1=>exact zc_ (Kd.C_below HR8.out HB.out))
       (case side2=>exact HC8.out)
       rintro e w' ⟨rfl,⟨nd,rfl⟩⟩
       refine ⟨_,rfl, ?_⟩
       refine hK.out _ _ ⟨(zx_ HB hw9_0:),(zx_ HB hw9_1:),(zx_ HB hw9_2:),(zx_ HB hw9_3:),(zx_ HB hw9_4:)⟩ (fun hHeld=> ?_)
       clear hK K
       refine no_ (N:=some 42) ?_
       refine pu_ (i:=9) (N:=some 43) (bt_ 10 1023) HT_ ?_
       refine done_ (done_of HT_.out (by kernel_rfl)) ?_
       try go_wp2
       go_ret
       exact ⟨by first|rfl|(simp [errW_none,errW_some]<;>rfl)|(simp [*,errW_none,errW_some]<;>rfl),zl0_ HB⟩
      rw [if_neg c15] at H
      have c15b0:decide (0≤t10)=false:=decide_eq_false c15
      clear c15
      have H':=Aside0.mk H
      clear H
      try go_wp2
      replace HB:=am_ (below_drew1 HB.out)
      have q19:(x3_1:Int)≤((l0.length:Int):Int):=of_decide_eq_true zq_
      obtain ⟨i019,hi019,_,hsz19,_⟩:=info_parts info39
      have hroom19:l0.length≤c0:=HC0.out
      have hC19:Kd.C k39 _ A0 l0.length l0:=HR0.out
      have hcut19:=cut_to (P:=Try.prog) 22 39 .i64 Try.underlying22 hi019 A0 l0.length c0 x3_1 (of_decide_eq_true zq_) q19 hroom19
      have hr19:=Kd.C_take (m:=(x3_1:Int).toNat) hC19 (by omega)
      have hy19:y5.length=(x3_1:Int).toNat:=(by rw [Ny5.out,List.length_take];omega)
      rw [←Ny5.out] at hr19
      rw [←hy19] at hcut19
      have HR8:=Aside0.mk hr19
      have HC8:=am_ (show y5.length≤c0 from by omega)
      clear hr19 hC19 hroom19 hi019 hsz19
      have KY19:=Aside0.mk hy19
      clear hy19
      replace q19:=eq_true q19
      have p9:0≤(x3_1:Int):=of_decide_eq_true zq_
      have q9:x3_1<(l0.length:Int):=of_decide_eq_true zq_
      obtain ⟨ad9,e9,hx9_0,hx9_1,hx9_2,hx9_3,hx9_4⟩:=at_T39 HR0.out x3_1 p9 q9
      have hw9_4:=hx9_4
      have hw9_3:=hx9_3
      have hw9_2:=hx9_2
      have hw9_1:=hx9_1
      have hw9_0:=hx9_0
      cases e9
      replace hx9_0:=zx_ HB hx9_0
      replace hx9_1:=zx_ HB hx9_1
      replace hx9_2:=zx_ HB hx9_2
      replace hx9_3:=zx_ HB hx9_3
      replace hx9_4:=zx_ HB hx9_4
      replace p9:=eq_true p9
      replace q9:=eq_true q9
      refine start_ (n:=10) (S:=fun w'=>w'.cell? (ad9.add ((x3_1).toNat*5))=some (.string ((rd_T39 l0 x3_1).f0))∧w'.cell? ⟨(ad9.add ((x3_1).toNat*5)).block,(ad9.add ((x3_1).toNat*5)).off+1,none⟩=some (.string ((rd_T39 l0 x3_1).f1))∧w'.cell? ⟨(ad9.add ((x3_1).toNat*5)).block,(ad9.add ((x3_1).toNat*5)).off+2,none⟩=some (.int .i64 ((rd_T39 l0 x3_1).f2.f0))∧w'.cell? ⟨(ad9.add ((x3_1).toNat*5)).block,(ad9.add ((x3_1).toNat*5)).off+3,none⟩=some (.int .i64 ((rd_T39 l0 x3_1).f2.f1))∧w'.cell? ⟨(ad9.add ((x3_1).toNat*5)).block,(ad9.add ((x3_1).toNat*5)).off+4,none⟩=some (.int .i64 ((rd_T39 l0 x3_1).f2.f2))) (ds:=[]) (bt_ 10 0) (by kernel_rfl) rfl rfl ⟨(zx_ HB hw9_0:),(zx_ HB hw9_1:),(zx_ HB hw9_2:),(zx_ HB hw9_3:),(zx_ HB hw9_4:)⟩ (fun hHeld=> ?_);refine with_tabW r10_Check.tab8 r10_Check.bits8 (fun HT_ HW_=> ?_)
      generalize wc.drew=w18 at HB HR8 hx9_0 hx9_1 hx9_2 hx9_3 hx9_4 hHeld ⊢
      refine pu_ (i:=0) (N:=some 34) (bt_ 10 1) HT_ ?_
      refine pu_ (i:=1) (N:=some 35) (bt_ 10 3) HT_ ?_
      refine pu_ (i:=2) (N:=some 36) (bt_ 10 7) HT_ ?_
      refine pu_ (i:=3) (N:=some 37) (bt_ 10 15) HT_ ?_
      refine pu_ (i:=4) (N:=some 38) (bt_ 10 31) HT_ ?_
      refine pu_ (i:=5) (N:=some 39) (bt_ 10 63) HT_ ?_
      refine pu_ (i:=6) (N:=some 40) (bt_ 10 127) HT_ ?_
      refine tk_ (i:=7) (N:=some 41) (bt_ 10 255) HT_ HW_ hHeld ?_
      refine on_ (i:=8) (N:=some 42) (bt_ 10 511) HT_ (fun K hK=> ?_)
      refine gs_ Try.func69 #[.slice (some ad9) y5.length c0, .string ((rd_T39 l0 x3_1).f0)] ?_
      with_reducible refine (r10_wanted.calls kj3 _ _ y5 ((rd_T39 l0 x3_1).f0) t10 _ ?side1 ?side2 A14.out).mono ?_
      (case side1=>exact zc_ (Kd.C_below HR8.out HB.out))
      (case side2=>exact HC8.out)
      rintro e w' ⟨rfl,⟨nd,rfl⟩⟩
      refine ⟨_,rfl, ?_⟩
      refine hK.out _ _ ⟨(zx_ HB hw9_0:),(zx_ HB hw9_1:),(zx_ HB hw9_2:),(zx_ HB hw9_3:),(zx_ HB hw9_4:)⟩ (fun hHeld=> ?_)
      clear hK K
      refine no_ (N:=some 42) ?_
      refine pu_ (i:=9) (N:=some 43) (bt_ 10 1023) HT_ ?_
      refine done_ (done_of HT_.out (by kernel_rfl)) ?_
      try go_wp2
      go_roundg kj3
      case measure=>have:=HK1.out;have:=HJ3.out;omega
      case rel=>exact ⟨(wrap64 (x3_1+1)),(by first|rfl|(simp;done)|(simp [*];done)),H',⟨by have:=HK1.out;have:=HJ3.out;omega⟩,⟨zl0_ HB⟩⟩
   rw [if_neg c3] at H
   have c3b0:decide (x3_1<(l0.length:Int))=false:=decide_eq_false c3
   clear c3
   have H':=Aside0.mk H
   clear H
   go_wp2
   go_loopg [4] k1 (fun kq v4 w'=> ∃(x4_2:Int),v4= .int .i64 x4_2∧Aside0 (r10_Check.l1 kq l0 x4_2=some r)∧Aside0 (kq≤k1)∧Aside0 (Below w.heap.size w w'))
   case atStart=>exact ⟨(0),(by first|rfl|(simp;done)|(simp [*];done)),H',⟨Nat.le_refl _⟩,⟨zl0_ HB⟩⟩
   case round=>
    clear H'
    try clear c1
    try clear p1
    try clear q1
    try clear hx1
    try clear c2
    try clear c2b0
    try clear c2b1
    try clear p2
    try clear c3
    try clear c3b0
    try clear p3
    try clear q3
    try clear hx3
    try clear c5
    try clear c5b0
    try clear c6
    try clear p6
    try clear c7
    try clear p9
    try clear q9
    try clear hx9
    try clear c10
    try clear c11
    try clear c11b0
    try clear c11b1
    try clear c12
    try clear c12b0
    try clear c12b1
    try clear c13
    try clear c13b0
    try clear c15
    try clear c15b0
    try clear q17
    try clear q19
    try clear hx1_0
    try clear hx1_1
    try clear hx1_2
    try clear hx1_3
    try clear hx1_4
    try clear hx3_0
    try clear hx3_1
    try clear hx3_2
    try clear hx3_3
    try clear hx3_4
    try clear hx9_0
    try clear hx9_1
    try clear hx9_2
    try clear hx9_3
    try clear hx9_4
    try clear p1
    try clear p2
    try clear p3
    try clear p9
    try clear q1
    try clear q17
    try clear q19
    try clear q3
    try clear q9
    obtain ⟨x4_2,rfl,HA,HK2,HB⟩:=hrel
    cases gk with
    |zero=>exact absurd HA.out (by simp [r10_Check.l1])
    |succ k2=>
     have H:=HA.out
     clear HA
     simp only [r10_Check.l1] at H
     by_cases c20:x4_2<(l0.length:Int)
     ·rw [if_pos c20] at H
      have c20b0:decide (x4_2<(l0.length:Int))=true:=decide_eq_true c20
      clear c20
      by_cases c21:0≤x4_2
      rotate_left
      ·rw [if_neg c21] at H
       exact absurd H (by simp)
      rw [if_pos c21] at H
      have c21b0:decide (0≤x4_2)=true:=decide_eq_true c21
      clear c21
      by_cases c22:((rd_T39 l0 x4_2).f1).toList=([]:List UInt8)
      ·rw [if_pos c22] at H
       have c22b0:(((rd_T39 l0 x4_2).f1).toList==([]:List UInt8))=true:=beq_iff_eq.mpr c22
       have c22b1:(((rd_T39 l0 x4_2).f1).toList !=([]:List UInt8))=false:=bne_eq_false_iff_eq.mpr c22
       clear c22
       have H':=Aside0.mk H
       clear H
       have p11:0≤(x4_2:Int):=of_decide_eq_true zq_
       have q11:x4_2<(l0.length:Int):=of_decide_eq_true zq_
       obtain ⟨ad11,e11,hx11_0,hx11_1,hx11_2,hx11_3,hx11_4⟩:=at_T39 HR0.out x4_2 p11 q11
       cases e11
       replace hx11_0:=zx_ HB hx11_0
       replace hx11_1:=zx_ HB hx11_1
       replace hx11_2:=zx_ HB hx11_2
       replace hx11_3:=zx_ HB hx11_3
       replace hx11_4:=zx_ HB hx11_4
       replace p11:=eq_true p11
       replace q11:=eq_true q11
       go_wp2
       go_roundg k2
       case measure=>have:=HK1.out;have:=HK2.out;omega
       case rel=>exact ⟨(wrap64 (x4_2+1)),(by first|rfl|(simp;done)|(simp [*];done)),H',⟨by have:=HK1.out;have:=HK2.out;omega⟩,⟨zl0_ HB⟩⟩
      rw [if_neg c22] at H
      have c22b0:(((rd_T39 l0 x4_2).f1).toList==([]:List UInt8))=false:=beq_eq_false_iff_ne.mpr c22
      have c22b1:(((rd_T39 l0 x4_2).f1).toList !=([]:List UInt8))=true:=bne_iff_ne.mpr c22
      replace H:=Option.bind_eq_some_iff.mp H
      obtain ⟨t13,A230,H⟩:=H
      try dsimp only at H
      have A23:=Aside0.mk A230
      clear A230
      by_cases c24:t13<0
      ·rw [if_pos c24] at H
       have c24b0:decide (t13<0)=true:=decide_eq_true c24
       clear c24
       obtain rfl:=Option.some.inj H
       have p11:0≤(x4_2:Int):=of_decide_eq_true zq_
       have q11:x4_2<(l0.length:Int):=of_decide_eq_true zq_
       obtain ⟨ad11,e11,hx11_0,hx11_1,hx11_2,hx11_3,hx11_4⟩:=at_T39 HR0.out x4_2 p11 q11
       cases e11
       replace hx11_0:=zx_ HB hx11_0
       replace hx11_1:=zx_ HB hx11_1
       replace hx11_2:=zx_ HB hx11_2
       replace hx11_3:=zx_ HB hx11_3
       replace hx11_4:=zx_ HB hx11_4
       replace p11:=eq_true p11
       replace q11:=eq_true q11
       have p12:0≤(x4_2:Int):=of_decide_eq_true zq_
       have q12:x4_2<(l0.length:Int):=of_decide_eq_true zq_
       obtain ⟨ad12,e12,hx12_0,hx12_1,hx12_2,hx12_3,hx12_4⟩:=at_T39 HR0.out x4_2 p12 q12
       obtain rfl:ad11=ad12:=(by injection e12)
       replace hx12_0:=zx_ HB hx12_0
       replace hx12_1:=zx_ HB hx12_1
       replace hx12_2:=zx_ HB hx12_2
       replace hx12_3:=zx_ HB hx12_3
       replace hx12_4:=zx_ HB hx12_4
       replace p12:=eq_true p12
       replace q12:=eq_true q12
       go_wp2_with (first|(go_at_call 69;(with_reducible refine (r10_wanted.calls k2 _ _ l0 ((rd_T39 l0 x4_2).f1) t13 _ ?side1 ?side2 A23.out).mono ?_);(case side1=>exact zc_ (Kd.C_below HR0.out HB.out));(case side2=>exact HC0.out);rintro e w' ⟨rfl,⟨nd,rfl⟩⟩))
       go_ret
       exact ⟨by first|rfl|(simp [errW_none,errW_some]<;>rfl)|(simp [*,errW_none,errW_some]<;>rfl),zl0_ HB⟩
      rw [if_neg c24] at H
      have c24b0:decide (t13<0)=false:=decide_eq_false c24
      clear c24
      have H':=Aside0.mk H
      clear H
      have p11:0≤(x4_2:Int):=of_decide_eq_true zq_
      have q11:x4_2<(l0.length:Int):=of_decide_eq_true zq_
      obtain ⟨ad11,e11,hx11_0,hx11_1,hx11_2,hx11_3,hx11_4⟩:=at_T39 HR0.out x4_2 p11 q11
      cases e11
      replace hx11_0:=zx_ HB hx11_0
      replace hx11_1:=zx_ HB hx11_1
      replace hx11_2:=zx_ HB hx11_2
      replace hx11_3:=zx_ HB hx11_3
      replace hx11_4:=zx_ HB hx11_4
      replace p11:=eq_true p11
      replace q11:=eq_true q11
      have p12:0≤(x4_2:Int):=of_decide_eq_true zq_
      have q12:x4_2<(l0.length:Int):=of_decide_eq_true zq_
      obtain ⟨ad12,e12,hx12_0,hx12_1,hx12_2,hx12_3,hx12_4⟩:=at_T39 HR0.out x4_2 p12 q12
      obtain rfl:ad11=ad12:=(by injection e12)
      replace hx12_0:=zx_ HB hx12_0
      replace hx12_1:=zx_ HB hx12_1
      replace hx12_2:=zx_ HB hx12_2
      replace hx12_3:=zx_ HB hx12_3
      replace hx12_4:=zx_ HB hx12_4
      replace p12:=eq_true p12
      replace q12:=eq_true q12
      go_wp2_with (first|(go_at_call 69;(with_reducible refine (r10_wanted.calls k2 _ _ l0 ((rd_T39 l0 x4_2).f1) t13 _ ?side1 ?side2 A23.out).mono ?_);(case side1=>exact zc_ (Kd.C_below HR0.out HB.out));(case side2=>exact HC0.out);rintro e w' ⟨rfl,⟨nd,rfl⟩⟩))
      go_roundg k2
      case measure=>have:=HK1.out;have:=HK2.out;omega
      case rel=>exact ⟨(wrap64 (x4_2+1)),(by first|rfl|(simp;done)|(simp [*];done)),H',⟨by have:=HK1.out;have:=HK2.out;omega⟩,⟨zl0_ HB⟩⟩
     rw [if_neg c20] at H
     have c20b0:decide (x4_2<(l0.length:Int))=false:=decide_eq_false c20
     clear c20
     have H':=Aside0.mk H
     clear H
     go_wp2
     go_loopg [5] k2 (fun kq v5 w'=> ∃(x5_3:Int),v5= .int .i64 x5_3∧Aside0 (r10_Check.l2 kq l0 x5_3=some r)∧Aside0 (kq≤k2)∧Aside0 (Below w.heap.size w w'))
     case atStart=>exact ⟨(0),(by first|rfl|(simp;done)|(simp [*];done)),H',⟨Nat.le_refl _⟩,⟨zl0_ HB⟩⟩
     case round=>
      clear H'
      try clear c1
      try clear p1
      try clear q1
      try clear hx1
      try clear c2
      try clear c2b0
      try clear c2b1
      try clear p2
      try clear c3
      try clear c3b0
      try clear p3
      try clear q3
      try clear hx3
      try clear c5
      try clear c5b0
      try clear c6
      try clear p6
      try clear c7
      try clear p9
      try clear q9
      try clear hx9
      try clear c10
      try clear c11
      try clear c11b0
      try clear c11b1
      try clear p11
      try clear q11
      try clear hx11
      try clear c12
      try clear c12b0
      try clear c12b1
      try clear p12
      try clear q12
      try clear hx12
      try clear c13
      try clear c13b0
      try clear c15
      try clear c15b0
      try clear q17
      try clear q19
      try clear c20
      try clear c20b0
      try clear c21
      try clear c21b0
      try clear c22
      try clear c22b0
      try clear c22b1
      try clear c24
      try clear c24b0
      try clear hx11_0
      try clear hx11_1
      try clear hx11_2
      try clear hx11_3
      try clear hx11_4
      try clear hx12_0
      try clear hx12_1
      try clear hx12_2
      try clear hx12_3
      try clear hx12_4
      try clear hx1_0
      try clear hx1_1
      try clear hx1_2
      try clear hx1_3
      try clear hx1_4
      try clear hx3_0
      try clear hx3_1
      try clear hx3_2
      try clear hx3_3
      try clear hx3_4
      try clear hx9_0
      try clear hx9_1
      try clear hx9_2
      try clear hx9_3
      try clear hx9_4
      try clear p1
      try clear p11
      try clear p12
      try clear p2
      try clear p3
      try clear p6
      try clear p9
      try clear q1
      try clear q11
      try clear q12
      try clear q17
      try clear q19
      try clear q3
      try clear q9
      obtain ⟨x5_3,rfl,HA,HK3,HB⟩:=hrel
      cases gk with
      |zero=>exact absurd HA.out (by simp [r10_Check.l2])
      |succ k3=>
       have H:=HA.out
       clear HA
       simp only [r10_Check.l2] at H
       by_cases c25:x5_3<(l0.length:Int)
       ·rw [if_pos c25] at H
        have c25b0:decide (x5_3<(l0.length:Int))=true:=decide_eq_true c25
        clear c25
        by_cases c26:0≤x5_3
        rotate_left
        ·rw [if_neg c26] at H
         exact absurd H (by simp)
        rw [if_pos c26] at H
        have c26b0:decide (0≤x5_3)=true:=decide_eq_true c26
        clear c26
        replace H:=Option.bind_eq_some_iff.mp H
        obtain ⟨t15,A270,H⟩:=H
        try dsimp only at H
        have A27:=Aside0.mk A270
        clear A270
        by_cases c28:t15<1
        ·rw [if_pos c28] at H
         have c28b0:decide (t15<1)=true:=decide_eq_true c28
         clear c28
         obtain rfl:=Option.some.inj H
         have p14:0≤(x5_3:Int):=of_decide_eq_true zq_
         have q14:x5_3<(l0.length:Int):=of_decide_eq_true zq_
         obtain ⟨ad14,e14,hx14_0,hx14_1,hx14_2,hx14_3,hx14_4⟩:=at_T39 HR0.out x5_3 p14 q14
         cases e14
         replace hx14_0:=zx_ HB hx14_0
         replace hx14_1:=zx_ HB hx14_1
         replace hx14_2:=zx_ HB hx14_2
         replace hx14_3:=zx_ HB hx14_3
         replace hx14_4:=zx_ HB hx14_4
         replace p14:=eq_true p14
         replace q14:=eq_true q14
         go_wp2_with (first|((with_reducible refine gate_callee (f:=28) rfl ?_);refine gl_ (some 78) Try.func28 #[.slice (some ad14) l0.length c0, .string ((rd_T39 l0 x5_3).f0)] ?_;(with_reducible refine (r10_Depth.calls k3 _ _ l0 ((rd_T39 l0 x5_3).f0) t15 _ ?side1 ?side2 A27.out).mono ?_);(case side1=>exact zc_ (Kd.C_below HR0.out HB.out));(case side2=>exact HC0.out);rintro e w' ⟨rfl,⟨nd,rfl⟩⟩;refine ⟨_,rfl, ?_⟩))
         go_ret
         exact ⟨by first|rfl|(simp [errW_none,errW_some]<;>rfl)|(simp [*,errW_none,errW_some]<;>rfl),zl0_ HB⟩
        rw [if_neg c28] at H
        have c28b0:decide (t15<1)=false:=decide_eq_false c28
        clear c28
        have H':=Aside0.mk H
        clear H
        have p14:0≤(x5_3:Int):=of_decide_eq_true zq_
        have q14:x5_3<(l0.length:Int):=of_decide_eq_true zq_
        obtain ⟨ad14,e14,hx14_0,hx14_1,hx14_2,hx14_3,hx14_4⟩:=at_T39 HR0.out x5_3 p14 q14
        cases e14
        replace hx14_0:=zx_ HB hx14_0
        replace hx14_1:=zx_ HB hx14_1
        replace hx14_2:=zx_ HB hx14_2
        replace hx14_3:=zx_ HB hx14_3
        replace hx14_4:=zx_ HB hx14_4
        replace p14:=eq_true p14
        replace q14:=eq_true q14
        go_wp2_with (first|((with_reducible refine gate_callee (f:=28) rfl ?_);refine gl_ (some 78) Try.func28 #[.slice (some ad14) l0.length c0, .string ((rd_T39 l0 x5_3).f0)] ?_;(with_reducible refine (r10_Depth.calls k3 _ _ l0 ((rd_T39 l0 x5_3).f0) t15 _ ?side1 ?side2 A27.out).mono ?_);(case side1=>exact zc_ (Kd.C_below HR0.out HB.out));(case side2=>exact HC0.out);rintro e w' ⟨rfl,⟨nd,rfl⟩⟩;refine ⟨_,rfl, ?_⟩))
        go_roundg k3
        case measure=>have:=HK1.out;have:=HK2.out;have:=HK3.out;omega
        case rel=>exact ⟨(wrap64 (x5_3+1)),(by first|rfl|(simp;done)|(simp [*];done)),H',⟨by have:=HK1.out;have:=HK2.out;have:=HK3.out;omega⟩,⟨zl0_ HB⟩⟩
       rw [if_neg c25] at H
       have c25b0:decide (x5_3<(l0.length:Int))=false:=decide_eq_false c25
       clear c25
       have H':=Aside0.mk H
       clear H
       go_wp2
       go_loopg [6] k3 (fun kq v6 w'=> ∃(x6_4:Int),v6= .int .i64 x6_4∧Aside0 (r10_Check.l3 kq l0 x6_4=some r)∧Aside0 (kq≤k3)∧Aside0 (Below w.heap.size w w'))
       case atStart=>exact ⟨(0),(by first|rfl|(simp;done)|(simp [*];done)),H',⟨Nat.le_refl _⟩,⟨zl0_ HB⟩⟩
       case round=>
        clear H'
        try clear c1
        try clear p1
        try clear q1
        try clear hx1
        try clear c2
        try clear c2b0
        try clear c2b1
        try clear p2
        try clear c3
        try clear c3b0
        try clear p3
        try clear q3
        try clear hx3
        try clear c5
        try clear c5b0
        try clear c6
        try clear p6
        try clear c7
        try clear p9
        try clear q9
        try clear hx9
        try clear c10
        try clear c11
        try clear c11b0
        try clear c11b1
        try clear p11
        try clear q11
        try clear hx11
        try clear c12
        try clear c12b0
        try clear c12b1
        try clear p12
        try clear q12
        try clear hx12
        try clear c13
        try clear c13b0
        try clear p14
        try clear q14
        try clear hx14
        try clear c15
        try clear c15b0
        try clear q17
        try clear q19
        try clear c20
        try clear c20b0
        try clear c21
        try clear c21b0
        try clear c22
        try clear c22b0
        try clear c22b1
        try clear c24
        try clear c24b0
        try clear c25
        try clear c25b0
        try clear c26
        try clear c26b0
        try clear c28
        try clear c28b0
        try clear hx11_0
        try clear hx11_1
        try clear hx11_2
        try clear hx11_3
        try clear hx11_4
        try clear hx12_0
        try clear hx12_1
        try clear hx12_2
        try clear hx12_3
        try clear hx12_4
        try clear hx14_0
        try clear hx14_1
        try clear hx14_2
        try clear hx14_3
        try clear hx14_4
        try clear hx1_0
        try clear hx1_1
        try clear hx1_2
        try clear hx1_3
        try clear hx1_4
        try clear hx3_0
        try clear hx3_1
        try clear hx3_2
        try clear hx3_3
        try clear hx3_4
        try clear hx9_0
        try clear hx9_1
        try clear hx9_2
        try clear hx9_3
        try clear hx9_4
        try clear p1
        try clear p11
        try clear p12
        try clear p14
        try clear p2
        try clear p3
        try clear p6
        try clear p9
        try clear q1
        try clear q11
        try clear q12
        try clear q14
        try clear q17
        try clear q19
        try clear q3
        try clear q9
        obtain ⟨x6_4,rfl,HA,HK4,HB⟩:=hrel
        cases gk with
        |zero=>exact absurd HA.out (by simp [r10_Check.l3])
        |succ k4=>
         have H:=HA.out
         clear HA
         simp only [r10_Check.l3] at H
         by_cases c29:x6_4<(l0.length:Int)
         rotate_left
         ·rw [if_neg c29] at H
          have c29b0:decide (x6_4<(l0.length:Int))=false:=decide_eq_false c29
          clear c29
          obtain rfl:=Option.some.inj H
          go_wp2
          go_ret
          exact ⟨by first|rfl|(simp [errW_none,errW_some]<;>rfl)|(simp [*,errW_none,errW_some]<;>rfl),zl0_ HB⟩

         rw [if_pos c29] at H
         have c29b0:decide (x6_4<(l0.length:Int))=true:=decide_eq_true c29
         clear c29
         have H':=Aside0.mk H
         clear H
         go_wp2_with (first|((with_reducible refine gate_dst (N:=7) rfl ?_);refine bx_ (N:=7) (cs:=#[.int .i64 0, .int .i64 0, .int .i64 0]) (t:=37) ?_;intro gb16 hg w30 hbox hb;have BK16:=am_ (hbox);have GW16:=am_ ((zg0_ HB hg:w.heap.size≤gb16));have GE16:=am_ ((zg0_ HB hg:w.heap.size≤gb16));replace HB:=am_ (below_step (zl0_ HB) hb);clear hb hbox hg))
         go_loopg [8] k4 (fun kq v8 w'=> ∃(x8_5:Int) (x17000_5:Int) (x17001_5:Int) (x17002_5:Int),v8= .int .i64 x8_5∧Aside0 (r10_Check.l4 kq l0 x6_4 x8_5 x17000_5 x17001_5 x17002_5=some r)∧Aside0 (kq≤k4)∧Aside0 (w'.heap[gb16]?=some (.cells #[.int .i64 x17000_5, .int .i64 x17001_5, .int .i64 x17002_5] 37 (0,0)))∧Aside0 (Below w.heap.size w w'))
         case atStart=>exact ⟨(0),(0),(0),(0),(by first|rfl|(simp;done)|(simp [*];done)),H',⟨Nat.le_refl _⟩,⟨by refine zk_ ?_;exact BK16.out⟩,⟨zl1_ HB GE16⟩⟩
         case round=>
          clear H'
          try clear c1
          try clear p1
          try clear q1
          try clear hx1
          try clear c2
          try clear c2b0
          try clear c2b1
          try clear p2
          try clear c3
          try clear c3b0
          try clear p3
          try clear q3
          try clear hx3
          try clear c5
          try clear c5b0
          try clear c6
          try clear p6
          try clear c7
          try clear p9
          try clear q9
          try clear hx9
          try clear c10
          try clear c11
          try clear c11b0
          try clear c11b1
          try clear p11
          try clear q11
          try clear hx11
          try clear c12
          try clear c12b0
          try clear c12b1
          try clear p12
          try clear q12
          try clear hx12
          try clear c13
          try clear c13b0
          try clear p14
          try clear q14
          try clear hx14
          try clear c15
          try clear c15b0
          try clear q17
          try clear q19
          try clear c20
          try clear c20b0
          try clear c21
          try clear c21b0
          try clear c22
          try clear c22b0
          try clear c22b1
          try clear c24
          try clear c24b0
          try clear c25
          try clear c25b0
          try clear c26
          try clear c26b0
          try clear c28
          try clear c28b0
          try clear c29
          try clear c29b0
          try clear hx11_0
          try clear hx11_1
          try clear hx11_2
          try clear hx11_3
          try clear hx11_4
          try clear hx12_0
          try clear hx12_1
          try clear hx12_2
          try clear hx12_3
          try clear hx12_4
          try clear hx14_0
          try clear hx14_1
          try clear hx14_2
          try clear hx14_3
          try clear hx14_4
          try clear hx1_0
          try clear hx1_1
          try clear hx1_2
          try clear hx1_3
          try clear hx1_4
          try clear hx3_0
          try clear hx3_1
          try clear hx3_2
          try clear hx3_3
          try clear hx3_4
          try clear hx9_0
          try clear hx9_1
          try clear hx9_2
          try clear hx9_3
          try clear hx9_4
          try clear p1
          try clear p11
          try clear p12
          try clear p14
          try clear p2
          try clear p3
          try clear p6
          try clear p9
          try clear q1
          try clear q11
          try clear q12
          try clear q14
          try clear q17
          try clear q19
          try clear q3
          try clear q9
          obtain ⟨x8_5,x17000_5,x17001_5,x17002_5,rfl,HA,HK5,BK16,HB⟩:=hrel
          cases gk with
          |zero=>exact absurd HA.out (by simp [r10_Check.l4])
          |succ k5=>
           have H:=HA.out
           clear HA
           simp only [r10_Check.l4] at H
           by_cases c31:x8_5<(l0.length:Int)
           rotate_left
           ·rw [if_neg c31] at H
            have c31b0:decide (x8_5<(l0.length:Int))=false:=decide_eq_false c31
            clear c31
            by_cases c44:0≤x6_4
            rotate_left
            ·rw [if_neg c44] at H
             exact absurd H (by simp)
            rw [if_pos c44] at H
            have c44b0:decide (0≤x6_4)=true:=decide_eq_true c44
            clear c44
            by_cases c45:x6_4<(l0.length:Int)
            rotate_left
            ·rw [if_neg c45] at H
             exact absurd H (by simp)
            rw [if_pos c45] at H
            have c45b0:decide (x6_4<(l0.length:Int))=true:=decide_eq_true c45
            clear c45
            replace H:=Option.bind_eq_some_iff.mp H
            obtain ⟨t24,A460,H⟩:=H
            try dsimp only at H
            have A46:=Aside0.mk A460
            clear A460
            by_cases c47:t24=true
            ·subst c47
             have H1:(r10_Check.l3 k5 l0 (wrap64 (x6_4+1)))=some r:=by rw [if_pos rfl] at H;exact H
             clear H
             have H:=H1
             clear H1
             have H':=Aside0.mk H
             clear H
             try go_wp2
             replace BK16:=am_ (blk_drew BK16.out)
             replace HB:=am_ (below_drew1 HB.out)
             have p23:0≤(x6_4:Int):=of_decide_eq_true zq_
             have q23:x6_4<(l0.length:Int):=of_decide_eq_true zq_
             obtain ⟨ad23,e23,hx23_0,hx23_1,hx23_2,hx23_3,hx23_4⟩:=at_T39 HR0.out x6_4 p23 q23
             have hw23_4:=hx23_4
             have hw23_3:=hx23_3
             have hw23_2:=hx23_2
             have hw23_1:=hx23_1
             have hw23_0:=hx23_0
             cases e23
             replace hx23_0:=zx_ HB hx23_0
             replace hx23_1:=zx_ HB hx23_1
             replace hx23_2:=zx_ HB hx23_2
             replace hx23_3:=zx_ HB hx23_3
             replace hx23_4:=zx_ HB hx23_4
             replace p23:=eq_true p23
             replace q23:=eq_true q23
             refine start_ (n:=8) (S:=fun w'=>w'.cell? ⟨gb16,0,none⟩=some (.int .i64 x17000_5)∧w'.cell? ⟨gb16,1,none⟩=some (.int .i64 x17001_5)∧w'.cell? ⟨gb16,2,none⟩=some (.int .i64 x17002_5)∧w'.cell? (ad23.add ((x6_4).toNat*5))=some (.string ((rd_T39 l0 x6_4).f0))∧w'.cell? ⟨(ad23.add ((x6_4).toNat*5)).block,(ad23.add ((x6_4).toNat*5)).off+1,none⟩=some (.string ((rd_T39 l0 x6_4).f1))∧w'.cell? ⟨(ad23.add ((x6_4).toNat*5)).block,(ad23.add ((x6_4).toNat*5)).off+2,none⟩=some (.int .i64 ((rd_T39 l0 x6_4).f2.f0))∧w'.cell? ⟨(ad23.add ((x6_4).toNat*5)).block,(ad23.add ((x6_4).toNat*5)).off+3,none⟩=some (.int .i64 ((rd_T39 l0 x6_4).f2.f1))∧w'.cell? ⟨(ad23.add ((x6_4).toNat*5)).block,(ad23.add ((x6_4).toNat*5)).off+4,none⟩=some (.int .i64 ((rd_T39 l0 x6_4).f2.f2))) (ds:=[]) (bt_ 8 0) (by kernel_rfl) rfl rfl ⟨(blk_cell BK16.out 0).trans rfl,(blk_cell BK16.out 1).trans rfl,(blk_cell BK16.out 2).trans rfl,(zx_ HB hw23_0:),(zx_ HB hw23_1:),(zx_ HB hw23_2:),(zx_ HB hw23_3:),(zx_ HB hw23_4:)⟩ (fun hHeld=> ?_);refine with_tabW r10_Check.tab29 r10_Check.bits29 (fun HT_ HW_=> ?_)
             generalize wr.drew=w48 at BK16 HB hx23_0 hx23_1 hx23_2 hx23_3 hx23_4 hHeld ⊢
             refine pu_ (i:=1) (N:=some 111) (bt_ 8 2) HT_ ?_
             refine pu_ (i:=2) (N:=some 112) (bt_ 8 6) HT_ ?_
             refine pu_ (i:=3) (N:=some 113) (bt_ 8 14) HT_ ?_
             refine pu_ (i:=4) (N:=some 114) (bt_ 8 30) HT_ ?_
             refine tk_ (i:=0) (N:=some 110) (bt_ 8 31) HT_ HW_ hHeld ?_
             refine tk_ (i:=5) (N:=some 115) (bt_ 8 63) HT_ HW_ hHeld ?_
             refine on_ (i:=6) (N:=some 116) (bt_ 8 127) HT_ (fun K hK=> ?_)
             refine gs_ Try.func71 #[.agg #[.int .i64 x17000_5, .int .i64 x17001_5, .int .i64 x17002_5], .agg #[.int .i64 ((rd_T39 l0 x6_4).f2.f0), .int .i64 ((rd_T39 l0 x6_4).f2.f1), .int .i64 ((rd_T39 l0 x6_4).f2.f2)]] ?_
             with_reducible refine (r10_Le.calls x17000_5 x17001_5 x17002_5 ((rd_T39 l0 x6_4).f2.f0) ((rd_T39 l0 x6_4).f2.f1) ((rd_T39 l0 x6_4).f2.f2) true _ A46.out).mono ?_
             rintro e w49 ⟨rfl,hb⟩
             refine ⟨_,rfl, ?_⟩
             replace BK16:=am_ (blk_below (zb_ BK16) hb)
             replace HB:=am_ (below_step (zl1_ HB GE16) hb)
             (try clear hb)
             (try clear hb2)
             (try clear hk)
             (try clear hi)
             refine hK.out _ _ ⟨(blk_cell BK16.out 0).trans rfl,(blk_cell BK16.out 1).trans rfl,(blk_cell BK16.out 2).trans rfl,(zx_ HB hw23_0:),(zx_ HB hw23_1:),(zx_ HB hw23_2:),(zx_ HB hw23_3:),(zx_ HB hw23_4:)⟩ (fun hHeld=> ?_)
             clear hK K
             refine no_ (N:=some 116) ?_
             refine pu_ (i:=7) (N:=some 117) (bt_ 8 255) HT_ ?_
             refine done_ (done_of HT_.out (by kernel_rfl)) ?_
             try go_wp2
             go_roundg k5
             case measure=>have:=HK1.out;have:=HK2.out;have:=HK3.out;have:=HK4.out;have:=HK5.out;omega
             case rel=>exact ⟨(wrap64 (x6_4+1)),(by first|rfl|(simp;done)|(simp [*];done)),H',⟨by have:=HK1.out;have:=HK2.out;have:=HK3.out;have:=HK4.out;have:=HK5.out;omega⟩,⟨zl1_ HB GE16⟩⟩
            replace c47:=Bool.eq_false_iff.mpr c47
            subst c47
            have H1:(some 11)=some r:=by rw [if_neg (show¬(false=true) by decide)] at H;exact H
            clear H
            have H:=H1
            clear H1
            obtain rfl:=Option.some.inj H
            try go_wp2
            replace BK16:=am_ (blk_drew BK16.out)
            replace HB:=am_ (below_drew1 HB.out)
            have p23:0≤(x6_4:Int):=of_decide_eq_true zq_
            have q23:x6_4<(l0.length:Int):=of_decide_eq_true zq_
            obtain ⟨ad23,e23,hx23_0,hx23_1,hx23_2,hx23_3,hx23_4⟩:=at_T39 HR0.out x6_4 p23 q23
            have hw23_4:=hx23_4
            have hw23_3:=hx23_3
            have hw23_2:=hx23_2
            have hw23_1:=hx23_1
            have hw23_0:=hx23_0
            cases e23
            replace hx23_0:=zx_ HB hx23_0
            replace hx23_1:=zx_ HB hx23_1
            replace hx23_2:=zx_ HB hx23_2
            replace hx23_3:=zx_ HB hx23_3
            replace hx23_4:=zx_ HB hx23_4
            replace p23:=eq_true p23
            replace q23:=eq_true q23
            refine start_ (n:=8) (S:=fun w'=>w'.cell? ⟨gb16,0,none⟩=some (.int .i64 x17000_5)∧w'.cell? ⟨gb16,1,none⟩=some (.int .i64 x17001_5)∧w'.cell? ⟨gb16,2,none⟩=some (.int .i64 x17002_5)∧w'.cell? (ad23.add ((x6_4).toNat*5))=some (.string ((rd_T39 l0 x6_4).f0))∧w'.cell? ⟨(ad23.add ((x6_4).toNat*5)).block,(ad23.add ((x6_4).toNat*5)).off+1,none⟩=some (.string ((rd_T39 l0 x6_4).f1))∧w'.cell? ⟨(ad23.add ((x6_4).toNat*5)).block,(ad23.add ((x6_4).toNat*5)).off+2,none⟩=some (.int .i64 ((rd_T39 l0 x6_4).f2.f0))∧w'.cell? ⟨(ad23.add ((x6_4).toNat*5)).block,(ad23.add ((x6_4).toNat*5)).off+3,none⟩=some (.int .i64 ((rd_T39 l0 x6_4).f2.f1))∧w'.cell? ⟨(ad23.add ((x6_4).toNat*5)).block,(ad23.add ((x6_4).toNat*5)).off+4,none⟩=some (.int .i64 ((rd_T39 l0 x6_4).f2.f2))) (ds:=[]) (bt_ 8 0) (by kernel_rfl) rfl rfl ⟨(blk_cell BK16.out 0).trans rfl,(blk_cell BK16.out 1).trans rfl,(blk_cell BK16.out 2).trans rfl,(zx_ HB hw23_0:),(zx_ HB hw23_1:),(zx_ HB hw23_2:),(zx_ HB hw23_3:),(zx_ HB hw23_4:)⟩ (fun hHeld=> ?_);refine with_tabW r10_Check.tab29 r10_Check.bits29 (fun HT_ HW_=> ?_)
            generalize wr.drew=w50 at BK16 HB hx23_0 hx23_1 hx23_2 hx23_3 hx23_4 hHeld ⊢
            refine pu_ (i:=1) (N:=some 111) (bt_ 8 2) HT_ ?_
            refine pu_ (i:=2) (N:=some 112) (bt_ 8 6) HT_ ?_
            refine pu_ (i:=3) (N:=some 113) (bt_ 8 14) HT_ ?_
            refine pu_ (i:=4) (N:=some 114) (bt_ 8 30) HT_ ?_
            refine tk_ (i:=0) (N:=some 110) (bt_ 8 31) HT_ HW_ hHeld ?_
            refine tk_ (i:=5) (N:=some 115) (bt_ 8 63) HT_ HW_ hHeld ?_
            refine on_ (i:=6) (N:=some 116) (bt_ 8 127) HT_ (fun K hK=> ?_)
            refine gs_ Try.func71 #[.agg #[.int .i64 x17000_5, .int .i64 x17001_5, .int .i64 x17002_5], .agg #[.int .i64 ((rd_T39 l0 x6_4).f2.f0), .int .i64 ((rd_T39 l0 x6_4).f2.f1), .int .i64 ((rd_T39 l0 x6_4).f2.f2)]] ?_
            with_reducible refine (r10_Le.calls x17000_5 x17001_5 x17002_5 ((rd_T39 l0 x6_4).f2.f0) ((rd_T39 l0 x6_4).f2.f1) ((rd_T39 l0 x6_4).f2.f2) false _ A46.out).mono ?_
            rintro e w51 ⟨rfl,hb⟩
            refine ⟨_,rfl, ?_⟩
            replace BK16:=am_ (blk_below (zb_ BK16) hb)
            replace HB:=am_ (below_step (zl1_ HB GE16) hb)
            (try clear hb)
            (try clear hb2)
            (try clear hk)
            (try clear hi)
            refine hK.out _ _ ⟨(blk_cell BK16.out 0).trans rfl,(blk_cell BK16.out 1).trans rfl,(blk_cell BK16.out 2).trans rfl,(zx_ HB hw23_0:),(zx_ HB hw23_1:),(zx_ HB hw23_2:),(zx_ HB hw23_3:),(zx_ HB hw23_4:)⟩ (fun hHeld=> ?_)
            clear hK K
            refine no_ (N:=some 116) ?_
            refine pu_ (i:=7) (N:=some 117) (bt_ 8 255) HT_ ?_
            refine done_ (done_of HT_.out (by kernel_rfl)) ?_
            try go_wp2
            go_ret
            exact ⟨by first|rfl|(simp [errW_none,errW_some]<;>rfl)|(simp [*,errW_none,errW_some]<;>rfl),zl1_ HB GE16⟩
           rw [if_pos c31] at H
           have c31b0:decide (x8_5<(l0.length:Int))=true:=decide_eq_true c31
           clear c31
           by_cases c32:0≤x8_5
           rotate_left
           ·rw [if_neg c32] at H
            exact absurd H (by simp)
           rw [if_pos c32] at H
           have c32b0:decide (0≤x8_5)=true:=decide_eq_true c32
           clear c32
           by_cases c33:0≤x6_4
           rotate_left
           ·rw [if_neg c33] at H
            exact absurd H (by simp)
           rw [if_pos c33] at H
           have c33b0:decide (0≤x6_4)=true:=decide_eq_true c33
           clear c33
           by_cases c34:x6_4<(l0.length:Int)
           rotate_left
           ·rw [if_neg c34] at H
            exact absurd H (by simp)
           rw [if_pos c34] at H
           have c34b0:decide (x6_4<(l0.length:Int))=true:=decide_eq_true c34
           clear c34
           by_cases c35:((rd_T39 l0 x8_5).f1).toList=((rd_T39 l0 x6_4).f0).toList
           rotate_left
           ·rw [if_neg c35] at H
            have c35b0:(((rd_T39 l0 x8_5).f1).toList==((rd_T39 l0 x6_4).f0).toList)=false:=beq_eq_false_iff_ne.mpr c35
            have c35b1:(((rd_T39 l0 x8_5).f1).toList !=((rd_T39 l0 x6_4).f0).toList)=true:=bne_iff_ne.mpr c35
            have H':=Aside0.mk H
            clear H
            try go_wp2
            replace BK16:=am_ (blk_drew BK16.out)
            replace HB:=am_ (below_drew1 HB.out)
            have p17:0≤(x8_5:Int):=of_decide_eq_true zq_
            have q17:x8_5<(l0.length:Int):=of_decide_eq_true zq_
            obtain ⟨ad17,e17,hx17_0,hx17_1,hx17_2,hx17_3,hx17_4⟩:=at_T39 HR0.out x8_5 p17 q17
            have hw17_4:=hx17_4
            have hw17_3:=hx17_3
            have hw17_2:=hx17_2
            have hw17_1:=hx17_1
            have hw17_0:=hx17_0
            cases e17
            replace hx17_0:=zx_ HB hx17_0
            replace hx17_1:=zx_ HB hx17_1
            replace hx17_2:=zx_ HB hx17_2
            replace hx17_3:=zx_ HB hx17_3
            replace hx17_4:=zx_ HB hx17_4
            replace p17:=eq_true p17
            replace q17:=eq_true q17
            have p18:0≤(x6_4:Int):=of_decide_eq_true zq_
            have q18:x6_4<(l0.length:Int):=of_decide_eq_true zq_
            obtain ⟨ad18,e18,hx18_0,hx18_1,hx18_2,hx18_3,hx18_4⟩:=at_T39 HR0.out x6_4 p18 q18
            have hw18_4:=hx18_4
            have hw18_3:=hx18_3
            have hw18_2:=hx18_2
            have hw18_1:=hx18_1
            have hw18_0:=hx18_0
            obtain rfl:ad17=ad18:=(by injection e18)
            replace hx18_0:=zx_ HB hx18_0
            replace hx18_1:=zx_ HB hx18_1
            replace hx18_2:=zx_ HB hx18_2
            replace hx18_3:=zx_ HB hx18_3
            replace hx18_4:=zx_ HB hx18_4
            replace p18:=eq_true p18
            replace q18:=eq_true q18
            refine start_ (n:=11) (S:=fun w'=>w'.cell? (ad17.add ((x8_5).toNat*5))=some (.string ((rd_T39 l0 x8_5).f0))∧w'.cell? ⟨(ad17.add ((x8_5).toNat*5)).block,(ad17.add ((x8_5).toNat*5)).off+1,none⟩=some (.string ((rd_T39 l0 x8_5).f1))∧w'.cell? ⟨(ad17.add ((x8_5).toNat*5)).block,(ad17.add ((x8_5).toNat*5)).off+2,none⟩=some (.int .i64 ((rd_T39 l0 x8_5).f2.f0))∧w'.cell? ⟨(ad17.add ((x8_5).toNat*5)).block,(ad17.add ((x8_5).toNat*5)).off+3,none⟩=some (.int .i64 ((rd_T39 l0 x8_5).f2.f1))∧w'.cell? ⟨(ad17.add ((x8_5).toNat*5)).block,(ad17.add ((x8_5).toNat*5)).off+4,none⟩=some (.int .i64 ((rd_T39 l0 x8_5).f2.f2))∧w'.cell? (ad17.add ((x6_4).toNat*5))=some (.string ((rd_T39 l0 x6_4).f0))∧w'.cell? ⟨(ad17.add ((x6_4).toNat*5)).block,(ad17.add ((x6_4).toNat*5)).off+1,none⟩=some (.string ((rd_T39 l0 x6_4).f1))∧w'.cell? ⟨(ad17.add ((x6_4).toNat*5)).block,(ad17.add ((x6_4).toNat*5)).off+2,none⟩=some (.int .i64 ((rd_T39 l0 x6_4).f2.f0))∧w'.cell? ⟨(ad17.add ((x6_4).toNat*5)).block,(ad17.add ((x6_4).toNat*5)).off+3,none⟩=some (.int .i64 ((rd_T39 l0 x6_4).f2.f1))∧w'.cell? ⟨(ad17.add ((x6_4).toNat*5)).block,(ad17.add ((x6_4).toNat*5)).off+4,none⟩=some (.int .i64 ((rd_T39 l0 x6_4).f2.f2))) (ds:=[]) (bt_ 11 0) (by kernel_rfl) rfl rfl ⟨(zx_ HB hw17_0:),(zx_ HB hw17_1:),(zx_ HB hw17_2:),(zx_ HB hw17_3:),(zx_ HB hw17_4:),(zx_ HB hw18_0:),(zx_ HB hw18_1:),(zx_ HB hw18_2:),(zx_ HB hw18_3:),(zx_ HB hw18_4:)⟩ (fun hHeld=> ?_);refine with_tabW r10_Check.tab27 r10_Check.bits27 (fun HT_ HW_=> ?_)
            generalize wr.drew=w43 at BK16 HB hx17_0 hx17_1 hx17_2 hx17_3 hx17_4 hx18_0 hx18_1 hx18_2 hx18_3 hx18_4 hHeld ⊢
            refine pu_ (i:=0) (N:=some 92) (bt_ 11 1) HT_ ?_
            refine pu_ (i:=1) (N:=some 93) (bt_ 11 3) HT_ ?_
            refine pu_ (i:=2) (N:=some 94) (bt_ 11 7) HT_ ?_
            refine pu_ (i:=3) (N:=some 95) (bt_ 11 15) HT_ ?_
            refine pu_ (i:=5) (N:=some 97) (bt_ 11 47) HT_ ?_
            refine pu_ (i:=6) (N:=some 98) (bt_ 11 111) HT_ ?_
            refine pu_ (i:=7) (N:=some 99) (bt_ 11 239) HT_ ?_
            refine pu_ (i:=8) (N:=some 100) (bt_ 11 495) HT_ ?_
            refine tk_ (i:=4) (N:=some 96) (bt_ 11 511) HT_ HW_ hHeld ?_
            refine tk_ (i:=9) (N:=some 101) (bt_ 11 1023) HT_ HW_ hHeld ?_
            refine pu_ (i:=10) (N:=some 102) (bt_ 11 2047) HT_ ?_
            refine done_ (done_of HT_.out (by kernel_rfl)) ?_
            try go_wp2
            go_roundg k5
            case measure=>have:=HK1.out;have:=HK2.out;have:=HK3.out;have:=HK4.out;have:=HK5.out;omega
            case rel=>exact ⟨(wrap64 (x8_5+1)),(x17000_5),(x17001_5),(x17002_5),(by first|rfl|(simp;done)|(simp [*];done)),H',⟨by have:=HK1.out;have:=HK2.out;have:=HK3.out;have:=HK4.out;have:=HK5.out;omega⟩,⟨by refine zk_ ?_;exact BK16.out⟩,⟨zl1_ HB GE16⟩⟩
           rw [if_pos c35] at H
           have c35b0:(((rd_T39 l0 x8_5).f1).toList==((rd_T39 l0 x6_4).f0).toList)=true:=beq_iff_eq.mpr c35
           have c35b1:(((rd_T39 l0 x8_5).f1).toList !=((rd_T39 l0 x6_4).f0).toList)=false:=bne_eq_false_iff_eq.mpr c35
           clear c35
           replace H:=Option.bind_eq_some_iff.mp H
           obtain ⟨⟨t20,t21,t22⟩,A360,H⟩:=H
           try dsimp only at H
           have A36:=Aside0.mk A360
           clear A360
           have H':=Aside0.mk H
           clear H
           try go_wp2
           replace BK16:=am_ (blk_drew BK16.out)
           replace HB:=am_ (below_drew1 HB.out)
           have p17:0≤(x8_5:Int):=of_decide_eq_true zq_
           have q17:x8_5<(l0.length:Int):=of_decide_eq_true zq_
           obtain ⟨ad17,e17,hx17_0,hx17_1,hx17_2,hx17_3,hx17_4⟩:=at_T39 HR0.out x8_5 p17 q17
           have hw17_4:=hx17_4
           have hw17_3:=hx17_3
           have hw17_2:=hx17_2
           have hw17_1:=hx17_1
           have hw17_0:=hx17_0
           cases e17
           replace hx17_0:=zx_ HB hx17_0
           replace hx17_1:=zx_ HB hx17_1
           replace hx17_2:=zx_ HB hx17_2
           replace hx17_3:=zx_ HB hx17_3
           replace hx17_4:=zx_ HB hx17_4
           replace p17:=eq_true p17
           replace q17:=eq_true q17
           have p18:0≤(x6_4:Int):=of_decide_eq_true zq_
           have q18:x6_4<(l0.length:Int):=of_decide_eq_true zq_
           obtain ⟨ad18,e18,hx18_0,hx18_1,hx18_2,hx18_3,hx18_4⟩:=at_T39 HR0.out x6_4 p18 q18
           have hw18_4:=hx18_4
           have hw18_3:=hx18_3
           have hw18_2:=hx18_2
           have hw18_1:=hx18_1
           have hw18_0:=hx18_0
           obtain rfl:ad17=ad18:=(by injection e18)
           replace hx18_0:=zx_ HB hx18_0
           replace hx18_1:=zx_ HB hx18_1
           replace hx18_2:=zx_ HB hx18_2
           replace hx18_3:=zx_ HB hx18_3
           replace hx18_4:=zx_ HB hx18_4
           replace p18:=eq_true p18
           replace q18:=eq_true q18
           refine start_ (n:=11) (S:=fun w'=>w'.cell? (ad17.add ((x8_5).toNat*5))=some (.string ((rd_T39 l0 x8_5).f0))∧w'.cell? ⟨(ad17.add ((x8_5).toNat*5)).block,(ad17.add ((x8_5).toNat*5)).off+1,none⟩=some (.string ((rd_T39 l0 x8_5).f1))∧w'.cell? ⟨(ad17.add ((x8_5).toNat*5)).block,(ad17.add ((x8_5).toNat*5)).off+2,none⟩=some (.int .i64 ((rd_T39 l0 x8_5).f2.f0))∧w'.cell? ⟨(ad17.add ((x8_5).toNat*5)).block,(ad17.add ((x8_5).toNat*5)).off+3,none⟩=some (.int .i64 ((rd_T39 l0 x8_5).f2.f1))∧w'.cell? ⟨(ad17.add ((x8_5).toNat*5)).block,(ad17.add ((x8_5).toNat*5)).off+4,none⟩=some (.int .i64 ((rd_T39 l0 x8_5).f2.f2))∧w'.cell? (ad17.add ((x6_4).toNat*5))=some (.string ((rd_T39 l0 x6_4).f0))∧w'.cell? ⟨(ad17.add ((x6_4).toNat*5)).block,(ad17.add ((x6_4).toNat*5)).off+1,none⟩=some (.string ((rd_T39 l0 x6_4).f1))∧w'.cell? ⟨(ad17.add ((x6_4).toNat*5)).block,(ad17.add ((x6_4).toNat*5)).off+2,none⟩=some (.int .i64 ((rd_T39 l0 x6_4).f2.f0))∧w'.cell? ⟨(ad17.add ((x6_4).toNat*5)).block,(ad17.add ((x6_4).toNat*5)).off+3,none⟩=some (.int .i64 ((rd_T39 l0 x6_4).f2.f1))∧w'.cell? ⟨(ad17.add ((x6_4).toNat*5)).block,(ad17.add ((x6_4).toNat*5)).off+4,none⟩=some (.int .i64 ((rd_T39 l0 x6_4).f2.f2))) (ds:=[]) (bt_ 11 0) (by kernel_rfl) rfl rfl ⟨(zx_ HB hw17_0:),(zx_ HB hw17_1:),(zx_ HB hw17_2:),(zx_ HB hw17_3:),(zx_ HB hw17_4:),(zx_ HB hw18_0:),(zx_ HB hw18_1:),(zx_ HB hw18_2:),(zx_ HB hw18_3:),(zx_ HB hw18_4:)⟩ (fun hHeld=> ?_);refine with_tabW r10_Check.tab27 r10_Check.bits27 (fun HT_ HW_=> ?_)
           generalize wr.drew=w37 at BK16 HB hx17_0 hx17_1 hx17_2 hx17_3 hx17_4 hx18_0 hx18_1 hx18_2 hx18_3 hx18_4 hHeld ⊢
           refine pu_ (i:=0) (N:=some 92) (bt_ 11 1) HT_ ?_
           refine pu_ (i:=1) (N:=some 93) (bt_ 11 3) HT_ ?_
           refine pu_ (i:=2) (N:=some 94) (bt_ 11 7) HT_ ?_
           refine pu_ (i:=3) (N:=some 95) (bt_ 11 15) HT_ ?_
           refine pu_ (i:=5) (N:=some 97) (bt_ 11 47) HT_ ?_
           refine pu_ (i:=6) (N:=some 98) (bt_ 11 111) HT_ ?_
           refine pu_ (i:=7) (N:=some 99) (bt_ 11 239) HT_ ?_
           refine pu_ (i:=8) (N:=some 100) (bt_ 11 495) HT_ ?_
           refine tk_ (i:=4) (N:=some 96) (bt_ 11 511) HT_ HW_ hHeld ?_
           refine tk_ (i:=9) (N:=some 101) (bt_ 11 1023) HT_ HW_ hHeld ?_
           refine pu_ (i:=10) (N:=some 102) (bt_ 11 2047) HT_ ?_
           refine done_ (done_of HT_.out (by kernel_rfl)) ?_
           try go_wp2
           replace BK16:=am_ (blk_drew BK16.out)
           replace HB:=am_ (below_drew1 HB.out)
           have p19:0≤(x8_5:Int):=of_decide_eq_true zq_
           have q19:x8_5<(l0.length:Int):=of_decide_eq_true zq_
           obtain ⟨ad19,e19,hx19_0,hx19_1,hx19_2,hx19_3,hx19_4⟩:=at_T39 HR0.out x8_5 p19 q19
           have hw19_4:=hx19_4
           have hw19_3:=hx19_3
           have hw19_2:=hx19_2
           have hw19_1:=hx19_1
           have hw19_0:=hx19_0
           obtain rfl:ad17=ad19:=(by injection e19)
           replace hx19_0:=zx_ HB hx19_0
           replace hx19_1:=zx_ HB hx19_1
           replace hx19_2:=zx_ HB hx19_2
           replace hx19_3:=zx_ HB hx19_3
           replace hx19_4:=zx_ HB hx19_4
           replace p19:=eq_true p19
           replace q19:=eq_true q19
           refine start_ (n:=8) (S:=fun w'=>w'.cell? ⟨gb16,0,none⟩=some (.int .i64 x17000_5)∧w'.cell? ⟨gb16,1,none⟩=some (.int .i64 x17001_5)∧w'.cell? ⟨gb16,2,none⟩=some (.int .i64 x17002_5)∧w'.cell? (ad17.add ((x8_5).toNat*5))=some (.string ((rd_T39 l0 x8_5).f0))∧w'.cell? ⟨(ad17.add ((x8_5).toNat*5)).block,(ad17.add ((x8_5).toNat*5)).off+1,none⟩=some (.string ((rd_T39 l0 x8_5).f1))∧w'.cell? ⟨(ad17.add ((x8_5).toNat*5)).block,(ad17.add ((x8_5).toNat*5)).off+2,none⟩=some (.int .i64 ((rd_T39 l0 x8_5).f2.f0))∧w'.cell? ⟨(ad17.add ((x8_5).toNat*5)).block,(ad17.add ((x8_5).toNat*5)).off+3,none⟩=some (.int .i64 ((rd_T39 l0 x8_5).f2.f1))∧w'.cell? ⟨(ad17.add ((x8_5).toNat*5)).block,(ad17.add ((x8_5).toNat*5)).off+4,none⟩=some (.int .i64 ((rd_T39 l0 x8_5).f2.f2))) (ds:=[7]) (bt_ 8 0) (by kernel_rfl) rfl rfl ⟨(blk_cell BK16.out 0).trans rfl,(blk_cell BK16.out 1).trans rfl,(blk_cell BK16.out 2).trans rfl,(zx_ HB hw19_0:),(zx_ HB hw19_1:),(zx_ HB hw19_2:),(zx_ HB hw19_3:),(zx_ HB hw19_4:)⟩ (fun hHeld=> ?_);refine with_tabW r10_Check.tab28 r10_Check.bits28 (fun HT_ HW_=> ?_)
           generalize w37.drew=w38 at BK16 HB hx19_0 hx19_1 hx19_2 hx19_3 hx19_4 hHeld ⊢
           refine pu_ (i:=1) (N:=some 104) (bt_ 8 2) HT_ ?_
           refine pu_ (i:=2) (N:=some 105) (bt_ 8 6) HT_ ?_
           refine pu_ (i:=3) (N:=some 106) (bt_ 8 14) HT_ ?_
           refine pu_ (i:=4) (N:=some 107) (bt_ 8 30) HT_ ?_
           refine tk_ (i:=0) (N:=some 103) (bt_ 8 31) HT_ HW_ hHeld ?_
           refine tk_ (i:=5) (N:=some 108) (bt_ 8 63) HT_ HW_ hHeld ?_
           refine on_ (i:=6) (N:=some 109) (bt_ 8 127) HT_ (fun K hK=> ?_)
           refine gs_ Try.func70 #[.agg #[.int .i64 x17000_5, .int .i64 x17001_5, .int .i64 x17002_5], .agg #[.int .i64 ((rd_T39 l0 x8_5).f2.f0), .int .i64 ((rd_T39 l0 x8_5).f2.f1), .int .i64 ((rd_T39 l0 x8_5).f2.f2)]] ?_
           with_reducible refine (r10_Add.calls x17000_5 x17001_5 x17002_5 ((rd_T39 l0 x8_5).f2.f0) ((rd_T39 l0 x8_5).f2.f1) ((rd_T39 l0 x8_5).f2.f2) t20 t21 t22 _ A36.out).mono ?_
           rintro e w39 ⟨rfl,hb⟩
           refine ⟨_,rfl, ?_⟩
           replace BK16:=am_ (blk_below (zb_ BK16) hb)
           replace HB:=am_ (below_step (zl1_ HB GE16) hb)
           (try clear hb)
           (try clear hb2)
           (try clear hk)
           (try clear hi)
           refine hK.out _ _ ⟨(blk_cell BK16.out 0).trans rfl,(blk_cell BK16.out 1).trans rfl,(blk_cell BK16.out 2).trans rfl,(zx_ HB hw19_0:),(zx_ HB hw19_1:),(zx_ HB hw19_2:),(zx_ HB hw19_3:),(zx_ HB hw19_4:)⟩ (fun hHeld=> ?_)
           clear hK K
           refine no_ (N:=some 109) ?_
           refine last_ (i:=7) (N:=none) (bt_ 8 255) rfl rfl (one_of HT_.out (by kernel_rfl)) (by decide) (fun K hK=> ?_)
           have hs40:w39.cell? ⟨gb16,0,none⟩=some (.int .i64 x17000_5):=(blk_cell BK16.out 0).trans rfl
           have hfs40:=blk_frozen BK16.out 0
           have hs41:w39.cell? ⟨gb16,1,none⟩=some (.int .i64 x17001_5):=(blk_cell BK16.out 1).trans rfl
           have hfs41:=blk_frozen BK16.out 1
           have hs42:w39.cell? ⟨gb16,2,none⟩=some (.int .i64 x17002_5):=(blk_cell BK16.out 2).trans rfl
           have hfs42:=blk_frozen BK16.out 2
           refine skip_ (w1:= ?_) (by rfl) rfl ?_ ?_
           rotate_left
           ·go_simp
            rfl
           refine hK.out _ _ ?_
           clear hK K
           refine done_ (done_of HT_.out (by kernel_rfl)) ?_
           try go_wp2
           go_roundg k5
           case measure=>have:=HK1.out;have:=HK2.out;have:=HK3.out;have:=HK4.out;have:=HK5.out;omega
           case rel=>exact ⟨(wrap64 (x8_5+1)),(t20),(t21),(t22),(by first|rfl|(simp;done)|(simp [*];done)),H',⟨by have:=HK1.out;have:=HK2.out;have:=HK3.out;have:=HK4.out;have:=HK5.out;omega⟩,⟨zw_ BK16⟩,⟨zl1_ HB GE16⟩⟩
def fidx {α:Type} (p:α→Bool):List α→Int→Int
 |[],_=> -1
 |x::l,i=>if p x=true then i else fidx p l (i+1)
theorem fidx_drop {α:Type} (p:α→Bool) (z:α) (l:List α) (i:Nat) (h:i<l.length):fidx p (l.drop i) i=if p (l.getD i z)=true then (i:Int) else fidx p (l.drop (i+1)) ((i+1:Nat):Int):=by
 rw [List.drop_eq_getElem_cons h,List.getD_eq_getElem?_getD,List.getElem?_eq_getElem h]
 rfl
def wantCells (x:S39):Array Value:=#[.string x.f0, .string x.f1, .int .i64 x.f2.f0, .int .i64 x.f2.f1, .int .i64 x.f2.f2]
set_option maxHeartbeats 1000000 in
set_option maxRecDepth 100000 in
theorem idxWant_calls (g:Nat) (lb:Array Value) (p:S39→Bool) (eg: ∀args w,(callFunc g args).run Try.prog w= .ok (.enter g args) w) (w:World)
    (hp: ∀W x,Below w.heap.size w W→Calls Try.prog g (#[.agg (wantCells x)]++lb) W fun e w'=>e= .returned (.bool (p x))∧Below W.heap.size W w')
    (A:Option Addr) (c:Nat) (l:List S39) (hr0:Kd.C k39 w A l.length l) (hc0:l.length≤c):
    Calls Try.prog 112 #[.slice A l.length c, .func (.func g) #[] lb] w fun e w'=>e= .returned (.int .i64 (fidx p l 0))∧Below w.heap.size w w':=by
  have hu39:=Try.underlying39
  have HR0:=Aside0.mk hr0
  have HP:=Aside0.mk hp
  have HEG:=Aside0.mk eg
  have hm:l.length≤9223372036854775807:=hr0.2.1
  clear hr0 hp eg
  go_enter Try.func112,Try.ntmps112
  go_wp2
  go_loopg [5,8] l.length (fun kq s5 s8 wr=> ∃i:Nat,i≤l.length∧l.length - i≤kq∧s8= .int .i64 i∧Aside0 (Below w.heap.size w wr)∧Aside0 (fidx p l 0=fidx p (l.drop i) i))
  case atStart=>exact ⟨0,by omega,by omega,rfl,⟨Below.refl _ _⟩,⟨rfl⟩⟩
  case round=>
    obtain ⟨i,hi,hg,rfl,HB,HF⟩:=hrel
    by_cases hlt:i<l.length
    rotate_left
    · obtain rfl : i = l.length := by omega
      go_wp2
      go_ret
      refine ⟨?_,HB.out⟩
      rw [HF.out,List.drop_length]
      rfl


    have hltz:(i:Int)<(l.length:Int):=by omega
    obtain ⟨ad,e1,h0,h1,h2,h3,h4⟩:=at_T39 HR0.out (i:Int) (by omega) (by omega)
    cases e1
    simp only [Int.toNat_natCast] at h0 h1 h2 h3 h4
    replace h0:=zx_ HB h0
    replace h1:=zx_ HB h1
    replace h2:=zx_ HB h2
    replace h3:=zx_ HB h3
    replace h4:=zx_ HB h4
    have hd:Aside0 _:=⟨fidx_drop p z39 l i hlt⟩
    have HC:=am_ (HP.out wr (rd_T39 l i) HB.out)
    generalize hy:rd_T39 l i=y at h0 h1 h2 h3 h4 HC
    have hq:p (l.getD i z39)=p y:=by rw [←hy];simp [rd_T39]
    have HQ:=Aside0.mk hq
    clear hy hq
    have eg:=HEG.out
    cases hb:p y with
    | true =>
      rw [hb] at HC HQ
      clear hb
      go_wp2_with (go_at_fn g;refine HC.out.mono ?_;rintro e w' ⟨rfl,hb'⟩;have HB':=am_ (below_step HB.out hb');clear hb')
      go_ret
      refine ⟨?_,HB'.out⟩
      rw [HF.out,hd.out,HQ.out]
      rfl
    | false =>
      rw [hb] at HC HQ
      clear hb
      go_wp2_with (go_at_fn g;refine HC.out.mono ?_;rintro e w' ⟨rfl,hb'⟩;have HB':=am_ (below_step HB.out hb');clear hb')
      go_roundg (l.length - (i+1))
      case measure=>omega
      case rel=>exact ⟨i+1,by omega,by omega,by go_num,HB',⟨by rw [HF.out,hd.out,HQ.out];rfl⟩⟩
set_option maxHeartbeats 1000000 in
set_option maxRecDepth 100000 in
theorem wantFind1_calls (W:World) (b:Nat) (nm:ByteArray) (hb:W.heap[b]?=some (.cells #[.string nm] 9 (0,0))) (x:S39):
  Calls Try.prog 113 #[.agg (wantCells x), .pointer (some ⟨b,0,none⟩)] W fun e w'=>e= .returned (.bool (x.f0.toList==nm.toList))∧Below W.heap.size W w':=by
 unfold wantCells
 have hu39:=Try.underlying39
 have h0:=(blk_cell hb 0).trans rfl
 have hl:b<W.heap.size:=blk_lt hb
 clear hb
 go_enter Try.func113,Try.ntmps113
 go_wp2
 go_ret
 exact ⟨rfl,by repeat (first|(with_reducible first|exact Below.refl _ _|apply below_alloc|apply pw_below_drewN|apply below_drew1))⟩
def wplace (l:List (S39)) (a1:ByteArray):Int:=fidx (fun x=>x.f0.toList==a1.toList) l 0
set_option maxHeartbeats 1000000 in
set_option maxRecDepth 100000 in
theorem wantFind_calls (A0:Option Addr) (c0:Nat) (l0:List (S39)) (a1:ByteArray) (w:World) (hr0:Kd.C k39 w A0 l0.length l0) (hc0:l0.length≤c0):
  Calls Try.prog 73 #[.agg #[.slice A0 l0.length c0], .string a1] w fun e w'=>e= .returned (.int .i64 (wplace l0 a1))∧Below w.heap.size w w':=by
 have hu110:=Try.underlying110
 obtain ⟨W1,hW1⟩: ∃W1,W1=(w.alloc (.cells #[.slice A0 l0.length c0] 110)).alloc (.cells #[.string a1] 9):=⟨_,rfl⟩
 have hs1:(w.alloc (.cells #[.slice A0 l0.length c0] 110)).heap.size=w.heap.size+1:=by simp
 have hn:W1.heap[w.heap.size+1]?=some (.cells #[.string a1] 9 (0,0)):=by rw [hW1,←hs1];exact blk_new _ _
 have hB:Below w.heap.size w W1:=by rw [hW1];exact below_alloc (below_alloc (Below.refl _ _) _) _
 have hr:fidx (fun x:S39=>x.f0.toList==a1.toList) l0 0=wplace l0 a1:=rfl
 have HC:=am_ (idxWant_calls 113 #[.pointer (some ⟨w.heap.size+1,0,none⟩)] (fun x=>x.f0.toList==a1.toList) (enters_of Try.func113 (by kernel_rfl) rfl) W1 (fun W x hb=>wantFind1_calls W (w.heap.size+1) a1 (blk_below hn hb) x) A0 c0 l0 (Kd.C_below hr0 hB) hc0)
 rw [hr] at HC
 generalize wplace l0 a1=r at HC ⊢
 have HW:=Aside0.mk hW1
 have HB:=Aside0.mk hB
 clear hr0 hr hW1 hn hB hs1
 go_enter Try.func73,Try.ntmps73
 go_wp2_with fail
 rw [←HW.out]
 refine HC.out.mono ?_
 rintro e w' ⟨rfl,hb⟩
 have HB':=am_ (below_step HB.out hb)
 clear hb
 go_wp2
 go_ret
 exact ⟨rfl,HB'.out⟩


def vec_Le.f (a0_0:Int) (a0_1:Int) (a0_2:Int) (a1_0:Int) (a1_1:Int) (a1_2:Int):Option (Bool):=if a0_0≤a1_0 then (if a0_1≤a1_1 then (some (decide (a0_2≤a1_2))) else (some false)) else (some false)
set_option maxHeartbeats 8000000 in
set_option maxRecDepth 100000 in
theorem vec_Le.calls (a0_0:Int) (a0_1:Int) (a0_2:Int) (a1_0:Int) (a1_1:Int) (a1_2:Int) (r:Bool) (w:World) (h:vec_Le.f a0_0 a0_1 a0_2 a1_0 a1_1 a1_2=some r):
  Calls Try.prog 114 #[.agg #[.int .i64 a0_0, .int .i64 a0_1, .int .i64 a0_2], .agg #[.int .i64 a1_0, .int .i64 a1_1, .int .i64 a1_2]] w fun e w'=>e= .returned (.bool r)∧Below w.heap.size w w':=by
 have hu37:=Try.underlying37
 have HB:=am_ (Below.refl w.heap.size w)
 have H:(if a0_0≤a1_0 then (if a0_1≤a1_1 then (some (decide (a0_2≤a1_2))) else (some false)) else (some false))=some r:=h
 clear h
 by_cases c3:a0_0≤a1_0
 rotate_left
 ·rw [if_neg c3] at H
  have c3b0:decide (a0_0≤a1_0)=false:=decide_eq_false c3
  clear c3
  obtain rfl:=Option.some.inj H
  go_enter Try.func114,Try.ntmps114
  go_wp2_with (first|((with_reducible refine gate_dst (N:=2) rfl ?_);refine bx_ (N:=2) (cs:=#[.int .i64 a0_0, .int .i64 a0_1, .int .i64 a0_2]) (t:=37) ?_;intro gb1 hg w15 hbox hb;have BK1:=am_ (hbox);have GW1:=am_ ((zg0_ HB hg:w.heap.size≤gb1));have GE1:=am_ ((zg0_ HB hg:w.heap.size≤gb1));replace HB:=am_ (below_step (zl0_ HB) hb);clear hb hbox hg)|((with_reducible refine gate_dst (N:=3) rfl ?_);refine bx_ (N:=3) (cs:=#[.int .i64 a1_0, .int .i64 a1_1, .int .i64 a1_2]) (t:=37) ?_;intro gb2 hg w16 hbox hb;have BK2:=am_ (hbox);have GW2:=am_ ((zg1_ HB GE1 hg:w.heap.size≤gb2));have GE2:=am_ ((zg1_ HB GE1 hg:w.heap.size≤gb2));replace HB:=am_ (below_step (zl1_ HB GE1) hb);have NB1_2:=am_ ((zn_ BK1 hg:gb1≠gb2));have NB2_1:=am_ ((zm_ BK1 hg:gb2≠gb1));replace BK1:=am_ (blk_below (zb_ BK1) hb);clear hb hbox hg;have hnb17:=NB1_2.out;have hnc17:=NB2_1.out;obtain ⟨hcz18_0,hcz18_1,hcz18_2,hfz18_0,hfz18_1,hfz18_2⟩:=y3_ BK1;obtain ⟨hcz19_0,hcz19_1,hcz19_2⟩:=x3_ BK2;have hfz19_0:=blk_frozen BK2.out 0;have hfz19_1:=blk_frozen BK2.out 1;have hfz19_2:=blk_frozen BK2.out 2))
  go_ret
  exact ⟨by first|rfl|(simp [errW_none,errW_some]<;>rfl)|(simp [*,errW_none,errW_some]<;>rfl),zl2_ HB GE1 GE2⟩

 rw [if_pos c3] at H
 have c3b0:decide (a0_0≤a1_0)=true:=decide_eq_true c3
 clear c3
 by_cases c4:a0_1≤a1_1
 ·rw [if_pos c4] at H
  have c4b0:decide (a0_1≤a1_1)=true:=decide_eq_true c4
  clear c4
  obtain rfl:=Option.some.inj H
  go_enter Try.func114,Try.ntmps114
  go_wp2_with (first|((with_reducible refine gate_dst (N:=2) rfl ?_);refine bx_ (N:=2) (cs:=#[.int .i64 a0_0, .int .i64 a0_1, .int .i64 a0_2]) (t:=37) ?_;intro gb1 hg w5 hbox hb;have BK1:=am_ (hbox);have GW1:=am_ ((zg0_ HB hg:w.heap.size≤gb1));have GE1:=am_ ((zg0_ HB hg:w.heap.size≤gb1));replace HB:=am_ (below_step (zl0_ HB) hb);clear hb hbox hg)|((with_reducible refine gate_dst (N:=3) rfl ?_);refine bx_ (N:=3) (cs:=#[.int .i64 a1_0, .int .i64 a1_1, .int .i64 a1_2]) (t:=37) ?_;intro gb2 hg w6 hbox hb;have BK2:=am_ (hbox);have GW2:=am_ ((zg1_ HB GE1 hg:w.heap.size≤gb2));have GE2:=am_ ((zg1_ HB GE1 hg:w.heap.size≤gb2));replace HB:=am_ (below_step (zl1_ HB GE1) hb);have NB1_2:=am_ ((zn_ BK1 hg:gb1≠gb2));have NB2_1:=am_ ((zm_ BK1 hg:gb2≠gb1));replace BK1:=am_ (blk_below (zb_ BK1) hb);clear hb hbox hg;have hnb7:=NB1_2.out;have hnc7:=NB2_1.out;obtain ⟨hcz8_0,hcz8_1,hcz8_2,hfz8_0,hfz8_1,hfz8_2⟩:=y3_ BK1;obtain ⟨hcz9_0,hcz9_1,hcz9_2⟩:=x3_ BK2;have hfz9_0:=blk_frozen BK2.out 0;have hfz9_1:=blk_frozen BK2.out 1;have hfz9_2:=blk_frozen BK2.out 2))
  go_ret
  exact ⟨by first|rfl|(simp [errW_none,errW_some]<;>rfl)|(simp [*,errW_none,errW_some]<;>rfl),zl2_ HB GE1 GE2⟩
 rw [if_neg c4] at H
 have c4b0:decide (a0_1≤a1_1)=false:=decide_eq_false c4
 clear c4
 obtain rfl:=Option.some.inj H
 go_enter Try.func114,Try.ntmps114
 go_wp2_with (first|((with_reducible refine gate_dst (N:=2) rfl ?_);refine bx_ (N:=2) (cs:=#[.int .i64 a0_0, .int .i64 a0_1, .int .i64 a0_2]) (t:=37) ?_;intro gb1 hg w10 hbox hb;have BK1:=am_ (hbox);have GW1:=am_ ((zg0_ HB hg:w.heap.size≤gb1));have GE1:=am_ ((zg0_ HB hg:w.heap.size≤gb1));replace HB:=am_ (below_step (zl0_ HB) hb);clear hb hbox hg)|((with_reducible refine gate_dst (N:=3) rfl ?_);refine bx_ (N:=3) (cs:=#[.int .i64 a1_0, .int .i64 a1_1, .int .i64 a1_2]) (t:=37) ?_;intro gb2 hg w11 hbox hb;have BK2:=am_ (hbox);have GW2:=am_ ((zg1_ HB GE1 hg:w.heap.size≤gb2));have GE2:=am_ ((zg1_ HB GE1 hg:w.heap.size≤gb2));replace HB:=am_ (below_step (zl1_ HB GE1) hb);have NB1_2:=am_ ((zn_ BK1 hg:gb1≠gb2));have NB2_1:=am_ ((zm_ BK1 hg:gb2≠gb1));replace BK1:=am_ (blk_below (zb_ BK1) hb);clear hb hbox hg;have hnb12:=NB1_2.out;have hnc12:=NB2_1.out;obtain ⟨hcz13_0,hcz13_1,hcz13_2,hfz13_0,hfz13_1,hfz13_2⟩:=y3_ BK1;obtain ⟨hcz14_0,hcz14_1,hcz14_2⟩:=x3_ BK2;have hfz14_0:=blk_frozen BK2.out 0;have hfz14_1:=blk_frozen BK2.out 1;have hfz14_2:=blk_frozen BK2.out 2))
 go_ret
 exact ⟨by first|rfl|(simp [errW_none,errW_some]<;>rfl)|(simp [*,errW_none,errW_some]<;>rfl),zl2_ HB GE1 GE2⟩
def vec_Most.f:Option (Int×Int×Int):=some (1099511627776,1099511627776,1099511627776)
set_option maxHeartbeats 8000000 in
set_option maxRecDepth 100000 in
theorem vec_Most.calls (r1:Int) (r2:Int) (r3:Int) (w:World) (h:vec_Most.f=some (r1,r2,r3)):
  Calls Try.prog 125 #[] w fun e w'=>e= .returned (.agg #[.int .i64 r1, .int .i64 r2, .int .i64 r3])∧Below w.heap.size w w':=by
 have hu37:=Try.underlying37
 have HB:=am_ (Below.refl w.heap.size w)
 have H:(some (1099511627776,1099511627776,1099511627776))=some (r1,r2,r3):=h
 clear h
 simp only [Option.some.injEq,Prod.mk.injEq] at H
 obtain ⟨rfl,rfl,rfl⟩:=H
 go_enter Try.func125,Try.ntmps125
 go_wp2_with (first|((with_reducible refine gate_dst (N:=0) rfl ?_);refine bx_ (N:=0) (cs:=#[.int .i64 0, .int .i64 0, .int .i64 0]) (t:=37) ?_;intro gb1 hg w1 hbox hb;have BK1:=am_ (hbox);have GW1:=am_ ((zg0_ HB hg:w.heap.size≤gb1));have GE1:=am_ ((zg0_ HB hg:w.heap.size≤gb1));replace HB:=am_ (below_step (zl0_ HB) hb);clear hb hbox hg;obtain ⟨hcz2_0,hcz2_1,hcz2_2⟩:=x3_ BK1;have hfz2_0:=blk_frozen BK1.out 0;have hfz2_1:=blk_frozen BK1.out 1;have hfz2_2:=blk_frozen BK1.out 2))
 refine bodyPost_ret (results_cell_row rfl _ _ gb1 37 #[.int .i64 1099511627776, .int .i64 1099511627776, .int .i64 1099511627776] (0,0) _ rfl (zw_ BK1) Try.underlying37 rfl (by kernel_rfl)) rfl ?_
 exact ⟨by first|rfl|(simp [errW_none,errW_some]<;>rfl)|(simp [*,errW_none,errW_some]<;>rfl),zl1_ HB GE1⟩

def vec_May.f (a0_0:Int) (a0_1:Int) (a0_2:Int):Option (Bool):=(vec_Le.f 0 0 0 a0_0 a0_1 a0_2).bind fun t2=>(if t2=true then ((vec_Most.f).bind fun bt3=>((vec_Le.f a0_0 a0_1 a0_2 bt3.1 bt3.2.1 bt3.2.2).bind fun t6=>(some t6))) else (some false))
def vec_May.T1:Bool×List (List Nat×List Nat):=(true,[([],[]),([],[]),([0,1],[0,1]),([2,2],[2]),([3],[3]),([3,3],[3]),([4,5,5,3],[3,4,5]),([3,6],[3,6]),([7,6,0,1,2,3,4,5,6,7],[7])])
def vec_May.B1:List Nat:=[0,0,3,7,15,15,63,127,255]
theorem vec_May.tab1:rtab .any (opsOf Try.f111 1)=vec_May.T1:=by kernel_rfl
theorem vec_May.bits1:waitsOk vec_May.T1.2 vec_May.B1=true:=by kernel_rfl
set_option maxHeartbeats 8000000 in
set_option maxRecDepth 100000 in
theorem vec_May.calls (a0_0:Int) (a0_1:Int) (a0_2:Int) (r:Bool) (w:World) (h:vec_May.f a0_0 a0_1 a0_2=some r):
  Calls Try.prog 111 #[.agg #[.int .i64 a0_0, .int .i64 a0_1, .int .i64 a0_2]] w fun e w'=>e= .returned (.bool r)∧Below w.heap.size w w':=by
 have hu37:=Try.underlying37
 have HB:=am_ (Below.refl w.heap.size w)
 have H:((vec_Le.f 0 0 0 a0_0 a0_1 a0_2).bind fun t2=>(if t2=true then ((vec_Most.f).bind fun bt3=>((vec_Le.f a0_0 a0_1 a0_2 bt3.1 bt3.2.1 bt3.2.2).bind fun t6=>(some t6))) else (some false)))=some r:=h
 clear h
 replace H:=Option.bind_eq_some_iff.mp H
 obtain ⟨t2,A20,H⟩:=H
 try dsimp only at H
 have A2:=Aside0.mk A20
 clear A20
 by_cases c3:t2=true
 rotate_left
 ·replace c3:=Bool.eq_false_iff.mpr c3
  subst c3
  have H1:(some false)=some r:=by rw [if_neg (show¬(false=true) by decide)] at H;exact H
  clear H
  have H:=H1
  clear H1
  obtain rfl:=Option.some.inj H
  go_enter Try.func111,Try.ntmps111
  try go_wp2_with (first|((with_reducible refine gate_dst (N:=1) rfl ?_);refine bx_ (N:=1) (cs:=#[.int .i64 a0_0, .int .i64 a0_1, .int .i64 a0_2]) (t:=37) ?_;intro gb1 hg w11 hbox hb;have BK1:=am_ (hbox);have GW1:=am_ ((zg0_ HB hg:w.heap.size≤gb1));have GE1:=am_ ((zg0_ HB hg:w.heap.size≤gb1));replace HB:=am_ (below_step (zl0_ HB) hb);clear hb hbox hg))
  replace BK1:=am_ (blk_drew BK1.out)
  replace HB:=am_ (below_drew1 HB.out)
  refine start_ (n:=9) (S:=fun w'=>w'.cell? ⟨gb1,0,none⟩=some (.int .i64 a0_0)∧w'.cell? ⟨gb1,1,none⟩=some (.int .i64 a0_1)∧w'.cell? ⟨gb1,2,none⟩=some (.int .i64 a0_2)) (ds:=[]) (bt_ 9 0) (by kernel_rfl) rfl rfl ⟨(blk_cell BK1.out 0).trans rfl,(blk_cell BK1.out 1).trans rfl,(blk_cell BK1.out 2).trans rfl⟩ (fun hHeld=> ?_);refine with_tabW vec_May.tab1 vec_May.bits1 (fun HT_ HW_=> ?_)
  generalize w11.drew=w12 at BK1 HB hHeld ⊢
  refine pu_ (i:=0) (N:=some 3) (bt_ 9 1) HT_ ?_
  refine tk_ (i:=1) (N:=some 4) (bt_ 9 3) HT_ HW_ hHeld ?_
  refine on_ (i:=2) (N:=some 5) (bt_ 9 7) HT_ (fun K hK=> ?_)
  refine gs_ Try.func114 #[.agg #[.int .i64 0, .int .i64 0, .int .i64 0], .agg #[.int .i64 a0_0, .int .i64 a0_1, .int .i64 a0_2]] ?_
  with_reducible refine (vec_Le.calls 0 0 0 a0_0 a0_1 a0_2 false _ A2.out).mono ?_
  rintro e w13 ⟨rfl,hb⟩
  refine ⟨_,rfl, ?_⟩
  replace BK1:=am_ (blk_below (zb_ BK1) hb)
  replace HB:=am_ (below_step (zl1_ HB GE1) hb)
  (try clear hb)
  (try clear hb2)
  (try clear hk)
  (try clear hi)
  refine hK.out _ _ ⟨(blk_cell BK1.out 0).trans rfl,(blk_cell BK1.out 1).trans rfl,(blk_cell BK1.out 2).trans rfl⟩ (fun hHeld=> ?_)
  clear hK K
  refine no_ (N:=some 5) ?_
  refine pu_ (i:=3) (N:=some 6) (bt_ 9 15) HT_ ?_
  refine pn_ (i:=4) (N:=some 7) (bt_ 9 31) HT_ ?_
  refine pn_ (i:=5) (N:=some 8) (bt_ 9 63) HT_ ?_
  refine pn_ (i:=6) (N:=some 9) (bt_ 9 127) HT_ ?_
  refine pu_ (i:=7) (N:=some 10) (bt_ 9 255) HT_ ?_
  refine pu_ (i:=8) (N:=some 2) (bt_ 9 511) HT_ ?_
  refine done_ (done_of HT_.out (by kernel_rfl)) ?_
  try go_wp2
  go_ret
  exact ⟨by first|rfl|(simp [errW_none,errW_some]<;>rfl)|(simp [*,errW_none,errW_some]<;>rfl),zl1_ HB GE1⟩

 subst c3
 have H1:((vec_Most.f).bind fun bt3=>((vec_Le.f a0_0 a0_1 a0_2 bt3.1 bt3.2.1 bt3.2.2).bind fun t6=>(some t6)))=some r:=by rw [if_pos rfl] at H;exact H
 clear H
 have H:=H1
 clear H1
 replace H:=Option.bind_eq_some_iff.mp H
 obtain ⟨⟨t3,t4,t5⟩,A40,H⟩:=H
 try dsimp only at H
 have A4:=Aside0.mk A40
 clear A40
 replace H:=Option.bind_eq_some_iff.mp H
 obtain ⟨t6,A50,H⟩:=H
 try dsimp only at H
 have A5:=Aside0.mk A50
 clear A50
 obtain rfl:=Option.some.inj H
 go_enter Try.func111,Try.ntmps111
 try go_wp2_with (first|((with_reducible refine gate_dst (N:=1) rfl ?_);refine bx_ (N:=1) (cs:=#[.int .i64 a0_0, .int .i64 a0_1, .int .i64 a0_2]) (t:=37) ?_;intro gb1 hg w6 hbox hb;have BK1:=am_ (hbox);have GW1:=am_ ((zg0_ HB hg:w.heap.size≤gb1));have GE1:=am_ ((zg0_ HB hg:w.heap.size≤gb1));replace HB:=am_ (below_step (zl0_ HB) hb);clear hb hbox hg))
 replace BK1:=am_ (blk_drew BK1.out)
 replace HB:=am_ (below_drew1 HB.out)
 refine start_ (n:=9) (S:=fun w'=>w'.cell? ⟨gb1,0,none⟩=some (.int .i64 a0_0)∧w'.cell? ⟨gb1,1,none⟩=some (.int .i64 a0_1)∧w'.cell? ⟨gb1,2,none⟩=some (.int .i64 a0_2)) (ds:=[]) (bt_ 9 0) (by kernel_rfl) rfl rfl ⟨(blk_cell BK1.out 0).trans rfl,(blk_cell BK1.out 1).trans rfl,(blk_cell BK1.out 2).trans rfl⟩ (fun hHeld=> ?_);refine with_tabW vec_May.tab1 vec_May.bits1 (fun HT_ HW_=> ?_)
 generalize w6.drew=w7 at BK1 HB hHeld ⊢
 refine pu_ (i:=0) (N:=some 3) (bt_ 9 1) HT_ ?_
 refine tk_ (i:=1) (N:=some 4) (bt_ 9 3) HT_ HW_ hHeld ?_
 refine on_ (i:=2) (N:=some 5) (bt_ 9 7) HT_ (fun K hK=> ?_)
 refine gs_ Try.func114 #[.agg #[.int .i64 0, .int .i64 0, .int .i64 0], .agg #[.int .i64 a0_0, .int .i64 a0_1, .int .i64 a0_2]] ?_
 with_reducible refine (vec_Le.calls 0 0 0 a0_0 a0_1 a0_2 true _ A2.out).mono ?_
 rintro e w8 ⟨rfl,hb⟩
 refine ⟨_,rfl, ?_⟩
 replace BK1:=am_ (blk_below (zb_ BK1) hb)
 replace HB:=am_ (below_step (zl1_ HB GE1) hb)
 (try clear hb)
 (try clear hb2)
 (try clear hk)
 (try clear hi)
 refine hK.out _ _ ⟨(blk_cell BK1.out 0).trans rfl,(blk_cell BK1.out 1).trans rfl,(blk_cell BK1.out 2).trans rfl⟩ (fun hHeld=> ?_)
 clear hK K
 refine no_ (N:=some 5) ?_
 refine pu_ (i:=3) (N:=some 6) (bt_ 9 15) HT_ ?_
 refine tk_ (i:=4) (N:=some 7) (bt_ 9 31) HT_ HW_ hHeld ?_
 refine on_ (i:=5) (N:=some 8) (bt_ 9 63) HT_ (fun K hK=> ?_)
 refine gs_ Try.func125 #[] ?_
 with_reducible refine (vec_Most.calls t3 t4 t5 _ A4.out).mono ?_
 rintro e w9 ⟨rfl,hb⟩
 refine ⟨_,rfl, ?_⟩
 replace BK1:=am_ (blk_below (zb_ BK1) hb)
 replace HB:=am_ (below_step (zl1_ HB GE1) hb)
 (try clear hb)
 (try clear hb2)
 (try clear hk)
 (try clear hi)
 refine hK.out _ _ ⟨(blk_cell BK1.out 0).trans rfl,(blk_cell BK1.out 1).trans rfl,(blk_cell BK1.out 2).trans rfl⟩ (fun hHeld=> ?_)
 clear hK K
 refine no_ (N:=some 8) ?_
 refine on_ (i:=6) (N:=some 9) (bt_ 9 127) HT_ (fun K hK=> ?_)
 refine gs_ Try.func114 #[.agg #[.int .i64 a0_0, .int .i64 a0_1, .int .i64 a0_2], .agg #[.int .i64 t3, .int .i64 t4, .int .i64 t5]] ?_
 with_reducible refine (vec_Le.calls a0_0 a0_1 a0_2 t3 t4 t5 t6 _ A5.out).mono ?_
 rintro e w10 ⟨rfl,hb⟩
 refine ⟨_,rfl, ?_⟩
 replace BK1:=am_ (blk_below (zb_ BK1) hb)
 replace HB:=am_ (below_step (zl1_ HB GE1) hb)
 (try clear hb)
 (try clear hb2)
 (try clear hk)
 (try clear hi)
 refine hK.out _ _ ⟨(blk_cell BK1.out 0).trans rfl,(blk_cell BK1.out 1).trans rfl,(blk_cell BK1.out 2).trans rfl⟩ (fun hHeld=> ?_)
 clear hK K
 refine no_ (N:=some 9) ?_
 refine pu_ (i:=7) (N:=some 10) (bt_ 9 255) HT_ ?_
 refine pu_ (i:=8) (N:=some 2) (bt_ 9 511) HT_ ?_
 refine done_ (done_of HT_.out (by kernel_rfl)) ?_
 try go_wp2
 go_ret
 exact ⟨by first|rfl|(simp [errW_none,errW_some]<;>rfl)|(simp [*,errW_none,errW_some]<;>rfl),zl1_ HB GE1⟩
end Go.Proofs.Ytahidkjncljkaaa.Print

namespace Go.Proofs.Ytahidkjncljkaaa.Print
open Go.RowKit Go.Proofs.YtahidkjncljkaaaW.PrintWords Go.Proofs.YtahidkjncljkaaaW.PrintLast Go.Proofs.YtahidkjncljkaaaW.PrintMore
section
variable {P:Program} {ops:Array Oper} {rest:List Oper} {o:Oper} {a:Act} {Q:Exit→Act→World→Prop} {Kc:Act→World→Prop} {W:World}
theorem put_run {gb e:Nat} {zs:Array Value} (hh:W.heap[gb]?=some (.cells zs e (0,0))) (t:TypeId) (u:Value) (off:Nat) (seg:List Value) (hu:u.cells.toList=seg) (ht:(P.info? t).map (·.size)=some seg.length) (hfit:off+seg.length≤zs.size) (h1: ∀q∈seg,q.oneCell'=true):
  ∃w' cur,(Instr.storeAt t (.pointer (some ⟨gb,off,none⟩)) u).run P W= .ok () w'∧w'.heap[gb]?=some (.cells cur e (0,0))∧cur.size=zs.size∧cur.toList=zs.toList.take off++seg++zs.toList.drop (off+seg.length)∧W.grownBy w' (some gb):=by
 have hrun:=run_store_run (P:=P) t u seg hh hu ht (o:=off) hfit h1
 obtain ⟨cur,hc,hs,hl⟩:=setCells_row seg off W zs hh hfit
 obtain ⟨s1,s2,s3,s4⟩:=setCells_same gb seg off W
 exact ⟨_,cur,hrun,hc,hs,hl,⟨s1,s2,s3,by rw [s4];exact Nat.le_refl _,fun k hk hne=>setCells_far seg off k (by rintro rfl;exact hne rfl)⟩⟩
theorem store_all {gb e:Nat} {zs:Array Value} (hh:W.heap[gb]?=some (.cells zs e (0,0))) (t:TypeId) (p x:Operand) (ho:o.op= .store t p x) (hN:o.dst=none) (hgd:o.guard=none) (u:Value) (seg:List Value)
  (hp:a.eval p= .pointer (some ⟨gb,0,none⟩)) (hx:a.eval x=u) (hu:u.cells.toList=seg) (ht:(P.info? t).map (·.size)=some seg.length) (hz:zs.size=seg.length) (h1: ∀q∈seg,q.oneCell'=true)
  (h: ∀w',w'.heap[gb]?=some (.cells seg.toArray e (0,0))→W.grownBy w' (some gb)→wpList P ops Q rest a w'):wpList P ops Q (o::rest) a W:=by
 obtain ⟨w',cur,hrun,hc,hs,hl,hg⟩:=put_run (P:=P) hh t u 0 seg hu ht (by omega) h1
 have e1:cur=seg.toArray:=by
  apply Array.ext'
  rw [hl,List.take_zero,List.nil_append,Nat.zero_add,List.drop_of_length_le (by simp [Array.length_toList];omega),List.append_nil]
 subst e1
 refine wpList_plain hgd fun K hK=> ?_
 unfold Oper.wp execOp
 simp only [ho,hp,hx,Sem.run_bind,Sem.run_pure,Result.andThen_ok,hrun]
 show K (a.put o.dst undef) _
 rw [hN]
 exact hK a _ (h _ hc hg)
theorem store_part {gb e:Nat} {zs:Array Value} (hh:W.heap[gb]?=some (.cells zs e (0,0))) (t:TypeId) (p x:Operand) (ho:o.op= .store t p x) (hN:o.dst=none) (hgd:o.guard=none) (off:Nat) (u:Value) (seg new:List Value)
  (hp:a.eval p= .pointer (some ⟨gb,off,none⟩)) (hx:a.eval x=u) (hu:u.cells.toList=seg) (ht:(P.info? t).map (·.size)=some seg.length) (hz:off+seg.length≤zs.size) (h1: ∀q∈seg,q.oneCell'=true) (hnew:zs.toList.take off++seg++zs.toList.drop (off+seg.length)=new)
  (h: ∀w',w'.heap[gb]?=some (.cells new.toArray e (0,0))→W.grownBy w' (some gb)→wpList P ops Q rest a w'):wpList P ops Q (o::rest) a W:=by
 obtain ⟨w',cur,hrun,hc,hs,hl,hg⟩:=put_run (P:=P) hh t u off seg hu ht hz h1
 have e1:cur=new.toArray:=by
  apply Array.ext'
  rw [hl,hnew]
 subst e1
 refine wpList_plain hgd fun K hK=> ?_
 unfold Oper.wp execOp
 simp only [ho,hp,hx,Sem.run_bind,Sem.run_pure,Result.andThen_ok,hrun]
 show K (a.put o.dst undef) _
 rw [hN]
 exact hK a _ (h _ hc hg)
end
theorem R_put {α:Type} {d:Kd α} {e base:Nat} {w w1:World} {v:Value} {xs:List α} (h:d.R e w base (fun _=>True) v xs) {g t:Nat} {cells:Array Value} (hb:w.heap[g]?=some (.cells cells t (0,0))) (ht: ∀q,q∈e::d.E→q≠t) (hg:w.grownBy w1 (some g)):d.R e w1 base (fun _=>True) v xs:=
 Kd.R_mono (Kd.R_grown (Kd.R_types h hb ht) hg (fun _ hk e=>hk.2 (Option.some.inj e))) (fun _ _=>trivial)
theorem below_put {a w w1:World} {base g:Nat} (h:Below base a w) (hb:base≤w.heap.size) (hg:w.grownBy w1 (some g)) (hge:base≤g):Below base a w1:=pw_below_grown h (some g) hb hg (fun k e=>by cases e;exact hge)
theorem blk_put_other {w w1:World} {g k:Nat} {ob:Obj} (h:w.heap[k]?=some ob) (hg:w.grownBy w1 (some g)) (hne:k≠g):w1.heap[k]?=some ob:=by
  rw [hg.block k (by
    rcases Nat.lt_or_ge k w.heap.size with hl|hl
    · exact hl
    rw [Array.getElem?_eq_none hl] at h;cases h) (by intro e;cases e;exact hne rfl)]
  exact h
end Go.Proofs.Ytahidkjncljkaaa.Print

namespace Go.Proofs.Ytahidkjncljkaaa.Print
open Go.RowKit Go.Proofs.YtahidkjncljkaaaW.PrintWords Go.Proofs.YtahidkjncljkaaaW.PrintLast Go.Proofs.YtahidkjncljkaaaW.PrintMore
attribute [local go_sem] max2_int min2_int max_two min_two max_three min_three max_four min_four

end Go.Proofs.Ytahidkjncljkaaa.Print

namespace Go.Proofs.Ytahidkjncljkaaa.Print
open Go.RowKit Go.Proofs.YtahidkjncljkaaaW.PrintWords Go.Proofs.YtahidkjncljkaaaW.PrintLast
abbrev Item:=S79
abbrev Vec:=S37
instance baLawful:LawfulBEq ByteArray where
 eq_of_beq {a b} h:=by
  obtain ⟨a⟩:=a
  obtain ⟨b⟩:=b
  have:(a==b)=true:=h
  rw [eq_of_beq this]
 rfl {a}:=by
  obtain ⟨a⟩:=a
  show (a==a)=true
  exact beq_self_eq_true a
theorem nm_inj {a b:ByteArray}:a.toList=b.toList↔a=b:=by
  constructor
  rotate_left
  · rintro rfl;rfl
  intro h
  rw [ByteArray.toList_eq,ByteArray.toList_eq] at h
  exact ByteArray.ext (Array.toList_inj.1 h)
theorem nm_beq (a b:ByteArray):(a.toList==b.toList)=decide (a=b):=by
 rw [Bool.eq_iff_iff,beq_iff_eq,nm_inj,decide_eq_true_iff]
theorem nm_empty {a:ByteArray}:a.toList=([]:List UInt8)↔a=⟨#[]⟩:=by
 rw [←nm_inj];rw [show (ByteArray.mk #[]).toList=[] from by rw [ByteArray.toList_eq]]
theorem Ev.const {α:Type} {g:Option α} {r:α} (h:g=some r):Ev (fun _=>g) r:=⟨0,fun _ _=>h⟩
theorem w64 {n:Int} (h0: -9223372036854775808≤n) (h1:n≤9223372036854775807):wrap64 n=n:=by unfold wrap64;omega
def look (l:List Item) (n:ByteArray):Option Item:=l.find? (fun x=>x.f0=n)
theorem fidx_none {α:Type} {p:α→Bool}: ∀{l:List α} {i:Int},(∀x∈l,p x=false)→fidx p l i= -1
  |[],_,_=>rfl
  | x :: l, i, h => by
    unfold fidx
    rw [if_neg (by rw [h x (by simp)];simp)]
    exact fidx_none (fun y hy=>h y (by simp [hy]))
theorem fidx_some {α:Type} {p:α→Bool} (z:α): ∀{l:List α} {i:Int} {x:α},l.find? p=some x→ ∃j:Nat,j<l.length∧fidx p l i=i+j∧l.getD j z=x∧p x=true∧ ∀m,m<j→p (l.getD m z)=false
  |[],_,_,h=>by simp at h
  | y :: l, i, x, h => by
    unfold fidx
    by_cases hy:p y=true
    · rw [if_pos hy]
      simp only [List.find?_cons,hy] at h
      obtain rfl:=Option.some.inj h
      exact ⟨0,by simp,by simp,by simp,hy,fun m hm=>by omega⟩
    rw [if_neg hy]
    have hy':p y=false:=by simpa using hy
    simp only [List.find?_cons,hy'] at h
    obtain ⟨j,hj,h1,h2,h3,h4⟩:=fidx_some z (i:=i+1) h
    refine ⟨j+1,by simp;omega,by rw [h1];omega,by simpa using h2,h3,fun m hm=> ?_⟩
    cases m with
    |zero=>simpa using hy'
    |succ m=>simpa using h4 m (by omega)
theorem look_mem {l:List Item} {n:ByteArray} {x:Item} (h:look l n=some x):x∈l∧x.f0=n:=by
 unfold look at h
 exact ⟨List.mem_of_find?_eq_some h,by simpa using List.find?_some h⟩
inductive Chain (l:List Item):ByteArray→List ByteArray→Prop where
 |nil {n:ByteArray}:look l n=none→Chain l n []
 |cons {n:ByteArray} {x:Item} {us:List ByteArray}:look l n=some x→Chain l x.f1 us→Chain l n (n::us)
theorem Chain.det {l:List Item} {n:ByteArray} {us:List ByteArray} (h:Chain l n us): ∀{vs:List ByteArray},Chain l n vs→us=vs:=by
  induction h with
  | nil h =>
    intro vs k
    cases k with
    |nil _=>rfl
    |cons k _=>rw [h] at k;cases k
  | cons h _ ih =>
    intro vs k
    cases k with
    |nil k=>rw [h] at k;cases k
    | cons k k2 =>
      rw [h] at k
      cases k
      rw [ih k2]
theorem Chain.suffix {l:List Item} {n:ByteArray} {us:List ByteArray} (h:Chain l n us): ∀{m:ByteArray},m∈us→ ∃vs ws,us=ws++vs∧Chain l m vs∧ ∃vt,vs=m::vt:=by
  induction h with
  |nil _=>intro m hm;cases hm
  | @cons n x us h k ih =>
    intro m hm
    rcases List.mem_cons.1 hm with rfl|hm
    · exact ⟨_,[],rfl, .cons h k,_,rfl⟩
    obtain ⟨vs,ws,e,hc,he⟩:=ih hm
    exact ⟨vs,n::ws,by rw [e];rfl,hc,he⟩
theorem Chain.mem_look {l:List Item} {n:ByteArray} {us:List ByteArray} (h:Chain l n us) {m:ByteArray} (hm:m∈us): ∃x,look l m=some x:=by
 obtain ⟨vs,ws,_,hc,vt,rfl⟩:=h.suffix hm
 cases hc with
 |cons h _=>exact ⟨_,h⟩
theorem Chain.nodup {l:List Item} {n:ByteArray} {us:List ByteArray} (h:Chain l n us):us.Nodup:=by
  induction h with
  |nil _=>simp
  | @cons n x us h k ih =>
    rw [List.nodup_cons]
    refine ⟨fun hm=> ?_,ih⟩
    obtain ⟨vs,ws,e,hc,_⟩:=k.suffix hm
    have:=hc.det (.cons h k)
    rw [this] at e
    have:=congrArg List.length e
    simp at this
    omega
theorem Chain.len {l:List Item} {n:ByteArray} {us:List ByteArray} (h:Chain l n us):us.length≤l.length:=by
 have:=h.nodup.length_le_of_subset (l₂:=l.map (·.f0)) (fun m hm=>by
  obtain ⟨x,hx⟩:=h.mem_look hm
  obtain ⟨h1,rfl⟩:=look_mem hx
  exact List.mem_map_of_mem h1)
 simpa using this
def lt (a b:ByteArray):Bool:=Op.bytesLess a.toList b.toList
theorem bl_irrefl: ∀a:List UInt8,Op.bytesLess a a=false
 |[]=>rfl
 |x::a=>by unfold Op.bytesLess;simp [bl_irrefl a]
theorem bl_trans: ∀{a b c:List UInt8},Op.bytesLess a b=true→Op.bytesLess b c=true→Op.bytesLess a c=true
  |[],[],_,h,_=>by simp [Op.bytesLess] at h
  |[],_::_,[],_,k=>by simp [Op.bytesLess] at k
  |[],_::_,_::_,_,_=>by simp [Op.bytesLess]
  |_::_,[],_,h,_=>by simp [Op.bytesLess] at h
  |_::_,_::_,[],_,k=>by simp [Op.bytesLess] at k
  | x :: a, y :: b, z :: c, h, k => by
    simp only [Op.bytesLess,Bool.or_eq_true,Bool.and_eq_true,decide_eq_true_eq,beq_iff_eq] at h k ⊢
    rcases h with h|⟨rfl,h⟩
    · rcases k with k | ⟨rfl, k⟩
      · exact .inl (UInt8.lt_trans h k)
      exact .inl h
    rcases k with k|⟨rfl,k⟩
    · exact .inl k
    exact .inr ⟨rfl,bl_trans h k⟩
theorem bl_total: ∀{a b:List UInt8},Op.bytesLess a b=false→a≠b→Op.bytesLess b a=true
  |[],[],_,h=>absurd rfl h
  |[],_::_,h,_=>by simp [Op.bytesLess] at h
  |_::_,[],_,_=>by simp [Op.bytesLess]
  | x :: a, y :: b, h, k => by
    simp only [Op.bytesLess,Bool.or_eq_true,Bool.or_eq_false_iff,Bool.and_eq_false_iff,Bool.and_eq_true,decide_eq_true_eq,decide_eq_false_iff_not,beq_iff_eq,beq_eq_false_iff_ne] at h ⊢
    obtain ⟨h1,h2⟩:=h
    by_cases e:x=y
    · subst e
      rcases h2 with h2|h2
      · exact absurd rfl h2
      exact .inr ⟨rfl,bl_total h2 (fun e=>k (by rw [e]))⟩
    left
    have h3: ¬x.toNat<y.toNat:=by rwa [←UInt8.lt_iff_toNat_lt]
    have h4:x.toNat≠y.toNat:=fun q=>e (UInt8.toNat_inj.1 q)
    rw [UInt8.lt_iff_toNat_lt];omega
theorem lt_irrefl (a:ByteArray):lt a a=false:=bl_irrefl _
theorem lt_trans {a b c:ByteArray} (h:lt a b=true) (k:lt b c=true):lt a c=true:=bl_trans h k
theorem lt_total {a b:ByteArray} (h:lt a b=false) (k:a≠b):lt b a=true:=bl_total h (fun e=>k (nm_inj.1 e))
theorem lt_ne {a b:ByteArray} (h:lt a b=true):a≠b:=by rintro rfl;rw [lt_irrefl] at h;cases h
inductive Comp where|cpu|mem|pods
def Comp.of:Comp→Vec→Int| .cpu,v=>v.f0| .mem,v=>v.f1| .pods,v=>v.f2
def vadd (a b:Vec):Vec:=⟨a.f0+b.f0,a.f1+b.f1,a.f2+b.f2⟩
theorem of_vadd (c:Comp) (a b:Vec):c.of (vadd a b)=c.of a+c.of b:=by cases c<;>rfl
def MayP (v:Vec):Prop:= ∀c:Comp,0≤c.of v∧c.of v≤1099511627776
def LeP (a b:Vec):Prop:= ∀c:Comp,c.of a≤c.of b
theorem comp_all {p:Comp→Prop}:(∀c,p c)↔p .cpu∧p .mem∧p .pods:=
 ⟨fun h=>⟨h _,h _,h _⟩,fun ⟨a,b,d⟩ c=>by cases c<;>assumption⟩
instance (v:Vec):Decidable (MayP v):=decidable_of_iff _ comp_all.symm
instance (a b:Vec):Decidable (LeP a b):=decidable_of_iff _ comp_all.symm
theorem mayP_iff {a b d:Int}:MayP ⟨a,b,d⟩↔(0≤a∧a≤1099511627776)∧(0≤b∧b≤1099511627776)∧(0≤d∧d≤1099511627776):=comp_all
theorem leP_iff {a b d a' b' d':Int}:LeP ⟨a,b,d⟩ ⟨a',b',d'⟩↔a≤a'∧b≤b'∧d≤d':=comp_all
def sumBy (g:Item→Int) (l:List Item):Int:=(l.map g).sum
def csum (c:Comp) (l:List Item) (n:ByteArray):Int:=sumBy (fun y=>if y.f1=n then c.of y.f4 else 0) l
structure ItemOK (x:Item):Prop where
 name:x.f0≠⟨#[]⟩
 size:x.f0.size≤24
 lim:MayP x.f2
 own:MayP x.f3
 sub:MayP x.f4
 fit:LeP x.f4 x.f2
 ver:1≤x.f5∧x.f5≤9007199254740992
structure RightP (l:List Item):Prop where
 len:l.length≤120
 ok: ∀x∈l,ItemOK x
 sorted:l.Pairwise (fun x y=>lt x.f0 y.f0=true)
 par: ∀x∈l,x.f1=⟨#[]⟩∨ ∃y,look l x.f1=some y
 sum: ∀c:Comp,∀x∈l,c.of x.f4=c.of x.f3+csum c l x.f0
 chain: ∀x∈l,∃us,Chain l x.f0 us
theorem sorted_nodup {l:List Item} (h:l.Pairwise (fun x y=>lt x.f0 y.f0=true)):(l.map (·.f0)).Nodup:=by
 rw [List.Nodup,List.pairwise_map]
 exact h.imp (fun hxy=>lt_ne hxy)
theorem RightP.nodup {l:List Item} (h:RightP l):(l.map (·.f0)).Nodup:=sorted_nodup h.sorted
theorem look_of_mem {l:List Item} (hn:(l.map (·.f0)).Nodup) {x:Item} (hx:x∈l):look l x.f0=some x:=by
  induction l with
  |nil=>cases hx
  | cons y l ih =>
    rw [List.map_cons,List.nodup_cons] at hn
    unfold look
    rw [List.find?_cons]
    rcases List.mem_cons.1 hx with rfl|hx
    · simp
    have:y.f0≠x.f0:=fun e=>hn.1 (by rw [e];exact List.mem_map_of_mem hx)
    simp only [this,decide_false]
    exact ih hn.2 hx
theorem RightP.look {l:List Item} (h:RightP l) {x:Item} (hx:x∈l):look l x.f0=some x:=look_of_mem h.nodup hx
end Go.Proofs.Ytahidkjncljkaaa.Print

namespace Go.Proofs.Ytahidkjncljkaaa.Print
open Go.RowKit Go.Proofs.YtahidkjncljkaaaW.PrintWords Go.Proofs.YtahidkjncljkaaaW.PrintLast Go.Proofs.YtahidkjncljkaaaW.PrintMore
theorem vec_Le_eq (a b d a' b' d':Int):vec_Le.f a b d a' b' d'=some (decide (LeP ⟨a,b,d⟩ ⟨a',b',d'⟩)):=by
 unfold vec_Le.f
 by_cases h0:a≤a'<;>by_cases h1:b≤b'<;>simp [h0,h1,leP_iff]
theorem vec_May_eq (a b d:Int):vec_May.f a b d=some (decide (MayP ⟨a,b,d⟩)):=by
  unfold vec_May.f vec_Most.f
  simp only [vec_Le_eq,Option.bind_some]
  by_cases h:LeP ⟨0,0,0⟩ ⟨a,b,d⟩
  · rw [if_pos (by exact decide_eq_true h)]
    congr 1
    rw [Bool.eq_iff_iff,decide_eq_true_iff,decide_eq_true_iff,mayP_iff,leP_iff]
    rw [leP_iff] at h
    constructor<;>intro k<;>omega
  rw [if_neg (by simpa using h)]
  congr 1
  symm
  rw [decide_eq_false_iff_not,mayP_iff]
  rw [leP_iff] at h
  omega
end Go.Proofs.Ytahidkjncljkaaa.Print

namespace Go.Proofs.Ytahidkjncljkaaa.Print
open Go.RowKit Go.Proofs.YtahidkjncljkaaaW.PrintWords Go.Proofs.YtahidkjncljkaaaW.PrintLast Go.Proofs.YtahidkjncljkaaaW.PrintMore
attribute [local go_sem] max2_int min2_int max_two min_two max_three min_three max_four min_four

theorem wnx {i:Nat} (h:i<100000000):wrap64 ((i:Int)+1)=((i+1:Nat):Int):=by unfold wrap64;omega
def wmay (w:S39):Bool:=decide (w.f0≠⟨#[]⟩∧w.f0.size≤24∧MayP w.f2)
def wnames (l:List S39):List S39→Int→Int
 |[],_=>0
 |w::ws,i=>if wmay w=true then (if wplace l w.f0=i then wnames l ws (i+1) else 3) else 1
theorem wnames_drop {l:List S39} {i:Nat} (h:i<l.length):wnames l (l.drop i) i=if wmay (rd_T39 l i)=true then (if wplace l (rd_T39 l i).f0=i then wnames l (l.drop (i+1)) ((i+1:Nat):Int) else 3) else 1:=by
 rw [List.drop_eq_getElem_cons h]
 have e:rd_T39 l (i:Int)=l[i]:=by
  show l.getD (i:Int).toNat _=_
  rw [Int.toNat_natCast,List.getD_eq_getElem?_getD,List.getElem?_eq_getElem h,Option.getD_some]
 rw [e]
 rfl
set_option maxHeartbeats 8000000 in
set_option maxRecDepth 100000 in
theorem wantNames_calls (A:Option Addr) (c:Nat) (l:List S39) (w:World) (hr:Kd.C k39 w A l.length l) (hc:l.length≤c) (hl:l.length≤1000000):
    Calls Try.prog 72 #[.agg #[.slice A l.length c]] w fun e w'=>e= .returned (.int .i64 (wnames l l 0))∧Below w.heap.size w w':=by
  have hu110:=Try.underlying110
  have hu39:=Try.underlying39
  have HR:=Aside0.mk hr
  have HC:=Aside0.mk hc
  have HB:=am_ (Below.refl w.heap.size w)
  clear hr hc
  go_enter Try.func72,Try.ntmps72
  go_wp2_with (first|((with_reducible refine gate_dst (N:=1) rfl ?_);refine bx_ (N:=1) (cs:=#[.slice A l.length c]) (t:=110) ?_;intro gb1 hg w1 hbox hb;have BK1:=am_ (hbox);have GE1:=am_ ((by rw [hg];exact below_size HB.out:w.heap.size≤gb1));replace HB:=am_ (below_step HB.out hb);have EQ1:=am_ (hg);clear hb hbox hg;have cgb1_0:=(blk_cell BK1.out 0).trans rfl))
  go_loopg [8] l.length (fun kq v8 w'=> ∃i:Nat,v8= .int .i64 i∧i≤l.length∧l.length - i≤kq∧Aside0 (Below w.heap.size w w')∧Aside0 (w'.heap[gb1]?=some (.cells #[.slice A l.length c] 110 (0,0)))∧Aside0 (wnames l l 0=wnames l (l.drop i) i))
  case atStart=>exact ⟨0,rfl,by omega,by omega,HB,BK1,⟨rfl⟩⟩
  case round=>
    clear HB BK1 cgb1_0
    obtain ⟨i,rfl,hil,hkq,HB,BK1,HF⟩:=hrel
    by_cases hlt:i<l.length
    rotate_left
    · obtain rfl : i = l.length := by omega
      go_wp2
      go_ret
      refine ⟨?_,HB.out⟩
      rw [HF.out,List.drop_length]
      rfl


    have hltz:(i:Int)<(l.length:Int):=by omega
    obtain ⟨x,hx⟩: ∃x:Int,x=(i:Int):=⟨_,rfl⟩
    have HX0:=am_ (show 0≤x by omega)
    have HX1:=am_ (show x<(l.length:Int) by omega)
    have HD:=am_ (wnames_drop hlt)
    rw [←hx] at HD
    have HXI:=Aside0.mk hx
    rw [←hx]
    have hltx:x<(l.length:Int):=HX1.out
    clear hltz hx
    have p6:0≤x:=HX0.out
    have q6:x<(l.length:Int):=HX1.out
    obtain ⟨ad,e6,k0,k1,k2,k3,k4⟩:=at_T39 HR.out x p6 q6
    cases e6
    have k0:=zx_ HB k0
    have k1:=zx_ HB k1
    have k2:=zx_ HB k2
    have k3:=zx_ HB k3
    have k4:=zx_ HB k4
    replace p6:=eq_true p6
    replace q6:=eq_true q6
    have BK1_:=BK1
    by_cases hm:wmay (rd_T39 l x)=true
    rotate_left
    · have HM := hm
      unfold wmay at HM
      rw [decide_eq_true_iff] at HM
      rw [if_neg hm] at HD
      clear hm
      have HMM:=Aside0.mk HM
      clear HM
      by_cases e1:(rd_T39 l x).f0.toList.isEmpty=true
      · go_wp2_with (first | ((with_reducible refine gate_dst (N := 4) rfl ?_); refine bx_ (N := 4) (cs := #[.string ⟨#[]⟩, .string ⟨#[]⟩, .int .i64 0, .int .i64 0, .int .i64 0]) (t := 39) ?_; intro gb4 hg w4 hbox hb; replace BK1 := am_ (blk_below BK1.out hb); have BK4 := am_ (hbox); have GE4 := am_ ((by rw [hg]; exact below_size HB.out : w.heap.size ≤ gb4)); replace HB := am_ (below_step HB.out hb); have EQ4 := am_ (hg); have NE := am_ (show gb1 ≠ gb4 from by have := blk_lt BK1_.out; rw [hg]; exact Nat.ne_of_lt this); clear hb hbox hg; have cgb4_0 := (blk_cell BK4.out 0).trans rfl; have cgb4_1 := (blk_cell BK4.out 1).trans rfl; have cgb4_2 := (blk_cell BK4.out 2).trans rfl; have cgb4_3 := (blk_cell BK4.out 3).trans rfl; have cgb4_4 := (blk_cell BK4.out 4).trans rfl) | ((with_reducible refine gate_store (t := 39) (p := 4) (v := .tmp 12) rfl ?_); refine store_all BK4.out 39 (.tmp 4) (.tmp 12) rfl rfl rfl (.agg #[.string (rd_T39 l x).f0, .string (rd_T39 l x).f1, .int .i64 (rd_T39 l x).f2.f0, .int .i64 (rd_T39 l x).f2.f1, .int .i64 (rd_T39 l x).f2.f2]) [.string (rd_T39 l x).f0, .string (rd_T39 l x).f1, .int .i64 (rd_T39 l x).f2.f0, .int .i64 (rd_T39 l x).f2.f1, .int .i64 (rd_T39 l x).f2.f2] rfl rfl rfl (by kernel_rfl) rfl (by intro q hq; simp only [List.mem_cons, List.not_mem_nil, or_false] at hq; rcases hq with rfl | rfl | rfl | rfl | rfl <;> rfl) ?_; intro w5 hbk hg; clear cgb4_0 cgb4_1 cgb4_2 cgb4_3 cgb4_4; replace BK1 := am_ (blk_put_other BK1.out hg (NE.out)); replace HB := am_ (below_put HB.out (below_size HB.out) hg GE4.out); replace BK4 := am_ (hbk); clear hbk hg; have cgb4_0 := (blk_cell BK4.out 0).trans rfl; have cgb4_1 := (blk_cell BK4.out 1).trans rfl; have cgb4_2 := (blk_cell BK4.out 2).trans rfl; have cgb4_3 := (blk_cell BK4.out 3).trans rfl; have cgb4_4 := (blk_cell BK4.out 4).trans rfl))
        go_ret
        exact ⟨by rw [HF.out,←HXI.out,HD.out];rfl,HB.out⟩
      replace e1:=Bool.eq_false_iff.mpr e1
      by_cases e2:(24:Int)<((rd_T39 l x).f0.size:Int)
      · go_wp2_with (first | ((with_reducible refine gate_dst (N := 4) rfl ?_); refine bx_ (N := 4) (cs := #[.string ⟨#[]⟩, .string ⟨#[]⟩, .int .i64 0, .int .i64 0, .int .i64 0]) (t := 39) ?_; intro gb4 hg w4 hbox hb; replace BK1 := am_ (blk_below BK1.out hb); have BK4 := am_ (hbox); have GE4 := am_ ((by rw [hg]; exact below_size HB.out : w.heap.size ≤ gb4)); replace HB := am_ (below_step HB.out hb); have EQ4 := am_ (hg); have NE := am_ (show gb1 ≠ gb4 from by have := blk_lt BK1_.out; rw [hg]; exact Nat.ne_of_lt this); clear hb hbox hg; have cgb4_0 := (blk_cell BK4.out 0).trans rfl; have cgb4_1 := (blk_cell BK4.out 1).trans rfl; have cgb4_2 := (blk_cell BK4.out 2).trans rfl; have cgb4_3 := (blk_cell BK4.out 3).trans rfl; have cgb4_4 := (blk_cell BK4.out 4).trans rfl) | ((with_reducible refine gate_store (t := 39) (p := 4) (v := .tmp 12) rfl ?_); refine store_all BK4.out 39 (.tmp 4) (.tmp 12) rfl rfl rfl (.agg #[.string (rd_T39 l x).f0, .string (rd_T39 l x).f1, .int .i64 (rd_T39 l x).f2.f0, .int .i64 (rd_T39 l x).f2.f1, .int .i64 (rd_T39 l x).f2.f2]) [.string (rd_T39 l x).f0, .string (rd_T39 l x).f1, .int .i64 (rd_T39 l x).f2.f0, .int .i64 (rd_T39 l x).f2.f1, .int .i64 (rd_T39 l x).f2.f2] rfl rfl rfl (by kernel_rfl) rfl (by intro q hq; simp only [List.mem_cons, List.not_mem_nil, or_false] at hq; rcases hq with rfl | rfl | rfl | rfl | rfl <;> rfl) ?_; intro w5 hbk hg; clear cgb4_0 cgb4_1 cgb4_2 cgb4_3 cgb4_4; replace BK1 := am_ (blk_put_other BK1.out hg (NE.out)); replace HB := am_ (below_put HB.out (below_size HB.out) hg GE4.out); replace BK4 := am_ (hbk); clear hbk hg; have cgb4_0 := (blk_cell BK4.out 0).trans rfl; have cgb4_1 := (blk_cell BK4.out 1).trans rfl; have cgb4_2 := (blk_cell BK4.out 2).trans rfl; have cgb4_3 := (blk_cell BK4.out 3).trans rfl; have cgb4_4 := (blk_cell BK4.out 4).trans rfl))
        go_ret
        exact ⟨by rw [HF.out,←HXI.out,HD.out];rfl,HB.out⟩
      have HV:vec_May.f (rd_T39 l x).f2.f0 (rd_T39 l x).f2.f1 (rd_T39 l x).f2.f2=some false:=by
        rw [vec_May_eq]
        refine congrArg some (decide_eq_false fun q=>HMM.out ⟨fun h=> ?_,by omega,q⟩)
        rw [h] at e1
        rw [ByteArray.toList_eq] at e1
        exact absurd e1 (by simp)
      have HV:=Aside0.mk HV
      go_wp2_with (first|((with_reducible refine gate_dst (N:=4) rfl ?_);refine bx_ (N:=4) (cs:=#[.string ⟨#[]⟩, .string ⟨#[]⟩, .int .i64 0, .int .i64 0, .int .i64 0]) (t:=39) ?_;intro gb4 hg w4 hbox hb;replace BK1:=am_ (blk_below BK1.out hb);have BK4:=am_ (hbox);have GE4:=am_ ((by rw [hg];exact below_size HB.out:w.heap.size≤gb4));replace HB:=am_ (below_step HB.out hb);have EQ4:=am_ (hg);have NE:=am_ (show gb1≠gb4 from by have:=blk_lt BK1_.out;rw [hg];exact Nat.ne_of_lt this);clear hb hbox hg;have cgb4_0:=(blk_cell BK4.out 0).trans rfl;have cgb4_1:=(blk_cell BK4.out 1).trans rfl;have cgb4_2:=(blk_cell BK4.out 2).trans rfl;have cgb4_3:=(blk_cell BK4.out 3).trans rfl;have cgb4_4:=(blk_cell BK4.out 4).trans rfl)|((with_reducible refine gate_store (t:=39) (p:=4) (v:= .tmp 12) rfl ?_);refine store_all BK4.out 39 (.tmp 4) (.tmp 12) rfl rfl rfl (.agg #[.string (rd_T39 l x).f0, .string (rd_T39 l x).f1, .int .i64 (rd_T39 l x).f2.f0, .int .i64 (rd_T39 l x).f2.f1, .int .i64 (rd_T39 l x).f2.f2]) [.string (rd_T39 l x).f0, .string (rd_T39 l x).f1, .int .i64 (rd_T39 l x).f2.f0, .int .i64 (rd_T39 l x).f2.f1, .int .i64 (rd_T39 l x).f2.f2] rfl rfl rfl (by kernel_rfl) rfl (by intro q hq;simp only [List.mem_cons,List.not_mem_nil,or_false] at hq;rcases hq with rfl|rfl|rfl|rfl|rfl<;>rfl) ?_;intro w5 hbk hg;clear cgb4_0 cgb4_1 cgb4_2 cgb4_3 cgb4_4;replace BK1:=am_ (blk_put_other BK1.out hg (NE.out));replace HB:=am_ (below_put HB.out (below_size HB.out) hg GE4.out);replace BK4:=am_ (hbk);clear hbk hg;have cgb4_0:=(blk_cell BK4.out 0).trans rfl;have cgb4_1:=(blk_cell BK4.out 1).trans rfl;have cgb4_2:=(blk_cell BK4.out 2).trans rfl;have cgb4_3:=(blk_cell BK4.out 3).trans rfl;have cgb4_4:=(blk_cell BK4.out 4).trans rfl))
      clear k0 k1 k2 k3 k4 p6 q6
      go_wp2_with (go_at_call 111;refine (vec_May.calls _ _ _ _ _ HV.out).mono ?_;rintro e w6 ⟨rfl,hb⟩;have n0_:=am_ (blk_below BK1.out hb);have n1_:=am_ (blk_below BK4.out hb);have n2_:=am_ (below_step HB.out hb);clear BK1 BK4 HB hb cgb4_0 cgb4_1 cgb4_2 cgb4_3 cgb4_4;have BK1:=n0_;have BK4:=n1_;have HB:=n2_;clear n0_ n1_ n2_;have cgb4_0:=(blk_cell BK4.out 0).trans rfl;have cgb1_0:=(blk_cell BK1.out 0).trans rfl)
      go_ret
      exact ⟨by rw [HF.out,←HXI.out,HD.out];rfl,HB.out⟩
    have HM:=hm
    unfold wmay at HM
    rw [decide_eq_true_iff] at HM
    rw [if_pos hm] at HD
    clear hm
    have hE:(rd_T39 l x).f0.toList.isEmpty=false:=by
      cases q:(rd_T39 l x).f0.toList with
      |nil=>exact absurd (ByteArray.ext (Array.toList_inj.1 (by rw [←ByteArray.toList_eq,q]))) HM.1
      |cons _ _=>rfl
    have hS: ¬((rd_T39 l x).f0.size:Int)>24:=by have:=HM.2.1;omega
    have hS': ¬(24:Int)<((rd_T39 l x).f0.size:Int):=by have:=HM.2.1;omega
    have HV:vec_May.f (rd_T39 l x).f2.f0 (rd_T39 l x).f2.f1 (rd_T39 l x).f2.f2=some true:=by rw [vec_May_eq];exact congrArg some (decide_eq_true HM.2.2)
    have HV:=Aside0.mk HV
    clear HM
    go_wp2_with (first|((with_reducible refine gate_dst (N:=4) rfl ?_);refine bx_ (N:=4) (cs:=#[.string ⟨#[]⟩, .string ⟨#[]⟩, .int .i64 0, .int .i64 0, .int .i64 0]) (t:=39) ?_;intro gb4 hg w4 hbox hb;replace BK1:=am_ (blk_below BK1.out hb);have BK4:=am_ (hbox);have GE4:=am_ ((by rw [hg];exact below_size HB.out:w.heap.size≤gb4));replace HB:=am_ (below_step HB.out hb);have EQ4:=am_ (hg);have NE:=am_ (show gb1≠gb4 from by have:=blk_lt BK1_.out;rw [hg];exact Nat.ne_of_lt this);clear hb hbox hg;have cgb4_0:=(blk_cell BK4.out 0).trans rfl;have cgb4_1:=(blk_cell BK4.out 1).trans rfl;have cgb4_2:=(blk_cell BK4.out 2).trans rfl;have cgb4_3:=(blk_cell BK4.out 3).trans rfl;have cgb4_4:=(blk_cell BK4.out 4).trans rfl)|((with_reducible refine gate_store (t:=39) (p:=4) (v:= .tmp 12) rfl ?_);refine store_all BK4.out 39 (.tmp 4) (.tmp 12) rfl rfl rfl (.agg #[.string (rd_T39 l x).f0, .string (rd_T39 l x).f1, .int .i64 (rd_T39 l x).f2.f0, .int .i64 (rd_T39 l x).f2.f1, .int .i64 (rd_T39 l x).f2.f2]) [.string (rd_T39 l x).f0, .string (rd_T39 l x).f1, .int .i64 (rd_T39 l x).f2.f0, .int .i64 (rd_T39 l x).f2.f1, .int .i64 (rd_T39 l x).f2.f2] rfl rfl rfl (by kernel_rfl) rfl (by intro q hq;simp only [List.mem_cons,List.not_mem_nil,or_false] at hq;rcases hq with rfl|rfl|rfl|rfl|rfl<;>rfl) ?_;intro w5 hbk hg;clear cgb4_0 cgb4_1 cgb4_2 cgb4_3 cgb4_4;replace BK1:=am_ (blk_put_other BK1.out hg (NE.out));replace HB:=am_ (below_put HB.out (below_size HB.out) hg GE4.out);replace BK4:=am_ (hbk);clear hbk hg;have cgb4_0:=(blk_cell BK4.out 0).trans rfl;have cgb4_1:=(blk_cell BK4.out 1).trans rfl;have cgb4_2:=(blk_cell BK4.out 2).trans rfl;have cgb4_3:=(blk_cell BK4.out 3).trans rfl;have cgb4_4:=(blk_cell BK4.out 4).trans rfl))
    clear k0 k1 k2 k3 k4 p6 q6
    by_cases hq:wplace l (rd_T39 l x).f0=x
    · rw [if_pos hq] at HD
      have hqb:(wplace l (rd_T39 l x).f0 !=x)=false:=by rw [hq];simp
      clear hq
      go_wp2_with (first|(go_at_call 111;refine (vec_May.calls _ _ _ _ _ HV.out).mono ?_;rintro e w6 ⟨rfl,hb⟩;have n0_:=am_ (blk_below BK1.out hb);have n1_:=am_ (blk_below BK4.out hb);have n2_:=am_ (below_step HB.out hb);clear BK1 BK4 HB hb cgb4_0 cgb4_1 cgb4_2 cgb4_3 cgb4_4;have BK1:=n0_;have BK4:=n1_;have HB:=n2_;clear n0_ n1_ n2_;have cgb4_0:=(blk_cell BK4.out 0).trans rfl;have cgb1_0:=(blk_cell BK1.out 0).trans rfl)|(go_at_call 73;refine (wantFind_calls (some ad) c l (rd_T39 l x).f0 _ (Kd.C_below HR.out HB.out) HC.out).mono ?_;rintro e w7 ⟨rfl,hb⟩;have n0_:=am_ (blk_below BK1.out hb);have n2_:=am_ (below_step HB.out hb);clear BK1 BK4 HB hb;have BK1:=n0_;have HB:=n2_;clear n0_ n2_))
      go_roundg (l.length - (i+1))
      case measure=>omega
      case rel=>exact ⟨i+1,by rw [HXI.out,wnx (by omega)],by omega,by omega,HB,BK1,⟨by rw [HF.out,←HXI.out,HD.out]⟩⟩
    rw [if_neg hq] at HD
    have hqb:(wplace l (rd_T39 l x).f0 !=x)=true:=bne_iff_ne.mpr hq
    clear hq
    go_wp2_with (first|(go_at_call 111;refine (vec_May.calls _ _ _ _ _ HV.out).mono ?_;rintro e w6 ⟨rfl,hb⟩;have n0_:=am_ (blk_below BK1.out hb);have n1_:=am_ (blk_below BK4.out hb);have n2_:=am_ (below_step HB.out hb);clear BK1 BK4 HB hb cgb4_0 cgb4_1 cgb4_2 cgb4_3 cgb4_4;have BK1:=n0_;have BK4:=n1_;have HB:=n2_;clear n0_ n1_ n2_;have cgb4_0:=(blk_cell BK4.out 0).trans rfl;have cgb1_0:=(blk_cell BK1.out 0).trans rfl)|(go_at_call 73;refine (wantFind_calls (some ad) c l (rd_T39 l x).f0 _ (Kd.C_below HR.out HB.out) HC.out).mono ?_;rintro e w7 ⟨rfl,hb⟩;have n0_:=am_ (blk_below BK1.out hb);have n2_:=am_ (below_step HB.out hb);clear BK1 BK4 HB hb;have BK1:=n0_;have HB:=n2_;clear n0_ n2_))
    go_ret
    exact ⟨by rw [HF.out,←HXI.out,HD.out];rfl,HB.out⟩
end Go.Proofs.Ytahidkjncljkaaa.Print

namespace Go.Proofs.Ytahidkjncljkaaa.Print
open Go.RowKit Go.Proofs.YtahidkjncljkaaaW.PrintWords Go.Proofs.YtahidkjncljkaaaW.PrintLast Go.Proofs.YtahidkjncljkaaaW.PrintMore
open Go.Maps (Keyed)
open Go.WideMaps
theorem keyStr:Keyed Try.prog 9:=Maps.string_keyed Try.underlying9
theorem zeroInt (w:World):(zeroValue 3).run Try.prog w= .ok (.int .i64 0) w:=Try.zeroValue3 w
def MapAt (w:World) (b n:Nat) (f:ByteArray→Int):Prop:= ∃D:DataW Unit,w.ownsMap Try.prog 9 (plainElem Try.prog 3) b n D∧Maps.IsMap D∧ ∀s:ByteArray,s.size≤maxLen→D.atKey (.string s.data.toList) (.lit (.int .i64 0))= .lit (.int .i64 (f s))
theorem MapAt.made (w:World):MapAt (w.alloc (.map #[] 0)) w.heap.size 0 (fun _=>0):=⟨.map [],World.ownsMap_made _ _ _ _,Maps.isMap_empty,fun s _=>rfl⟩
theorem MapAt.lt {w:World} {b n:Nat} {f:ByteArray→Int} (h:MapAt w b n f):b<w.heap.size:=by obtain ⟨D,h,_⟩:=h;exact h.lt
theorem MapAt.kept {w w':World} {b n:Nat} {f:ByteArray→Int} (h:MapAt w b n f) (hb:w'.heap[b]?=w.heap[b]?):MapAt w' b n f:=by
 obtain ⟨D,⟨es,clock,h1,h2⟩,h3⟩:=h
 exact ⟨D,⟨es,clock,hb.trans h1,h2⟩,h3⟩
theorem MapAt.below {w w':World} {b n:Nat} {f:ByteArray→Int} (h:MapAt w b n f) (hb:Below w.heap.size w w'):MapAt w' b n f:=h.kept (hb.block b h.lt)
theorem MapAt.other {w w':World} {b n g:Nat} {f:ByteArray→Int} (h:MapAt w b n f) (hg:w.grownBy w' (some g)) (hne:b≠g):MapAt w' b n f:=h.kept (hg.block b h.lt (by intro e;cases e;exact hne rfl))
theorem MapAt.mono {w:World} {b n m:Nat} {f:ByteArray→Int} (h:MapAt w b n f) (hn:n≤m):MapAt w b m f:=by obtain ⟨D,h,q⟩:=h;exact ⟨D,h.mono hn,q⟩
theorem MapAt.look {w:World} {b n:Nat} {f:ByteArray→Int} (h:MapAt w b n f) {t:TypeId} (ht:Try.prog.underlying t=some (.map 9 3)) {s:ByteArray} (hs:s.size≤maxLen) (wq:World) (hq:wq.heap=w.heap):(Instr.lookup t (.map (some b)) (.string s) false).run Try.prog wq= .ok (.int .i64 (f s)) wq:=by
 obtain ⟨D,h,_,hf⟩:=h.kept (w':=wq) (by rw [hq])
 obtain ⟨c,hrun,hat,_⟩:=h.lookup_int keyStr ht Try.underlying3 (zeroInt _) (keyOf_string_mk Try.underlying9 hs)
 rw [hf s hs] at hat
 rw [hrun]
 simp only [DataW.lit.injEq,Lit.int.injEq,true_and] at hat
 rw [hat]
theorem str_key {s t:ByteArray}:(Lit.string s.data.toList)=(Lit.string t.data.toList)↔s=t:=by
  constructor
  rotate_left
  · rintro rfl;rfl
  intro h
  simp only [Lit.string.injEq] at h
  exact ByteArray.ext (Array.toList_inj.1 h)
def updM (f:ByteArray→Int) (s:ByteArray) (v:Int):ByteArray→Int:=fun x=>if x=s then v else f x
theorem MapAt.upd {w:World} {b n:Nat} {f:ByteArray→Int} (h:MapAt w b n f) {t:TypeId} (ht:Try.prog.underlying t=some (.map 9 3)) (hn:n<maxLen) {s:ByteArray} (hs:s.size≤maxLen) {v:Int} (hv:(Lit.int .i64 v).wf=true):
    ∃w',(Instr.mapUpdate t (.map (some b)) (.string s) (.int .i64 v)).run Try.prog w= .ok () w'∧MapAt w' b (n+1) (updM f s v)∧w.grownBy w' (some b):=by
  obtain ⟨D,h,hm,hf⟩:=h
  obtain ⟨w',hrun,ho,hg⟩:=h.update keyStr ht hn (keyOf_string_mk Try.underlying9 hs) (plainElem_int Try.underlying3 hv)
  refine ⟨w',hrun,⟨_,ho,hm.put _ _,fun x hx=> ?_⟩,hg⟩
  unfold updM
  by_cases e:x=s
  · rw [if_pos e,e,Maps.atKey_put_same hm (by trivial)]
  rw [if_neg e,Maps.atKey_put_other (fun q=>e (str_key.1 q)),hf x hx]
section
variable {ops:Array Oper} {rest:List Oper} {o:Oper} {a:Act} {Q:Exit→Act→World→Prop} {Kc:Act→World→Prop} {W:World}
theorem map_step {b n:Nat} {f:ByteArray→Int} (hm:MapAt W b n f) (hw:Region.wanted o (yielded ops a.tmps)=true) (t:TypeId) (ht:Try.prog.underlying t=some (.map 9 3)) (m x y:Operand) (ho:o.op= .mapUpdate t m x y) (hN:o.dst=none) (s:ByteArray) (v:Int)
  (h1:a.eval m= .map (some b)) (h2:a.eval x= .string s) (h3:a.eval y= .int .i64 v) (hn:n<maxLen) (hs:s.size≤maxLen) (hv:(Lit.int .i64 v).wf=true)
  (h: ∀w',MapAt w' b (n+1) (updM f s v)→W.grownBy w' (some b)→Kc a w'):if Region.wanted o (yielded ops a.tmps)=true then Oper.wp Try.prog o a W Kc Q else Kc (a.put none undef) W:=by
 obtain ⟨w',hrun,hc,hg⟩:=hm.upd ht hn hs hv
 rw [if_pos hw]
 unfold Oper.wp execOp
 simp only [ho,h1,h2,h3,Sem.run_bind,Sem.run_pure,Result.andThen_ok,hrun]
 show Kc (a.put o.dst undef) _
 rw [hN]
 exact h _ hc hg
end
end Go.Proofs.Ytahidkjncljkaaa.Print

namespace Go.Proofs.Ytahidkjncljkaaa.Print
open Go.RowKit Go.Proofs.YtahidkjncljkaaaW.PrintWords Go.Proofs.YtahidkjncljkaaaW.PrintLast Go.Proofs.YtahidkjncljkaaaW.PrintMore
def KeptB (b:Nat) (W w:World):Prop:=(∀g ob,g≠b→W.heap[g]?=some ob→w.heap[g]?=some ob)∧W.heap.size≤w.heap.size
theorem keptB_refl (b:Nat) (W:World):KeptB b W W:=⟨fun _ _ _ h=>h,Nat.le_refl _⟩
theorem keptB_below {b:Nat} {W w w1:World} (h:KeptB b W w) (hb:Below w.heap.size w w1):KeptB b W w1:=⟨fun g ob hn hg=>blk_below (h.1 g ob hn hg) hb,Nat.le_trans h.2 hb.size⟩
theorem keptB_put {b g:Nat} {W w w1:World} (h:KeptB b W w) (hg:w.grownBy w1 (some g)) (hx:g=b∨W.heap.size≤g):KeptB b W w1:=
  ⟨fun k ob hn hk=>blk_put_other (h.1 k ob hn hk) hg (fun e=>by
    rcases hx with rfl|hx
    · exact hn e
    have:=blk_lt hk
    omega),Nat.le_trans h.2 hg.size⟩
end Go.Proofs.Ytahidkjncljkaaa.Print

namespace Go.Proofs.Ytahidkjncljkaaa.Print
open Go.RowKit Go.Proofs.YtahidkjncljkaaaW.PrintWords Go.Proofs.YtahidkjncljkaaaW.PrintLast Go.Proofs.YtahidkjncljkaaaW.PrintMore
attribute [local go_sem] max2_int min2_int max_two min_two max_three min_three max_four min_four

def fstep (f:ByteArray→Int) (w:S39):ByteArray→Int:=if w.f1=⟨#[]⟩ then updM f w.f0 1 else if f w.f1>0 then updM f w.f0 (wrap64 (f w.f1+1)) else f
def fround (l:List S39) (f:ByteArray→Int):ByteArray→Int:=l.foldl fstep f
def frounds (l:List S39):Nat→(ByteArray→Int)→ByteArray→Int
 |0,f=>f
 |n+1,f=>frounds l n (fround l f)
def fillR (l:List S39):ByteArray→Int:=frounds l l.length (fun _=>0)
theorem fround_drop {l:List S39} {i:Nat} (h:i<l.length) (f:ByteArray→Int):(l.drop i).foldl fstep f=(l.drop (i+1)).foldl fstep (fstep f (rd_T39 l i)):=by
 rw [List.drop_eq_getElem_cons h,List.foldl_cons]
 have e:rd_T39 l (i:Int)=l[i]:=by
  show l.getD (i:Int).toNat _=_
  rw [Int.toNat_natCast,List.getD_eq_getElem?_getD,List.getElem?_eq_getElem h,Option.getD_some]
 rw [e]
def smallW (l:List S39):Prop:= ∀w∈l,w.f0.size≤1000000∧w.f1.size≤1000000
theorem smallW_rd {l:List S39} (h:smallW l) (i:Int):(rd_T39 l i).f0.size≤maxLen∧(rd_T39 l i).f1.size≤maxLen:=by
  show (l.getD i.toNat _).f0.size≤_∧(l.getD i.toNat _).f1.size≤_
  rw [List.getD_eq_getElem?_getD]
  cases e:l[i.toNat]? with
  |none=>exact ⟨by show (0:Nat)≤_;omega,by show (0:Nat)≤_;omega⟩
  | some x =>
    have:=h x (List.mem_of_getElem? e)
    unfold maxLen
    exact ⟨by show x.f0.size≤_;omega,by show x.f1.size≤_;omega⟩
theorem wf64 (n:Int):(Lit.int .i64 (wrap64 n)).wf=true:=by
  simp only [Lit.wf,Bool.and_eq_true,decide_eq_true_eq]
  unfold wrap64
  constructor
  · show (-9223372036854775808:Int)≤_;omega
  show _≤(9223372036854775807:Int);omega
set_option maxHeartbeats 8000000 in
set_option maxRecDepth 100000 in
theorem wantFill_calls (w W:World) (b:Nat) (A:Option Addr) (c:Nat) (l:List S39) (m0:Option Nat) (hb:W.heap[b]?=some (.cells #[.slice A l.length c, .map m0] 113 (0,0))) (hge:w.heap.size≤b) (hB:Below w.heap.size w W) (hr:Kd.C k39 w A l.length l) (hc:l.length≤c) (hl:l.length≤1000) (hs:smallW l):
    Calls Try.prog 74 #[.pointer (some ⟨b,0,none⟩)] W fun e w'=>e= .returned (.tuple #[])∧ ∃mb n,w'.heap[b]?=some (.cells #[.slice A l.length c, .map (some mb)] 113 (0,0))∧MapAt w' mb n (fillR l)∧Below w.heap.size w w'∧ ∀g ob,g≠b→W.heap[g]?=some ob→w'.heap[g]?=some ob:=by
  have hu113:=Try.underlying113
  have hu110:=Try.underlying110
  have hu39:=Try.underlying39
  have hmm:=@run_makeMap Try.prog
  have BK:=Aside0.mk hb
  have GE:=Aside0.mk hge
  have HB:=Aside0.mk hB
  have HR:=Aside0.mk hr
  have HC:=Aside0.mk hc
  have HS:=Aside0.mk hs
  have KP:=am_ (keptB_refl b W)
  have HBW:=HB
  have cb_0:=(blk_cell BK.out 0).trans rfl
  have cb_1:=(blk_cell BK.out 1).trans rfl
  clear hb hge hB hr hc hs
  go_enter Try.func74,Try.ntmps74
  have HBL:=am_ (blk_lt BK.out)
  go_wp2_with ((with_reducible refine gate_store (t:=111) (p:=8) (v:= .tmp 6) rfl ?_);refine store_part (blk_alloc BK.out _) 111 (.tmp 8) (.tmp 6) rfl rfl rfl 1 (.map (some W.heap.size)) [.map (some W.heap.size)] [.slice A l.length c, .map (some W.heap.size)] rfl rfl rfl (by kernel_rfl) (Nat.le_of_ble_eq_true (by kernel_rfl)) (by intro q hq;simp only [List.mem_cons,List.not_mem_nil,or_false] at hq;rcases hq with rfl;rfl) (by kernel_rfl) ?_;intro w2 hbk hg;clear cb_0 cb_1;have MP:=am_ ((MapAt.made W).other hg (Nat.ne_of_gt HBL.out));have n0_:=am_ (below_put (below_alloc HB.out _) (by have:=below_size HB.out;simp;omega) hg GE.out);have n1_:=am_ (keptB_put (keptB_below KP.out (below_alloc (Below.refl _ _) _)) hg (.inl rfl));have n2_:=Aside0.mk hbk;clear BK HB KP hbk hg;have BK:=n2_;have HB:=n0_;have KP:=n1_;clear n0_ n1_ n2_;have cb_0:=(blk_cell BK.out 0).trans rfl)
  go_loopg [15] l.length (fun kq v15 w'=> ∃(i mb n:Nat) (f:ByteArray→Int),v15= .int .i64 i∧i≤l.length∧l.length - i≤kq∧n≤1000*i∧Aside0 (mb≠b∧W.heap.size≤mb)∧Aside0 (w'.heap[b]?=some (.cells #[.slice A l.length c, .map (some mb)] 113 (0,0)))∧Aside0 (MapAt w' mb n f)∧Aside0 (Below w.heap.size w w')∧Aside0 (KeptB b W w')∧Aside0 (fillR l=frounds l (l.length - i) f))
  case atStart=>exact ⟨0,W.heap.size,0,fun _=>0,rfl,by omega,by omega,by omega,⟨Nat.ne_of_gt HBL.out,Nat.le_refl _⟩,BK,MP,HB,KP,⟨rfl⟩⟩
  case round=>
    clear BK MP HB KP cb_0
    obtain ⟨i,mb,n,f,rfl,hil,hkq,hn,HM,BK,MP,HB,KP,HF⟩:=hrel
    by_cases hlt:i<l.length
    rotate_left
    · obtain rfl : i = l.length := by omega
      go_wp2
      go_end0
      refine ⟨rfl,mb,n,BK.out, ?_,HB.out,KP.out.1⟩
      rw [HF.out,Nat.sub_self]
      exact MP.out


    have hltz:(i:Int)<(l.length:Int):=by omega
    have cb_0:=(blk_cell BK.out 0).trans rfl
    go_wp2
    clear cb_0
    go_loopg [23] l.length (fun kq v23 w'=> ∃(j n2:Nat) (f2:ByteArray→Int),v23= .int .i64 j∧j≤l.length∧l.length - j≤kq∧n2≤1000*i+j∧Aside0 (w'.heap[b]?=some (.cells #[.slice A l.length c, .map (some mb)] 113 (0,0)))∧Aside0 (MapAt w' mb n2 f2)∧Aside0 (Below w.heap.size w w')∧Aside0 (KeptB b W w')∧Aside0 (fround l f=(l.drop j).foldl fstep f2))
    case atStart=>exact ⟨0,n,f,rfl,by omega,by omega,by omega,BK,MP,HB,KP,⟨rfl⟩⟩
    case round=>
      clear BK MP HB KP
      obtain ⟨j,n2,f2,rfl,hjl,hkj,hn2,BK,MP,HB,KP,HG⟩:=hrel
      by_cases hjt:j<l.length
      rotate_left
      · obtain rfl : j = l.length := by omega
        go_wp2
        go_roundg (l.length - (i+1))
        case measure=>omega
        case rel=>exact ⟨i+1,mb,n2,f2,by first|rfl|go_num,by omega,Nat.le_refl _,by omega,HM,BK,MP,HB,KP,⟨by
          have e:fround l f=f2:=by rw [HG.out,List.drop_length];rfl
          rw [HF.out,show l.length - i=(l.length - (i+1))+1 by omega]
          show frounds l _ (fround l f)=_
          rw [e]⟩⟩
      have hjz:(j:Int)<(l.length:Int):=by omega
      obtain ⟨x,hx⟩: ∃x:Int,x=(j:Int):=⟨_,rfl⟩
      have HX0:=am_ (show 0≤x by omega)
      have HX1:=am_ (show x<(l.length:Int) by omega)
      have HD:=am_ (fround_drop hjt f2)
      rw [←hx] at HD
      have HXI:=Aside0.mk hx
      rw [←hx]
      have hltx:x<(l.length:Int):=HX1.out
      have SM:=am_ (smallW_rd HS.out x)
      clear hjz hx
      have p6:0≤x:=HX0.out
      have q6:x<(l.length:Int):=HX1.out
      obtain ⟨ad,e6,k0,k1,k2,k3,k4⟩:=at_T39 HR.out x p6 q6
      cases e6
      have k0:=zx_ HB k0
      have k1:=zx_ HB k1
      have k2:=zx_ HB k2
      have k3:=zx_ HB k3
      have k4:=zx_ HB k4
      replace p6:=eq_true p6
      replace q6:=eq_true q6
      by_cases e1:(rd_T39 l x).f1=⟨#[]⟩
      · have hE : (rd_T39 l x).f1.toList.isEmpty = true := by rw [e1, ByteArray.toList_eq]; rfl
        have E1:=Aside0.mk e1
        clear e1
        go_wp2_with (first|((with_reducible refine gate_dst (N:=3) rfl ?_);refine bx_ (N:=3) (cs:=#[.string ⟨#[]⟩, .string ⟨#[]⟩, .int .i64 0, .int .i64 0, .int .i64 0]) (t:=39) ?_;intro gb3 hg w4 hbox hb;have NE:=am_ (show b≠gb3 from by have:=blk_lt BK.out;rw [hg];exact Nat.ne_of_lt this);have NM:=am_ (show mb≠gb3 from by have:=MP.out.lt;rw [hg];exact Nat.ne_of_lt this);have GW:=am_ (show W.heap.size≤gb3 from by rw [hg];exact KP.out.2);have GE3:=am_ (show w.heap.size≤gb3 from by rw [hg];exact below_size HB.out);have n0_:=am_ (blk_below BK.out hb);have n1_:=am_ (MP.out.below hb);have n2_:=am_ (below_step HB.out hb);have n3_:=am_ (keptB_below KP.out hb);have BK3:=Aside0.mk hbox;clear BK MP HB KP hb hbox hg;have BK:=n0_;have MP:=n1_;have HB:=n2_;have KP:=n3_;clear n0_ n1_ n2_ n3_;have c3_0:=(blk_cell BK3.out 0).trans rfl;have c3_1:=(blk_cell BK3.out 1).trans rfl;have c3_2:=(blk_cell BK3.out 2).trans rfl;have c3_3:=(blk_cell BK3.out 3).trans rfl;have c3_4:=(blk_cell BK3.out 4).trans rfl)|((with_reducible refine gate_store (t:=39) (p:=3) (v:= .tmp 26) rfl ?_);refine store_all BK3.out 39 (.tmp 3) (.tmp 26) rfl rfl rfl (.agg #[.string (rd_T39 l x).f0, .string (rd_T39 l x).f1, .int .i64 (rd_T39 l x).f2.f0, .int .i64 (rd_T39 l x).f2.f1, .int .i64 (rd_T39 l x).f2.f2]) [.string (rd_T39 l x).f0, .string (rd_T39 l x).f1, .int .i64 (rd_T39 l x).f2.f0, .int .i64 (rd_T39 l x).f2.f1, .int .i64 (rd_T39 l x).f2.f2] rfl rfl rfl (by kernel_rfl) rfl (by intro q hq;simp only [List.mem_cons,List.not_mem_nil,or_false] at hq;rcases hq with rfl|rfl|rfl|rfl|rfl<;>rfl) ?_;intro w5 hbk hg;clear c3_0 c3_1 c3_2 c3_3 c3_4;have n0_:=am_ (blk_put_other BK.out hg NE.out);have n1_:=am_ (MP.out.other hg NM.out);have n2_:=am_ (below_put HB.out (below_size HB.out) hg GE3.out);have n3_:=am_ (keptB_put KP.out hg (.inr GW.out));have n4_:=Aside0.mk hbk;clear BK MP HB KP BK3 hbk hg;have BK:=n0_;have MP:=n1_;have HB:=n2_;have KP:=n3_;have BK3:=n4_;clear n0_ n1_ n2_ n3_ n4_;have c3_1:=(blk_cell BK3.out 1).trans rfl))
        clear k0 k1 k2 k3 k4 p6 q6
        have n0_:=am_ (blk_drew BK.out)
        have n1_:=am_ (MP.out.kept (w':=w5.drew) rfl)
        have n2_:=am_ (below_drew1 HB.out)
        have n3_:=am_ (keptB_below KP.out (below_drew1 (Below.refl _ _)))
        have n4_:=am_ (blk_drew BK3.out)
        clear BK MP HB KP BK3 c3_1
        have BK:=n0_
        have MP:=n1_
        have HB:=n2_
        have KP:=n3_
        have BK3:=n4_
        clear n0_ n1_ n2_ n3_ n4_
        refine start_ (n:=7) (S:=fun w'=>w'.cell? ⟨b,1,none⟩=some (.map (some mb))∧w'.cell? ⟨gb3,0,none⟩=some (.string (rd_T39 l x).f0)) (ds:=[6]) (bt_ 7 0) (by kernel_rfl) rfl rfl ⟨(blk_cell BK.out 1).trans rfl,(blk_cell BK3.out 0).trans rfl⟩ (fun hHeld=> ?_)
        generalize w5.drew=w9 at BK MP HB KP BK3 hHeld ⊢
        refine pv_ (i:=0) (N:=some 30) (bt_ 7 1) ?_
        refine pv_ (i:=1) (N:=some 31) (bt_ 7 3) ?_
        refine pv_ (i:=2) (N:=some 32) (bt_ 7 7) ?_
        refine tv_ (i:=3) (N:=some 33) (bt_ 7 15) hHeld ?_
        refine pv_ (i:=4) (N:=some 34) (bt_ 7 31) ?_
        refine tv_ (i:=5) (N:=some 35) (bt_ 7 63) hHeld ?_
        refine last_ (i:=6) (N:=none) (bt_ 7 127) rfl rfl (by kernel_rfl) (by decide) (fun K hK=> ?_)
        refine map_step MP.out (by rfl) 111 Try.underlying111 (.tmp 33) (.tmp 35) (.const (.int .i64 1)) rfl rfl _ _ rfl rfl rfl (by unfold maxLen;omega) SM.out.1 (by decide) ?_
        intro w10 hm hg
        have n0_:=am_ (blk_put_other BK.out hg (fun e=>HM.out.1 e.symm))
        have n1_:=Aside0.mk hm
        have n2_:=am_ (below_put HB.out (below_size HB.out) hg (Nat.le_trans (below_size HBW.out) HM.out.2))
        have n3_:=am_ (keptB_put KP.out hg (.inr HM.out.2))
        clear BK MP HB KP BK3 hm hg
        have BK:=n0_
        have MP:=n1_
        have HB:=n2_
        have KP:=n3_
        clear n0_ n1_ n2_ n3_
        refine hK.out _ _ ?_
        clear hK K hHeld
        refine done_ (by kernel_rfl) ?_
        go_wp2
        go_roundg (l.length - (j+1))
        case measure=>omega
        case rel=>exact ⟨j+1,n2+1,_,by rw [HXI.out,wnx (by omega)],by omega,Nat.le_refl _,by omega,BK,MP,HB,KP,⟨by rw [HG.out,HD.out];unfold fstep;rw [if_pos E1.out]⟩⟩
      have hE:(rd_T39 l x).f1.toList.isEmpty=false:=by
        cases q:(rd_T39 l x).f1.toList with
        |nil=>exact absurd (ByteArray.ext (Array.toList_inj.1 (by rw [←ByteArray.toList_eq,q]))) e1
        |cons _ _=>rfl
      have E1:=Aside0.mk e1
      clear e1
      go_wp2_with (first|((with_reducible refine gate_dst (N:=3) rfl ?_);refine bx_ (N:=3) (cs:=#[.string ⟨#[]⟩, .string ⟨#[]⟩, .int .i64 0, .int .i64 0, .int .i64 0]) (t:=39) ?_;intro gb3 hg w4 hbox hb;have NE:=am_ (show b≠gb3 from by have:=blk_lt BK.out;rw [hg];exact Nat.ne_of_lt this);have NM:=am_ (show mb≠gb3 from by have:=MP.out.lt;rw [hg];exact Nat.ne_of_lt this);have GW:=am_ (show W.heap.size≤gb3 from by rw [hg];exact KP.out.2);have GE3:=am_ (show w.heap.size≤gb3 from by rw [hg];exact below_size HB.out);have n0_:=am_ (blk_below BK.out hb);have n1_:=am_ (MP.out.below hb);have n2_:=am_ (below_step HB.out hb);have n3_:=am_ (keptB_below KP.out hb);have BK3:=Aside0.mk hbox;clear BK MP HB KP hb hbox hg;have BK:=n0_;have MP:=n1_;have HB:=n2_;have KP:=n3_;clear n0_ n1_ n2_ n3_;have c3_0:=(blk_cell BK3.out 0).trans rfl;have c3_1:=(blk_cell BK3.out 1).trans rfl;have c3_2:=(blk_cell BK3.out 2).trans rfl;have c3_3:=(blk_cell BK3.out 3).trans rfl;have c3_4:=(blk_cell BK3.out 4).trans rfl)|((with_reducible refine gate_store (t:=39) (p:=3) (v:= .tmp 26) rfl ?_);refine store_all BK3.out 39 (.tmp 3) (.tmp 26) rfl rfl rfl (.agg #[.string (rd_T39 l x).f0, .string (rd_T39 l x).f1, .int .i64 (rd_T39 l x).f2.f0, .int .i64 (rd_T39 l x).f2.f1, .int .i64 (rd_T39 l x).f2.f2]) [.string (rd_T39 l x).f0, .string (rd_T39 l x).f1, .int .i64 (rd_T39 l x).f2.f0, .int .i64 (rd_T39 l x).f2.f1, .int .i64 (rd_T39 l x).f2.f2] rfl rfl rfl (by kernel_rfl) rfl (by intro q hq;simp only [List.mem_cons,List.not_mem_nil,or_false] at hq;rcases hq with rfl|rfl|rfl|rfl|rfl<;>rfl) ?_;intro w5 hbk hg;clear c3_0 c3_1 c3_2 c3_3 c3_4;have n0_:=am_ (blk_put_other BK.out hg NE.out);have n1_:=am_ (MP.out.other hg NM.out);have n2_:=am_ (below_put HB.out (below_size HB.out) hg GE3.out);have n3_:=am_ (keptB_put KP.out hg (.inr GW.out));have n4_:=Aside0.mk hbk;clear BK MP HB KP BK3 hbk hg;have BK:=n0_;have MP:=n1_;have HB:=n2_;have KP:=n3_;have BK3:=n4_;clear n0_ n1_ n2_ n3_ n4_;have c3_1:=(blk_cell BK3.out 1).trans rfl))
      clear k0 k1 k2 k3 k4 p6 q6
      have cb_1:=(blk_cell BK.out 1).trans rfl
      have z0:=fun (n_:Nat)=>(show (w5.drewN n_).cell? _=some _ from cb_1)
      have z1:=fun (n_:Nat)=>(show (w5.drewN n_).cell? _=some _ from c3_1)
      have z2:=fun (n_:Nat)=>MP.out.look Try.underlying111 SM.out.2 (w5.drewN n_) rfl
      by_cases e2:0<f2 (rd_T39 l x).f1
      rotate_left
      · have E2 := Aside0.mk e2
        go_quiet (fail)
        try go_wp2
        clear z0 z1 z2 cb_1 c3_1
        replace BK:=am_ (blk_drewN BK.out nq)
        replace MP:=am_ (MP.out.kept (w':=w5.drewN nq) rfl)
        replace HB:=am_ (pw_below_drewN HB.out nq)
        replace KP:=am_ (keptB_below KP.out (pw_below_drewN (Below.refl _ _) nq))
        replace BK3:=am_ (blk_drewN BK3.out nq)
        generalize w5.drewN nq=w8 at BK MP HB KP BK3 ⊢
        go_roundg (l.length - (j+1))
        case measure=>omega
        case rel=>exact ⟨j+1,n2,f2,by rw [HXI.out,wnx (by omega)],by omega,Nat.le_refl _,by omega,BK,MP,HB,KP,⟨by rw [HG.out,HD.out];unfold fstep;rw [if_neg E1.out,if_neg (by have:=E2.out;omega)]⟩⟩
      have E2:=Aside0.mk e2
      go_quiet (fail)
      try go_wp2
      clear z0 z1 z2 cb_1 c3_1
      replace BK:=am_ (blk_drewN BK.out nq)
      replace MP:=am_ (MP.out.kept (w':=w5.drewN nq) rfl)
      replace HB:=am_ (pw_below_drewN HB.out nq)
      replace KP:=am_ (keptB_below KP.out (pw_below_drewN (Below.refl _ _) nq))
      replace BK3:=am_ (blk_drewN BK3.out nq)
      generalize w5.drewN nq=w8 at BK MP HB KP BK3 ⊢
      replace BK:=am_ (blk_drew BK.out)
      replace MP:=am_ (MP.out.kept (w':=w8.drew) rfl)
      replace HB:=am_ (below_drew1 HB.out)
      replace KP:=am_ (keptB_below KP.out (below_drew1 (Below.refl _ _)))
      replace BK3:=am_ (blk_drew BK3.out)
      refine start_ (n:=9) (S:=fun w'=>w'.cell? ⟨b,1,none⟩=some (.map (some mb))∧w'.cell? ⟨gb3,0,none⟩=some (.string (rd_T39 l x).f0)) (ds:=[8]) (bt_ 9 0) (by kernel_rfl) rfl rfl ⟨(blk_cell BK.out 1).trans rfl,(blk_cell BK3.out 0).trans rfl⟩ (fun hHeld=> ?_)
      generalize w8.drew=w9 at BK MP HB KP BK3 hHeld ⊢
      refine pv_ (i:=0) (N:=some 45) (bt_ 9 1) ?_
      refine pv_ (i:=1) (N:=some 46) (bt_ 9 3) ?_
      refine pv_ (i:=2) (N:=some 47) (bt_ 9 7) ?_
      refine tv_ (i:=3) (N:=some 48) (bt_ 9 15) hHeld ?_
      refine pv_ (i:=4) (N:=some 49) (bt_ 9 31) ?_
      refine tv_ (i:=5) (N:=some 50) (bt_ 9 63) hHeld ?_
      refine pv_ (i:=6) (N:=some 51) (bt_ 9 127) ?_
      refine pv_ (i:=7) (N:=some 52) (bt_ 9 255) ?_
      refine last_ (i:=8) (N:=none) (bt_ 9 511) rfl rfl (by kernel_rfl) (by decide) (fun K hK=> ?_)
      refine map_step MP.out (by rfl) 111 Try.underlying111 (.tmp 48) (.tmp 50) (.tmp 52) rfl rfl _ _ rfl rfl rfl (by unfold maxLen;omega) SM.out.1 (wf64 _) ?_
      intro w10 hm hg
      have n0_:=am_ (blk_put_other BK.out hg (fun e=>HM.out.1 e.symm))
      have n1_:=Aside0.mk hm
      have n2_:=am_ (below_put HB.out (below_size HB.out) hg (Nat.le_trans (below_size HBW.out) HM.out.2))
      have n3_:=am_ (keptB_put KP.out hg (.inr HM.out.2))
      clear BK MP HB KP BK3 hm hg
      have BK:=n0_
      have MP:=n1_
      have HB:=n2_
      have KP:=n3_
      clear n0_ n1_ n2_ n3_
      refine hK.out _ _ ?_
      clear hK K hHeld
      refine done_ (by kernel_rfl) ?_
      go_wp2
      go_roundg (l.length - (j+1))
      case measure=>omega
      case rel=>exact ⟨j+1,n2+1,_,by rw [HXI.out,wnx (by omega)],by omega,Nat.le_refl _,by omega,BK,MP,HB,KP,⟨by rw [HG.out,HD.out];unfold fstep;rw [if_neg E1.out,if_pos E2.out]⟩⟩
def vecByF (op:Int→Int→Int):List S37→Int→Int→Int→Int×Int×Int
 |[],a,b,d=>(a,b,d)
 |v::l,a,b,d=>vecByF op l (op a v.f0) (op b v.f1) (op d v.f2)
theorem vecByF_snoc (op:Int→Int→Int) (v:S37): ∀(l:List S37) (a b d:Int),vecByF op (l++ [v]) a b d=(op (vecByF op l a b d).1 v.f0,op (vecByF op l a b d).2.1 v.f1,op (vecByF op l a b d).2.2 v.f2)
 |[],_,_,_=>rfl
 |_::l,_,_,_=>vecByF_snoc op v l _ _ _
theorem vecByF_take (op:Int→Int→Int) (l:List S37) (a b d:Int) (i:Nat) (h:i<l.length):vecByF op (l.take (i+1)) a b d=(op (vecByF op (l.take i) a b d).1 (rd_T37 l i).f0,op (vecByF op (l.take i) a b d).2.1 (rd_T37 l i).f1,op (vecByF op (l.take i) a b d).2.2 (rd_T37 l i).f2):=by
 have e:rd_T37 l i=l[i]:=by simp [rd_T37,h]
 rw [List.take_succ_eq_append_getElem h,vecByF_snoc,e]
set_option maxHeartbeats 1000000 in
set_option maxRecDepth 100000 in
theorem vecBy_calls (g:Nat) (op:Int→Int→Int) (eg: ∀args w,(callFunc g args).run Try.prog w= .ok (.enter g args) w) (hop: ∀x y W,Calls Try.prog g #[.int .i64 x, .int .i64 y] W fun e w'=>e= .returned (.int .i64 (op x y))∧w'=W)
    (A:Option Addr) (c:Nat) (l:List S37) (a b d:Int) (w:World) (hr0:Kd.C k37 w A l.length l) (hc0:l.length≤c) (hm:l.length≤maxLen):
    Calls Try.prog 145 #[.func (.func g) #[] #[], .agg #[.int .i64 a, .int .i64 b, .int .i64 d], .slice A l.length c] w fun e w'=>e= .returned (.agg #[.int .i64 (vecByF op l a b d).1, .int .i64 (vecByF op l a b d).2.1, .int .i64 (vecByF op l a b d).2.2])∧Below w.heap.size w w':=by
  have hu37:=Try.underlying37
  have HR0:=Aside0.mk hr0
  have HOP:=Aside0.mk hop
  have HEG:=Aside0.mk eg
  have HBT:=am_ (vecByF_take op l a b d)
  clear hr0 hop eg
  unfold maxLen at hm
  go_enter Try.func145,Try.ntmps145
  go_wp2
  go_loopg [11] l.length (fun kq s11 wr=> ∃i:Nat,i≤l.length∧l.length - i≤kq∧s11= .int .i64 i∧Aside0 (Below w.heap.size w wr)∧Aside0 (wr.heap[w.heap.size]?=some (.cells #[.int .i64 (vecByF op (l.take i) a b d).1, .int .i64 (vecByF op (l.take i) a b d).2.1, .int .i64 (vecByF op (l.take i) a b d).2.2] 37 (0,0)))∧Aside0 (wr.heap[w.heap.size+1]?=some (.cells #[.int .i64 0, .int .i64 0, .int .i64 0] 37 (0,0))))
  case atStart=>
    exact ⟨0,by omega,by omega,rfl,⟨below_alloc (below_alloc (Below.refl _ _) _) _⟩,⟨blk_alloc (blk_new _ _) _⟩,⟨by have:=blk_new (w.alloc (.cells #[.int .i64 a, .int .i64 b, .int .i64 d] 37)) (.cells #[.int .i64 0, .int .i64 0, .int .i64 0] 37);simpa using this⟩⟩
  case round=>
    obtain ⟨i,hi,hg,rfl,HB,HF,HZ⟩:=hrel
    generalize hq:vecByF op (l.take i) a b d=q at HF
    have HQ:=Aside0.mk hq
    clear hq
    by_cases hlt:i<l.length
    rotate_left
    · obtain rfl : i = l.length := by omega
      have hq:q=vecByF op l a b d:=HQ.out.symm.trans (by rw [List.take_length])
      subst hq
      have HQ':=HQ
      clear HQ HBT
      have f0:=(blk_cell HF.out 0).trans rfl
      have f1:=(blk_cell HF.out 1).trans rfl
      have f2:=(blk_cell HF.out 2).trans rfl
      have g0:=(blk_cell HZ.out 0).trans rfl
      have g1:=(blk_cell HZ.out 1).trans rfl
      have g2:=(blk_cell HZ.out 2).trans rfl
      have z0:=blk_frozen HZ.out 0
      have z1:=blk_frozen HZ.out 1
      have z2:=blk_frozen HZ.out 2
      have hs1:w.heap.size+1<wr.heap.size:=blk_lt HZ.out
      go_wp2
      refine bodyPost_ret (results_cell_row rfl _ _ (w.heap.size+1) 37 #[.int .i64 (vecByF op l a b d).1, .int .i64 (vecByF op l a b d).2.1, .int .i64 (vecByF op l a b d).2.2] (0,0) _ rfl (blk_put (blk_put (blk_put HZ.out 0 _ rfl) 1 _ rfl) 2 _ rfl) Try.underlying37 rfl (by kernel_rfl)) rfl ?_
      exact ⟨rfl,below_set (below_set (below_set HB.out (Nat.le_succ _)) (Nat.le_succ _)) (Nat.le_succ _)⟩


    have hltz:(i:Int)<(l.length:Int):=by omega
    obtain ⟨ad,e1,h0,h1,h2⟩:=at_T37 HR0.out (i:Int) (by omega) (by omega)
    cases e1
    simp only [Int.toNat_natCast] at h0 h1 h2
    replace h0:=zx_ HB h0
    replace h1:=zx_ HB h1
    replace h2:=zx_ HB h2
    have hsz:w.heap.size+1<wr.heap.size:=blk_lt HZ.out
    go_wp2
    obtain ⟨W1,hW1⟩: ∃W1,W1=(wr.alloc (.cells #[.int .i64 (rd_T37 l i).f0, .int .i64 (rd_T37 l i).f1, .int .i64 (rd_T37 l i).f2] 37)).drew:=⟨_,rfl⟩
    have hF1:W1.heap[w.heap.size]?=some (.cells #[.int .i64 q.1, .int .i64 q.2.1, .int .i64 q.2.2] 37 (0,0)):=by rw [hW1];exact blk_alloc HF.out _
    have hZ1:W1.heap[w.heap.size+1]?=some (.cells #[.int .i64 0, .int .i64 0, .int .i64 0] 37 (0,0)):=by rw [hW1];exact blk_alloc HZ.out _
    have hV1:W1.heap[wr.heap.size]?=some (.cells #[.int .i64 (rd_T37 l i).f0, .int .i64 (rd_T37 l i).f1, .int .i64 (rd_T37 l i).f2] 37 (0,0)):=by rw [hW1];exact blk_new _ _
    have hB1:Below w.heap.size w W1:=by rw [hW1];exact below_drew (below_alloc HB.out _)
    refine wp_region_still_tail 19 (by kernel_rfl) (by kernel_rfl) ?_
    change wpStill _ _ (World.drew _) _ _ _
    rw [←hW1]
    simp only [List.take_succ_cons,List.take_zero,List.drop_succ_cons,List.drop_zero]
    have HV1:=Aside0.mk hV1
    have HF1:=Aside0.mk hF1
    have HZ1:=Aside0.mk hZ1
    have HB1:=Aside0.mk hB1
    have f0:=(blk_cell hF1 0).trans rfl
    have f1:=(blk_cell hF1 1).trans rfl
    have f2:=(blk_cell hF1 2).trans rfl
    have g0:=(blk_cell hV1 0).trans rfl
    have g1:=(blk_cell hV1 1).trans rfl
    have g2:=(blk_cell hV1 2).trans rfl
    have HW1:=Aside0.mk hW1
    clear hW1 hF1 hZ1 hV1 hB1
    have eg:=HEG.out
    repeat still_step
    still_call (HOP.out _ _ _)
    repeat still_step
    still_call (HOP.out _ _ _)
    repeat still_step
    still_call (HOP.out _ _ _)
    repeat still_step
    refine wpStill_nil ?_
    change wpList _ _ _ _ _ (World.drew _)
    rw [←HW1.out]
    have z0:=blk_frozen HF1.out 0
    have z1:=blk_frozen HF1.out 1
    have z2:=blk_frozen HF1.out 2
    have hs1:w.heap.size<W1.heap.size:=blk_lt HF1.out
    go_wp2
    have hb:=HBT.out i hlt
    rw [HQ.out] at hb
    have HH:=Aside0.mk hb
    clear hb
    go_roundg (l.length - (i+1))
    case measure=>omega
    case rel=>
      refine ⟨i+1,by omega,by omega,by go_num,⟨below_set (below_set (below_set HB1.out (Nat.le_refl _)) (Nat.le_refl _)) (Nat.le_refl _)⟩,⟨?_⟩,⟨blk_far (blk_far (blk_far HZ1.out (by simp) _) (by simp) _) (by simp) _⟩⟩
      rw [HH.out]
      exact blk_put (blk_put (blk_put HF1.out 0 _ rfl) 1 _ rfl) 2 _ rfl
theorem vecAdd1_calls (x y:Int) (W:World):Calls Try.prog 146 #[.int .i64 x, .int .i64 y] W fun e w'=>e= .returned (.int .i64 (wrap64 (x+y)))∧w'=W:=by
 go_enter Try.func146,Try.ntmps146
 go_wp2
 go_ret
 exact ⟨rfl,rfl⟩
def vec_Add.f (l0:List (S37)):Option (Int×Int×Int):=some (vecByF (fun x y=>wrap64 (x+y)) l0 0 0 0)
set_option maxHeartbeats 1000000 in
set_option maxRecDepth 100000 in
theorem vec_Add.calls (A0:Option Addr) (c0:Nat) (l0:List (S37)) (r1:Int) (r2:Int) (r3:Int) (w:World) (hr0:Kd.C k37 w A0 l0.length l0) (hc0:l0.length≤c0) (h:vec_Add.f l0=some (r1,r2,r3)):
  Calls Try.prog 115 #[.slice A0 l0.length c0] w fun e w'=>e= .returned (.agg #[.int .i64 r1, .int .i64 r2, .int .i64 r3])∧Below w.heap.size w w':=by
 have hu37:=Try.underlying37
 have hm:l0.length≤maxLen:=hr0.2.1
 have HC:=am_ (vecBy_calls 146 (fun x y=>wrap64 (x+y)) (enters_of Try.func146 (by kernel_rfl) rfl) vecAdd1_calls A0 c0 l0 0 0 0 (w.alloc (.cells #[.int .i64 0, .int .i64 0, .int .i64 0] 37)) (Kd.C_below hr0 (below_alloc (Below.refl _ _) _)) hc0 hm)
 have HH:=Aside0.mk h
 clear hr0 h
 go_enter Try.func115,Try.ntmps115
 go_wp2_with fail
 refine HC.out.mono ?_
 rintro e w1 ⟨rfl,hb⟩
 have h:=Option.some.inj (show some (vecByF (fun x y=>wrap64 (x+y)) l0 0 0 0)=some (r1,r2,r3) from HH.out)
 rw [h]
 have hZ:=blk_below (blk_new w (.cells #[.int .i64 0, .int .i64 0, .int .i64 0] 37)) hb
 have HB:=Aside0.mk hb
 have HZ:=Aside0.mk hZ
 clear h hb hZ
 have g0:=(blk_cell HZ.out 0).trans rfl
 have g1:=(blk_cell HZ.out 1).trans rfl
 have g2:=(blk_cell HZ.out 2).trans rfl
 have z0:=blk_frozen HZ.out 0
 have z1:=blk_frozen HZ.out 1
 have z2:=blk_frozen HZ.out 2
 have hs1:w.heap.size<w1.heap.size:=blk_lt HZ.out
 go_wp2
 refine bodyPost_ret (results_cell_row rfl _ _ w.heap.size 37 #[.int .i64 r1, .int .i64 r2, .int .i64 r3] (0,0) _ rfl (blk_put (blk_put (blk_put HZ.out 0 _ rfl) 1 _ rfl) 2 _ rfl) Try.underlying37 rfl (by kernel_rfl)) rfl ?_
 exact ⟨rfl,below_set (below_set (below_set (below_step (below_alloc (Below.refl _ _) _) HB.out) (Nat.le_refl _)) (Nat.le_refl _)) (Nat.le_refl _)⟩


mutual
def want_list_sums.l0:Nat→List (S39)→Int→Int→List (S39)→Option (Int)
 |0,_,_,_,_=>none
 |k+1,x9,x10,x11,x2000=>if x11<x10 then (if 0≤x11 then (if x11<(x9.length:Int) then (want_list_sums.l1 k ([]:List (S37)) x9 x10 x11 x2000 (x2000.length:Int) 0 x2000 ((rd_T39 x9 x11).f0) ((rd_T39 x9 x11).f1) ((rd_T39 x9 x11).f2.f0) ((rd_T39 x9 x11).f2.f1) ((rd_T39 x9 x11).f2.f2)) else (none)) else (none)) else (some 0)
def want_list_sums.l1:Nat→List (S37)→List (S39)→Int→Int→List (S39)→Int→Int→List (S39)→ByteArray→ByteArray→Int→Int→Int→Option (Int)
 |0,_,_,_,_,_,_,_,_,_,_,_,_,_=>none
 |k+1,x5,x9,x10,x11,x16,x17,x18,x2000,x4000,x4001,x4002,x4003,x4004=>if x18<x17 then (if 0≤x18 then (if x18<(x16.length:Int) then (if ((rd_T39 x16 x18).f1).toList=x4000.toList then (if x5.length<5864062014805 then (want_list_sums.l1 k (x5++ [(⟨(rd_T39 x16 x18).f2.f0,(rd_T39 x16 x18).f2.f1,(rd_T39 x16 x18).f2.f2⟩:S37)]) x9 x10 x11 x16 x17 (wrap64 (x18+1)) x2000 x4000 x4001 x4002 x4003 x4004) else (none)) else (want_list_sums.l1 k x5 x9 x10 x11 x16 x17 (wrap64 (x18+1)) x2000 x4000 x4001 x4002 x4003 x4004)) else (none)) else (none)) else ((vec_Add.f x5).bind fun bt9=>((vec_Le.f bt9.1 bt9.2.1 bt9.2.2 x4002 x4003 x4004).bind fun t12=>(if t12=true then (want_list_sums.l0 k x9 x10 (wrap64 (x11+1)) x2000) else (some 11))))
end
def want_list_sums.f (k:Nat) (l0_0:List (S39)):Option (Int):=want_list_sums.l0 k l0_0 (l0_0.length:Int) 0 l0_0
theorem want_list_sums.mono_l: ∀k,(∀y0 y1 y2 y3,LeO (want_list_sums.l0 k y0 y1 y2 y3) (want_list_sums.l0 (k+1) y0 y1 y2 y3))∧(∀y0 y1 y2 y3 y4 y5 y6 y7 y8 y9 y10 y11 y12,LeO (want_list_sums.l1 k y0 y1 y2 y3 y4 y5 y6 y7 y8 y9 y10 y11 y12) (want_list_sums.l1 (k+1) y0 y1 y2 y3 y4 y5 y6 y7 y8 y9 y10 y11 y12))
 |0=>⟨fun _ _ _ _ r h=>by simp [want_list_sums.l0] at h,fun _ _ _ _ _ _ _ _ _ _ _ _ _ r h=>by simp [want_list_sums.l1] at h⟩
 |k+1=>by
  obtain ⟨ih0,ih1⟩:=want_list_sums.mono_l k
  refine ⟨?_, ?_⟩
  ·intro y0 y1 y2 y3
   unfold want_list_sums.l0
   repeat' first
   |(with_reducible exact ih0 _ _ _ _)
   |(with_reducible exact ih1 _ _ _ _ _ _ _ _ _ _ _ _ _)
   |(with_reducible exact LeO.refl _)
   |(with_reducible exact LeO.none _)
   |(with_reducible refine LeO.ite ?_ ?_)
   |(with_reducible refine LeO.bind ?_ (fun _=> ?_))
   |exact ih0 _ _ _ _
   |exact ih1 _ _ _ _ _ _ _ _ _ _ _ _ _
   |exact LeO.none _
   |refine LeO.ite ?_ ?_
   |refine LeO.bind ?_ (fun _=> ?_)
  intro y0 y1 y2 y3 y4 y5 y6 y7 y8 y9 y10 y11 y12
  unfold want_list_sums.l1
  repeat' first
  |(with_reducible exact ih0 _ _ _ _)
  |(with_reducible exact ih1 _ _ _ _ _ _ _ _ _ _ _ _ _)
  |(with_reducible exact LeO.refl _)
  |(with_reducible exact LeO.none _)
  |(with_reducible refine LeO.ite ?_ ?_)
  |(with_reducible refine LeO.bind ?_ (fun _=> ?_))
  |exact ih0 _ _ _ _
  |exact ih1 _ _ _ _ _ _ _ _ _ _ _ _ _
  |exact LeO.none _
  |refine LeO.ite ?_ ?_
  |refine LeO.bind ?_ (fun _=> ?_)
theorem want_list_sums.mono: ∀a0 k,LeO (want_list_sums.f k a0) (want_list_sums.f (k+1) a0):=by
 intro a0 k
 obtain ⟨ih0,ih1⟩:=want_list_sums.mono_l k
 unfold want_list_sums.f
 repeat' first
  |(with_reducible exact ih0 _ _ _ _)
  |(with_reducible exact ih1 _ _ _ _ _ _ _ _ _ _ _ _ _)
  |(with_reducible exact LeO.refl _)
  |(with_reducible exact LeO.none _)
  |(with_reducible refine LeO.ite ?_ ?_)
  |(with_reducible refine LeO.bind ?_ (fun _=> ?_))
  |exact ih0 _ _ _ _
  |exact ih1 _ _ _ _ _ _ _ _ _ _ _ _ _
  |exact LeO.none _
  |refine LeO.ite ?_ ?_
  |refine LeO.bind ?_ (fun _=> ?_)
set_option maxHeartbeats 8000000 in
set_option maxRecDepth 100000 in
theorem want_list_sums.calls (k:Nat) (A0_0:Option Addr) (c0_0:Nat) (l0_0:List (S39)) (r:Int) (w:World) (hr0_0:Kd.C k39 w A0_0 l0_0.length l0_0) (hc0_0:l0_0.length≤c0_0) (h:want_list_sums.f k l0_0=some r):
  Calls Try.prog 75 #[.agg #[.slice A0_0 l0_0.length c0_0]] w fun e w'=>e= .returned (.int .i64 r)∧Below w.heap.size w w':=by
 have hu110:=Try.underlying110
 have hu39:=Try.underlying39
 have hu37:=Try.underlying37
 have HR0_0:=Aside0.mk hr0_0
 have HC0_0:=Aside0.mk hc0_0
 clear hr0_0 hc0_0
 have HB:=am_ (Below.refl w.heap.size w)
 have H:(want_list_sums.l0 k l0_0 (l0_0.length:Int) 0 l0_0)=some r:=h
 clear h
 have H':=Aside0.mk H
 clear H
 go_enter Try.func75,Try.ntmps75
 go_wp2_with (first|((with_reducible refine gate_dst (N:=1) rfl ?_);refine bx_ (N:=1) (cs:=#[.slice A0_0 l0_0.length c0_0]) (t:=110) ?_;intro gb1 hg w2 hbox hb;have BK1:=am_ (hbox);have GW1:=am_ ((zg0_ HB hg:w.heap.size≤gb1));have GE1:=am_ ((zg0_ HB hg:w.heap.size≤gb1));replace HB:=am_ (below_step (zl0_ HB) hb);clear hb hbox hg;have hcz3_0:=zz_ BK1 0;have hfz3_0:=blk_frozen BK1.out 0))
 go_loopg [11] k (fun kq v11 w'=> ∃(x11_1:Int),v11= .int .i64 x11_1∧Aside0 (want_list_sums.l0 kq l0_0 (l0_0.length:Int) x11_1 l0_0=some r)∧Aside0 (kq≤k)∧Aside0 (w'.heap[gb1]?=some (.cells #[(.slice A0_0 l0_0.length c0_0)] 110 (0,0)))∧Aside0 (Below w.heap.size w w'))
 case atStart=>exact ⟨(0),(by first|rfl|(simp;done)|(simp [*];done)),H',⟨Nat.le_refl _⟩,⟨by refine zk_ ?_;exact BK1.out⟩,⟨zl1_ HB GE1⟩⟩
 case round=>
  clear H'
  try clear p2
  try clear hcz3_0
  try clear hfz3_0
  obtain ⟨x11_1,rfl,HA,HK1,BK1,HB⟩:=hrel
  cases gk with
  |zero=>exact absurd HA.out (by simp [want_list_sums.l0])
  |succ k1=>
   have H:=HA.out
   clear HA
   simp only [want_list_sums.l0] at H
   by_cases c4:x11_1<(l0_0.length:Int)
   rotate_left
   ·rw [if_neg c4] at H
    have c4b0:decide (x11_1<(l0_0.length:Int))=false:=decide_eq_false c4
    clear c4
    obtain rfl:=Option.some.inj H
    go_wp2
    go_ret
    exact ⟨by first|rfl|(simp [errW_none,errW_some]<;>rfl)|(simp [*,errW_none,errW_some]<;>rfl),zl1_ HB GE1⟩

   rw [if_pos c4] at H
   have c4b0:decide (x11_1<(l0_0.length:Int))=true:=decide_eq_true c4
   clear c4
   by_cases c5:0≤x11_1
   rotate_left
   ·rw [if_neg c5] at H
    exact absurd H (by simp)
   rw [if_pos c5] at H
   have c5b0:decide (0≤x11_1)=true:=decide_eq_true c5
   clear c5
   by_cases c6:x11_1<(l0_0.length:Int)
   rotate_left
   ·rw [if_neg c6] at H
    exact absurd H (by simp)
   rw [if_pos c6] at H
   have c6b0:decide (x11_1<(l0_0.length:Int))=true:=decide_eq_true c6
   clear c6
   have H':=Aside0.mk H
   clear H
   have p2:0≤(x11_1:Int):=of_decide_eq_true zq_
   have q2:x11_1<(l0_0.length:Int):=of_decide_eq_true zq_
   obtain ⟨ad2,e2,hx2_0,hx2_1,hx2_2,hx2_3,hx2_4⟩:=at_T39 HR0_0.out x11_1 p2 q2
   cases e2
   replace hx2_0:=zx_ HB hx2_0
   replace hx2_1:=zx_ HB hx2_1
   replace hx2_2:=zx_ HB hx2_2
   replace hx2_3:=zx_ HB hx2_3
   replace hx2_4:=zx_ HB hx2_4
   replace p2:=eq_true p2
   replace q2:=eq_true q2
   go_wp2_with (first|((with_reducible refine gate_dst (N:=4) rfl ?_);refine bx_ (N:=4) (cs:=#[.string (⟨#[]⟩:ByteArray), .string (⟨#[]⟩:ByteArray), .int .i64 0, .int .i64 0, .int .i64 0]) (t:=39) ?_;intro gb3 hg w7 hbox hb;have BK3:=am_ (hbox);have GW3:=am_ ((zg1_ HB GE1 hg:w.heap.size≤gb3));have GE3:=am_ ((zg1_ HB GE1 hg:w.heap.size≤gb3));replace HB:=am_ (below_step (zl1_ HB GE1) hb);have NB1_3:=am_ ((zn_ BK1 hg:gb1≠gb3));have NB3_1:=am_ ((zm_ BK1 hg:gb3≠gb1));replace BK1:=am_ (blk_below (zb_ BK1) hb);clear hb hbox hg;have hnb8:=NB3_1.out;have hnc8:=NB1_3.out;obtain ⟨hcz9_0,hcz9_1,hcz9_2,hcz9_3,hcz9_4,hfz9_0,hfz9_1,hfz9_2,hfz9_3,hfz9_4⟩:=y5_ BK3;have hcz10_0:=zz_ BK1 0;have hfz10_0:=blk_frozen BK1.out 0))
   go_loopg [5,18] k1 (fun kq v5 v18 w'=> ∃(x5_2:List (S37)) (x18_2:Int),v18= .int .i64 x18_2∧Aside0 (want_list_sums.l1 kq x5_2 l0_0 (l0_0.length:Int) x11_1 l0_0 (l0_0.length:Int) x18_2 l0_0 ((rd_T39 l0_0 x11_1).f0) ((rd_T39 l0_0 x11_1).f1) ((rd_T39 l0_0 x11_1).f2.f0) ((rd_T39 l0_0 x11_1).f2.f1) ((rd_T39 l0_0 x11_1).f2.f2)=some r)∧Aside0 (kq≤k1)∧Aside0 (Kd.R k37 37 w' w.heap.size (fun _=>True) v5 x5_2)∧Aside0 (w'.heap[gb1]?=some (.cells #[(.slice (some ad2) l0_0.length c0_0)] 110 (0,0)))∧Aside0 (w'.heap[gb3]?=some (.cells #[.string ((rd_T39 l0_0 x11_1).f0), .string ((rd_T39 l0_0 x11_1).f1), .int .i64 ((rd_T39 l0_0 x11_1).f2.f0), .int .i64 ((rd_T39 l0_0 x11_1).f2.f1), .int .i64 ((rd_T39 l0_0 x11_1).f2.f2)] 39 (0,0)))∧Aside0 (Below w.heap.size w w'))
   case atStart=>exact ⟨(([]:List (S37))),(0),(by first|rfl|(simp;done)|(simp [*];done)),H',⟨Nat.le_refl _⟩,⟨by first|exact Kd.R_nil _ _ _ _ _|exact Kd.N_nil _ _ _ _ _|exact Kd.V_nil _ _ _ _ _|exact Kd.Q_nil _ _ _ _ _|exact Kd.S_nil _ _ _ _ _⟩,⟨zw_ BK1⟩,⟨zw_ BK3⟩,⟨zl2_ HB GE1 GE3⟩⟩
   case round=>
    clear H'
    try clear p2
    try clear q2
    try clear hx2
    try clear c4
    try clear c4b0
    try clear c5
    try clear c5b0
    try clear c6
    try clear c6b0
    try clear c7
    try clear c8
    try clear hcz10_0
    try clear hcz3_0
    try clear hcz9_0
    try clear hcz9_1
    try clear hcz9_2
    try clear hcz9_3
    try clear hcz9_4
    try clear hfz10_0
    try clear hfz3_0
    try clear hfz9_0
    try clear hfz9_1
    try clear hfz9_2
    try clear hfz9_3
    try clear hfz9_4
    try clear hx2_0
    try clear hx2_1
    try clear hx2_2
    try clear hx2_3
    try clear hx2_4
    try clear p2
    try clear q2
    obtain ⟨x5_2,x18_2,rfl,HA,HK2,HO_5,BK1,BK3,HB⟩:=hrel
    cases gk with
    |zero=>exact absurd HA.out (by simp [want_list_sums.l1])
    |succ k2=>
     have H:=HA.out
     clear HA
     simp only [want_list_sums.l1] at H
     by_cases c11:x18_2<(l0_0.length:Int)
     ·rw [if_pos c11] at H
      have c11b0:decide (x18_2<(l0_0.length:Int))=true:=decide_eq_true c11
      clear c11
      by_cases c12:0≤x18_2
      rotate_left
      ·rw [if_neg c12] at H
       exact absurd H (by simp)
      rw [if_pos c12] at H
      have c12b0:decide (0≤x18_2)=true:=decide_eq_true c12
      clear c12
      by_cases c13:x18_2<(l0_0.length:Int)
      rotate_left
      ·rw [if_neg c13] at H
       exact absurd H (by simp)
      rw [if_pos c13] at H
      have c13b0:decide (x18_2<(l0_0.length:Int))=true:=decide_eq_true c13
      clear c13
      by_cases c14:((rd_T39 l0_0 x18_2).f1).toList=((rd_T39 l0_0 x11_1).f0).toList
      rotate_left
      ·rw [if_neg c14] at H
       have c14b0:(((rd_T39 l0_0 x18_2).f1).toList==((rd_T39 l0_0 x11_1).f0).toList)=false:=beq_eq_false_iff_ne.mpr c14
       have c14b1:(((rd_T39 l0_0 x18_2).f1).toList !=((rd_T39 l0_0 x11_1).f0).toList)=true:=bne_iff_ne.mpr c14
       have H':=Aside0.mk H
       clear H
       have p4:0≤(x18_2:Int):=of_decide_eq_true zq_
       have q4:x18_2<(l0_0.length:Int):=of_decide_eq_true zq_
       obtain ⟨ad4,e4,hx4_0,hx4_1,hx4_2,hx4_3,hx4_4⟩:=at_T39 HR0_0.out x18_2 p4 q4
       obtain rfl:ad2=ad4:=(by injection e4)
       replace hx4_0:=zx_ HB hx4_0
       replace hx4_1:=zx_ HB hx4_1
       replace hx4_2:=zx_ HB hx4_2
       replace hx4_3:=zx_ HB hx4_3
       replace hx4_4:=zx_ HB hx4_4
       replace p4:=eq_true p4
       replace q4:=eq_true q4
       go_wp2_with (first|((with_reducible refine gate_dst (N:=7) rfl ?_);refine bx_ (N:=7) (cs:=#[.string (⟨#[]⟩:ByteArray), .string (⟨#[]⟩:ByteArray), .int .i64 0, .int .i64 0, .int .i64 0]) (t:=39) ?_;intro gb5 hg w23 hbox hb;replace HO_5:=am_ (Kd.R_below (zr_ HO_5) hb);have BK5:=am_ (hbox);have GW5:=am_ ((zg2_ HB GE1 GE3 hg:w.heap.size≤gb5));have GE5:=am_ ((zg2_ HB GE1 GE3 hg:w.heap.size≤gb5));replace HB:=am_ (below_step (zl2_ HB GE1 GE3) hb);have NB1_5:=am_ ((zn_ BK1 hg:gb1≠gb5));have NB5_1:=am_ ((zm_ BK1 hg:gb5≠gb1));replace BK1:=am_ (blk_below (zb_ BK1) hb);have NB3_5:=am_ ((zn_ BK3 hg:gb3≠gb5));have NB5_3:=am_ ((zm_ BK3 hg:gb5≠gb3));replace BK3:=am_ (blk_below (zb_ BK3) hb);clear hb hbox hg;have hnb24:=NB5_1.out;have hnc24:=NB1_5.out;have hnb25:=NB5_3.out;have hnc25:=NB3_5.out;obtain ⟨hcz26_0,hcz26_1,hcz26_2,hcz26_3,hcz26_4,hfz26_0,hfz26_1,hfz26_2,hfz26_3,hfz26_4⟩:=y5_ BK5;have hnb27:=NB3_1.out;have hnc27:=NB1_3.out;obtain ⟨hcz28_0,hcz28_1,hcz28_2,hcz28_3,hcz28_4⟩:=x5_ BK3;have hfz28_0:=blk_frozen BK3.out 0;have hfz28_1:=blk_frozen BK3.out 1;have hfz28_2:=blk_frozen BK3.out 2;have hfz28_3:=blk_frozen BK3.out 3;have hfz28_4:=blk_frozen BK3.out 4))
       go_roundg k2
       case measure=>have:=HK1.out;have:=HK2.out;omega
       case rel=>exact ⟨(x5_2),(wrap64 (x18_2+1)),(by first|rfl|(simp;done)|(simp [*];done)),H',⟨by have:=HK1.out;have:=HK2.out;omega⟩,⟨zy_ HO_5 BK5⟩,⟨zw_ BK1⟩,⟨zw_ BK3⟩,⟨zl3_ HB GE1 GE3 GE5⟩⟩
      rw [if_pos c14] at H
      have c14b0:(((rd_T39 l0_0 x18_2).f1).toList==((rd_T39 l0_0 x11_1).f0).toList)=true:=beq_iff_eq.mpr c14
      have c14b1:(((rd_T39 l0_0 x18_2).f1).toList !=((rd_T39 l0_0 x11_1).f0).toList)=false:=bne_eq_false_iff_eq.mpr c14
      clear c14
      by_cases c15:x5_2.length<5864062014805
      rotate_left
      ·rw [if_neg c15] at H
       exact absurd H (by simp)
      rw [if_pos c15] at H
      have LMc15:=Aside0.mk c15
      clear c15
      obtain ⟨y6,hy6⟩: ∃y_:List (S37),y_=(x5_2++ [(⟨(rd_T39 l0_0 x18_2).f2.f0,(rd_T39 l0_0 x18_2).f2.f1,(rd_T39 l0_0 x18_2).f2.f2⟩:S37)]):=⟨_,rfl⟩
      replace H:(want_list_sums.l1 k2 y6 l0_0 (l0_0.length:Int) x11_1 l0_0 (l0_0.length:Int) (wrap64 (x18_2+1)) l0_0 ((rd_T39 l0_0 x11_1).f0) ((rd_T39 l0_0 x11_1).f1) ((rd_T39 l0_0 x11_1).f2.f0) ((rd_T39 l0_0 x11_1).f2.f1) ((rd_T39 l0_0 x11_1).f2.f2))=some r:=by first|(rw [hy6];with_reducible exact H)|(have H2_:=(Option.bind_some _ _).symm.trans H;rw [hy6];with_reducible exact H2_)|(have H2_:=(Option.bind_some _ _).symm.trans H;with_reducible exact H2_)|with_reducible exact H|(rw [hy6];exact H)|exact H
      have Ny6:=Aside0.mk hy6
      clear hy6
      have H':=Aside0.mk H
      clear H
      have p4:0≤(x18_2:Int):=of_decide_eq_true zq_
      have q4:x18_2<(l0_0.length:Int):=of_decide_eq_true zq_
      obtain ⟨ad4,e4,hx4_0,hx4_1,hx4_2,hx4_3,hx4_4⟩:=at_T39 HR0_0.out x18_2 p4 q4
      obtain rfl:ad2=ad4:=(by injection e4)
      replace hx4_0:=zx_ HB hx4_0
      replace hx4_1:=zx_ HB hx4_1
      replace hx4_2:=zx_ HB hx4_2
      replace hx4_3:=zx_ HB hx4_3
      replace hx4_4:=zx_ HB hx4_4
      replace p4:=eq_true p4
      replace q4:=eq_true q4
      go_wp2_with (first|((with_reducible refine gate_dst (N:=7) rfl ?_);refine bx_ (N:=7) (cs:=#[.string (⟨#[]⟩:ByteArray), .string (⟨#[]⟩:ByteArray), .int .i64 0, .int .i64 0, .int .i64 0]) (t:=39) ?_;intro gb5 hg w16 hbox hb;replace HO_5:=am_ (Kd.R_below (zr_ HO_5) hb);have BK5:=am_ (hbox);have GW5:=am_ ((zg2_ HB GE1 GE3 hg:w.heap.size≤gb5));have GE5:=am_ ((zg2_ HB GE1 GE3 hg:w.heap.size≤gb5));replace HB:=am_ (below_step (zl2_ HB GE1 GE3) hb);have NB1_5:=am_ ((zn_ BK1 hg:gb1≠gb5));have NB5_1:=am_ ((zm_ BK1 hg:gb5≠gb1));replace BK1:=am_ (blk_below (zb_ BK1) hb);have NB3_5:=am_ ((zn_ BK3 hg:gb3≠gb5));have NB5_3:=am_ ((zm_ BK3 hg:gb5≠gb3));replace BK3:=am_ (blk_below (zb_ BK3) hb);clear hb hbox hg;have hnb17:=NB5_1.out;have hnc17:=NB1_5.out;have hnb18:=NB5_3.out;have hnc18:=NB3_5.out;obtain ⟨hcz19_0,hcz19_1,hcz19_2,hcz19_3,hcz19_4,hfz19_0,hfz19_1,hfz19_2,hfz19_3,hfz19_4⟩:=y5_ BK5;have hnb20:=NB3_1.out;have hnc20:=NB1_3.out;obtain ⟨hcz21_0,hcz21_1,hcz21_2,hcz21_3,hcz21_4⟩:=x5_ BK3;have hfz21_0:=blk_frozen BK3.out 0;have hfz21_1:=blk_frozen BK3.out 1;have hfz21_2:=blk_frozen BK3.out 2;have hfz21_3:=blk_frozen BK3.out 3;have hfz21_4:=blk_frozen BK3.out 4)|((with_reducible refine gate_builtin (b:= .append) (xs:=#[.tmp 27, .tmp 30]) rfl ?_);at_builtin;refine Kd.R_append k37 (w0:=w) w.heap.size rfl (.tmp 27) (.tmp 30) 161 37 (.agg #[(.int .i64 0),(.int .i64 0),(.int .i64 0)]) 24 rfl Try.underlying161 info37 rfl (by decide) (by omega) u5 x5_2 (⟨(rd_T39 l0_0 x18_2).f2.f0,(rd_T39 l0_0 x18_2).f2.f1,(rd_T39 l0_0 x18_2).f2.f2⟩:S37) [.int .i64 ((rd_T39 l0_0 x18_2).f2.f0), .int .i64 ((rd_T39 l0_0 x18_2).f2.f1), .int .i64 ((rd_T39 l0_0 x18_2).f2.f2)] (fun _=>True) (fun _=>False) rfl (by first|(go_simp;done)|(go_simp;rfl)) ?aP (fun _ hk=>hk.elim) ?aF ?aO ?aB ?aS ?aL ?_;(case aP=>exact k37_mkM _ _ _ (⟨(rd_T39 l0_0 x18_2).f2.f0,(rd_T39 l0_0 x18_2).f2.f1,(rd_T39 l0_0 x18_2).f2.f2⟩:S37));(case aB=>exact (zl3_ HB GE1 GE3 GE5));(case aF=>exact (fun _ _=>trivial));(case aO=>exact (by refine zt_ ?_;exact Kd.R_mono (Kd.R_far (p:=⟨gb5,4,none⟩) (Kd.R_far (p:=⟨gb5,3,none⟩) (Kd.R_far (p:=⟨gb5,2,none⟩) (Kd.R_far (p:=⟨gb5,1,none⟩) (Kd.R_far (p:=⟨gb5,0,none⟩) (Kd.R_types HO_5.out BK5.out (by decide)) (fun _ hk=>hk.2) (.string ((rd_T39 l0_0 x18_2).f0))) (fun _ hk=>hk.2) (.string ((rd_T39 l0_0 x18_2).f1))) (fun _ hk=>hk.2) (.int .i64 ((rd_T39 l0_0 x18_2).f2.f0))) (fun _ hk=>hk.2) (.int .i64 ((rd_T39 l0_0 x18_2).f2.f1))) (fun _ hk=>hk.2) (.int .i64 ((rd_T39 l0_0 x18_2).f2.f2))) (fun _ hk=>trivial)));(case aS=>exact (below_size (zl3_ HB GE1 GE3 GE5)));(case aL=>have:=LMc15.out;omega);intro v7 w22 ho hb hg hat;rw [←Ny6.out] at ho;have n0_:=am_ (blk_grown (g:=gb1) (o:= .cells #[.slice (some ad2) l0_0.length c0_0] 110 (0,0)) (zw_ BK1) hg (Kd.R_ne HO_5.out BK1.out (by decide)));have n1_:=am_ (blk_grown (g:=gb3) (o:= .cells #[.string ((rd_T39 l0_0 x11_1).f0), .string ((rd_T39 l0_0 x11_1).f1), .int .i64 ((rd_T39 l0_0 x11_1).f2.f0), .int .i64 ((rd_T39 l0_0 x11_1).f2.f1), .int .i64 ((rd_T39 l0_0 x11_1).f2.f2)] 39 (0,0)) (zw_ BK3) hg (Kd.R_ne HO_5.out BK3.out (by decide)));have n2_:=am_ (blk_grown (g:=gb5) (o:= .cells #[.string ((rd_T39 l0_0 x18_2).f0), .string ((rd_T39 l0_0 x18_2).f1), .int .i64 ((rd_T39 l0_0 x18_2).f2.f0), .int .i64 ((rd_T39 l0_0 x18_2).f2.f1), .int .i64 ((rd_T39 l0_0 x18_2).f2.f2)] 39 (0,0)) (zw_ BK5) hg (Kd.R_ne HO_5.out BK5.out (by decide)));have n3_:=am_ (hb);have n4_:=am_ (ho);clear BK1;clear BK3;clear BK5;clear HB;clear HO_5;have BK1:=n0_;have BK3:=n1_;have BK5:=n2_;have HB:=n3_;have HO8:=n4_;clear n0_ n1_ n2_ n3_ n4_;clear ho hb hg hat))
      go_roundg k2
      case measure=>have:=HK1.out;have:=HK2.out;omega
      case rel=>exact ⟨(y6),(wrap64 (x18_2+1)),(by first|rfl|(simp;done)|(simp [*];done)),H',⟨by have:=HK1.out;have:=HK2.out;omega⟩,⟨by (with_reducible repeat (first|apply Kd.R_alloc|apply Kd.R_drewN|apply Kd.R_drew));exact HO8.out⟩,⟨by refine zk_ ?_;exact BK1.out⟩,⟨by refine zk_ ?_;exact BK3.out⟩,⟨zl3_ HB GE1 GE3 GE5⟩⟩
     rw [if_neg c11] at H
     have c11b0:decide (x18_2<(l0_0.length:Int))=false:=decide_eq_false c11
     clear c11
     replace H:=Option.bind_eq_some_iff.mp H
     obtain ⟨⟨t9,t10,t11⟩,A290,H⟩:=H
     try dsimp only at H
     have A29:=Aside0.mk A290
     clear A290
     replace H:=Option.bind_eq_some_iff.mp H
     obtain ⟨t12,A300,H⟩:=H
     try dsimp only at H
     have A30:=Aside0.mk A300
     clear A300
     by_cases c31:t12=true
     ·subst c31
      have H1:(want_list_sums.l0 k2 l0_0 (l0_0.length:Int) (wrap64 (x11_1+1)) l0_0)=some r:=by rw [if_pos rfl] at H;exact H
      clear H
      have H:=H1
      clear H1
      have H':=Aside0.mk H
      clear H
      try go_wp2
      replace HO_5:=am_ (Kd.R_drew HO_5.out)
      replace BK1:=am_ (blk_drew BK1.out)
      replace BK3:=am_ (blk_drew BK3.out)
      replace HB:=am_ (below_drew1 HB.out)
      obtain ⟨Ao33,co33,eo33⟩:=Kd.R_slice HO_5.out
      (first|subst eo33|(injection eo33 with f1_ f2_ f3_;have f4_:=f1_.symm;have f5_:=f3_.symm;clear f1_ f2_ f3_;subst f4_;subst f5_))
      refine start_ (n:=6) (S:=fun w'=>w'.cell? ⟨gb3,0,none⟩=some (.string ((rd_T39 l0_0 x11_1).f0))∧w'.cell? ⟨gb3,1,none⟩=some (.string ((rd_T39 l0_0 x11_1).f1))∧w'.cell? ⟨gb3,2,none⟩=some (.int .i64 ((rd_T39 l0_0 x11_1).f2.f0))∧w'.cell? ⟨gb3,3,none⟩=some (.int .i64 ((rd_T39 l0_0 x11_1).f2.f1))∧w'.cell? ⟨gb3,4,none⟩=some (.int .i64 ((rd_T39 l0_0 x11_1).f2.f2))) (ds:=[]) (bt_ 6 0) (by kernel_rfl) rfl rfl ⟨(blk_cell BK3.out 0).trans rfl,(blk_cell BK3.out 1).trans rfl,(blk_cell BK3.out 2).trans rfl,(blk_cell BK3.out 3).trans rfl,(blk_cell BK3.out 4).trans rfl⟩ (fun hHeld=> ?_)
      generalize wr.drew=w32 at HO_5 BK1 BK3 HB hHeld ⊢
      refine pure_ (i:=0) (N:=some 33) (v:= ?_) (a':= ?_) (bt_ 6 1) rfl rfl (by kernel_rfl) (fun _ _ _ h=>h) (Or.inl ⟨by rfl, ?_⟩) ?_ ?_
      rotate_left
      ·intro w'
       go_simp
       with_reducible rfl
      rotate_left
      ·simp only [Act.put,List.setIfInBounds_toArray,List.set_cons_zero,List.set_cons_succ,i64_w,i32_w]
       rfl
      refine pure_ (i:=2) (N:=some 35) (v:= ?_) (a':= ?_) (bt_ 6 5) rfl rfl (by kernel_rfl) (fun _ _ _ h=>h) (Or.inl ⟨by rfl, ?_⟩) ?_ ?_
      rotate_left
      ·intro w'
       go_simp
       with_reducible rfl
      rotate_left
      ·simp only [Act.put,List.setIfInBounds_toArray,List.set_cons_zero,List.set_cons_succ,i64_w,i32_w]
       rfl
      refine take_ (i:=3) (N:=some 36) (v:= ?_) (a':= ?_) (bt_ 6 13) rfl rfl (by kernel_rfl) (fun _ _ _ h=>h) (Or.inl ⟨by rfl, ?_⟩) hHeld ?_ ?_
      rotate_left
      ·rintro w' ⟨s0,s1,s2,s3,s4⟩
       go_simp
       with_reducible rfl
      rotate_left
      ·simp only [Act.put,List.setIfInBounds_toArray,List.set_cons_zero,List.set_cons_succ,i64_w,i32_w]
       rfl
      refine one_ (i:=1) (N:=some 34) (bt_ 6 15) rfl rfl (by kernel_rfl) (by decide) (fun K hK=> ?_)
      refine gs_ Try.func115 #[.slice Ao33 x5_2.length co33] ?_
      with_reducible refine (vec_Add.calls _ _ x5_2 t9 t10 t11 _ ?side1 ?side2 A29.out).mono ?_
      (case side1=>exact zc_ (Kd.R_reads' HO_5.out).2.2)
      (case side2=>exact (Kd.R_reads' HO_5.out).2.1)
      rintro e w34 ⟨rfl,hb⟩
      refine ⟨_,rfl, ?_⟩
      replace HO_5:=am_ (Kd.R_below (zr_ HO_5) hb)
      replace BK1:=am_ (blk_below (zb_ BK1) hb)
      replace BK3:=am_ (blk_below (zb_ BK3) hb)
      replace HB:=am_ (below_step (zl2_ HB GE1 GE3) hb)
      (try clear hb)
      (try clear hb2)
      (try clear hk)
      (try clear hi)
      refine hK.out _ _ ⟨(blk_cell BK3.out 0).trans rfl,(blk_cell BK3.out 1).trans rfl,(blk_cell BK3.out 2).trans rfl,(blk_cell BK3.out 3).trans rfl,(blk_cell BK3.out 4).trans rfl⟩ (fun hHeld=> ?_)
      clear hK K
      refine no_ (N:=some 34) ?_
      refine one_ (i:=4) (N:=some 37) (bt_ 6 31) rfl rfl (by kernel_rfl) (by decide) (fun K hK=> ?_)
      refine gs_ Try.func114 #[.agg #[.int .i64 t9, .int .i64 t10, .int .i64 t11], .agg #[.int .i64 ((rd_T39 l0_0 x11_1).f2.f0), .int .i64 ((rd_T39 l0_0 x11_1).f2.f1), .int .i64 ((rd_T39 l0_0 x11_1).f2.f2)]] ?_
      with_reducible refine (vec_Le.calls t9 t10 t11 ((rd_T39 l0_0 x11_1).f2.f0) ((rd_T39 l0_0 x11_1).f2.f1) ((rd_T39 l0_0 x11_1).f2.f2) true _ A30.out).mono ?_
      rintro e w35 ⟨rfl,hb⟩
      refine ⟨_,rfl, ?_⟩
      replace HO_5:=am_ (Kd.R_below (zr_ HO_5) hb)
      replace BK1:=am_ (blk_below (zb_ BK1) hb)
      replace BK3:=am_ (blk_below (zb_ BK3) hb)
      replace HB:=am_ (below_step (zl2_ HB GE1 GE3) hb)
      (try clear hb)
      (try clear hb2)
      (try clear hk)
      (try clear hi)
      refine hK.out _ _ ⟨(blk_cell BK3.out 0).trans rfl,(blk_cell BK3.out 1).trans rfl,(blk_cell BK3.out 2).trans rfl,(blk_cell BK3.out 3).trans rfl,(blk_cell BK3.out 4).trans rfl⟩ (fun hHeld=> ?_)
      clear hK K
      refine no_ (N:=some 37) ?_
      refine pure_ (i:=5) (N:=some 38) (v:= ?_) (a':= ?_) (bt_ 6 63) rfl rfl (by kernel_rfl) (fun _ _ _ h=>h) (Or.inl ⟨by rfl, ?_⟩) ?_ ?_
      rotate_left
      ·intro w'
       go_simp
       with_reducible rfl
      rotate_left
      ·simp only [Act.put,List.setIfInBounds_toArray,List.set_cons_zero,List.set_cons_succ,i64_w,i32_w]
       rfl
      refine done_ (by kernel_rfl) ?_
      try go_wp2
      go_roundg k2
      case measure=>have:=HK1.out;have:=HK2.out;omega
      case rel=>exact ⟨(wrap64 (x11_1+1)),(by first|rfl|(simp;done)|(simp [*];done)),H',⟨by have:=HK1.out;have:=HK2.out;omega⟩,⟨by refine zk_ ?_;exact BK1.out⟩,⟨zl2_ HB GE1 GE3⟩⟩
     replace c31:=Bool.eq_false_iff.mpr c31
     subst c31
     have H1:(some 11)=some r:=by rw [if_neg (show¬(false=true) by decide)] at H;exact H
     clear H
     have H:=H1
     clear H1
     obtain rfl:=Option.some.inj H
     try go_wp2
     replace HO_5:=am_ (Kd.R_drew HO_5.out)
     replace BK1:=am_ (blk_drew BK1.out)
     replace BK3:=am_ (blk_drew BK3.out)
     replace HB:=am_ (below_drew1 HB.out)
     obtain ⟨Ao37,co37,eo37⟩:=Kd.R_slice HO_5.out
     (first|subst eo37|(injection eo37 with f1_ f2_ f3_;have f4_:=f1_.symm;have f5_:=f3_.symm;clear f1_ f2_ f3_;subst f4_;subst f5_))
     refine start_ (n:=6) (S:=fun w'=>w'.cell? ⟨gb3,0,none⟩=some (.string ((rd_T39 l0_0 x11_1).f0))∧w'.cell? ⟨gb3,1,none⟩=some (.string ((rd_T39 l0_0 x11_1).f1))∧w'.cell? ⟨gb3,2,none⟩=some (.int .i64 ((rd_T39 l0_0 x11_1).f2.f0))∧w'.cell? ⟨gb3,3,none⟩=some (.int .i64 ((rd_T39 l0_0 x11_1).f2.f1))∧w'.cell? ⟨gb3,4,none⟩=some (.int .i64 ((rd_T39 l0_0 x11_1).f2.f2))) (ds:=[]) (bt_ 6 0) (by kernel_rfl) rfl rfl ⟨(blk_cell BK3.out 0).trans rfl,(blk_cell BK3.out 1).trans rfl,(blk_cell BK3.out 2).trans rfl,(blk_cell BK3.out 3).trans rfl,(blk_cell BK3.out 4).trans rfl⟩ (fun hHeld=> ?_)
     generalize wr.drew=w36 at HO_5 BK1 BK3 HB hHeld ⊢
     refine pure_ (i:=0) (N:=some 33) (v:= ?_) (a':= ?_) (bt_ 6 1) rfl rfl (by kernel_rfl) (fun _ _ _ h=>h) (Or.inl ⟨by rfl, ?_⟩) ?_ ?_
     rotate_left
     ·intro w'
      go_simp
      with_reducible rfl
     rotate_left
     ·simp only [Act.put,List.setIfInBounds_toArray,List.set_cons_zero,List.set_cons_succ,i64_w,i32_w]
      rfl
     refine pure_ (i:=2) (N:=some 35) (v:= ?_) (a':= ?_) (bt_ 6 5) rfl rfl (by kernel_rfl) (fun _ _ _ h=>h) (Or.inl ⟨by rfl, ?_⟩) ?_ ?_
     rotate_left
     ·intro w'
      go_simp
      with_reducible rfl
     rotate_left
     ·simp only [Act.put,List.setIfInBounds_toArray,List.set_cons_zero,List.set_cons_succ,i64_w,i32_w]
      rfl
     refine take_ (i:=3) (N:=some 36) (v:= ?_) (a':= ?_) (bt_ 6 13) rfl rfl (by kernel_rfl) (fun _ _ _ h=>h) (Or.inl ⟨by rfl, ?_⟩) hHeld ?_ ?_
     rotate_left
     ·rintro w' ⟨s0,s1,s2,s3,s4⟩
      go_simp
      with_reducible rfl
     rotate_left
     ·simp only [Act.put,List.setIfInBounds_toArray,List.set_cons_zero,List.set_cons_succ,i64_w,i32_w]
      rfl
     refine one_ (i:=1) (N:=some 34) (bt_ 6 15) rfl rfl (by kernel_rfl) (by decide) (fun K hK=> ?_)
     refine gs_ Try.func115 #[.slice Ao37 x5_2.length co37] ?_
     with_reducible refine (vec_Add.calls _ _ x5_2 t9 t10 t11 _ ?side1 ?side2 A29.out).mono ?_
     (case side1=>exact zc_ (Kd.R_reads' HO_5.out).2.2)
     (case side2=>exact (Kd.R_reads' HO_5.out).2.1)
     rintro e w38 ⟨rfl,hb⟩
     refine ⟨_,rfl, ?_⟩
     replace HO_5:=am_ (Kd.R_below (zr_ HO_5) hb)
     replace BK1:=am_ (blk_below (zb_ BK1) hb)
     replace BK3:=am_ (blk_below (zb_ BK3) hb)
     replace HB:=am_ (below_step (zl2_ HB GE1 GE3) hb)
     (try clear hb)
     (try clear hb2)
     (try clear hk)
     (try clear hi)
     refine hK.out _ _ ⟨(blk_cell BK3.out 0).trans rfl,(blk_cell BK3.out 1).trans rfl,(blk_cell BK3.out 2).trans rfl,(blk_cell BK3.out 3).trans rfl,(blk_cell BK3.out 4).trans rfl⟩ (fun hHeld=> ?_)
     clear hK K
     refine no_ (N:=some 34) ?_
     refine one_ (i:=4) (N:=some 37) (bt_ 6 31) rfl rfl (by kernel_rfl) (by decide) (fun K hK=> ?_)
     refine gs_ Try.func114 #[.agg #[.int .i64 t9, .int .i64 t10, .int .i64 t11], .agg #[.int .i64 ((rd_T39 l0_0 x11_1).f2.f0), .int .i64 ((rd_T39 l0_0 x11_1).f2.f1), .int .i64 ((rd_T39 l0_0 x11_1).f2.f2)]] ?_
     with_reducible refine (vec_Le.calls t9 t10 t11 ((rd_T39 l0_0 x11_1).f2.f0) ((rd_T39 l0_0 x11_1).f2.f1) ((rd_T39 l0_0 x11_1).f2.f2) false _ A30.out).mono ?_
     rintro e w39 ⟨rfl,hb⟩
     refine ⟨_,rfl, ?_⟩
     replace HO_5:=am_ (Kd.R_below (zr_ HO_5) hb)
     replace BK1:=am_ (blk_below (zb_ BK1) hb)
     replace BK3:=am_ (blk_below (zb_ BK3) hb)
     replace HB:=am_ (below_step (zl2_ HB GE1 GE3) hb)
     (try clear hb)
     (try clear hb2)
     (try clear hk)
     (try clear hi)
     refine hK.out _ _ ⟨(blk_cell BK3.out 0).trans rfl,(blk_cell BK3.out 1).trans rfl,(blk_cell BK3.out 2).trans rfl,(blk_cell BK3.out 3).trans rfl,(blk_cell BK3.out 4).trans rfl⟩ (fun hHeld=> ?_)
     clear hK K
     refine no_ (N:=some 37) ?_
     refine pure_ (i:=5) (N:=some 38) (v:= ?_) (a':= ?_) (bt_ 6 63) rfl rfl (by kernel_rfl) (fun _ _ _ h=>h) (Or.inl ⟨by rfl, ?_⟩) ?_ ?_
     rotate_left
     ·intro w'
      go_simp
      with_reducible rfl
     rotate_left
     ·simp only [Act.put,List.setIfInBounds_toArray,List.set_cons_zero,List.set_cons_succ,i64_w,i32_w]
      rfl
     refine done_ (by kernel_rfl) ?_
     try go_wp2
     go_ret
     exact ⟨by first|rfl|(simp [errW_none,errW_some]<;>rfl)|(simp [*,errW_none,errW_some]<;>rfl),zl2_ HB GE1 GE3⟩
set_option maxHeartbeats 8000000 in
set_option maxRecDepth 100000 in
theorem wantMade_calls (A:Option Addr) (c:Nat) (l:List S39) (w:World) (hr:Kd.C k39 w A l.length l) (hc:l.length≤c) (hl:l.length≤1000) (hs:smallW l):
  Calls Try.prog 76 #[.slice A l.length c] w fun e w'=> ∃b mb n,e= .returned (.pointer (some ⟨b,0,none⟩))∧w.heap.size≤b∧w'.heap[b]?=some (.cells #[.slice A l.length c, .map (some mb)] 113 (0,0))∧MapAt w' mb n (fillR l)∧Below w.heap.size w w':=by
 have hu113:=Try.underlying113
 have hu110:=Try.underlying110
 have HR:=Aside0.mk hr
 have HC:=Aside0.mk hc
 have HS:=Aside0.mk hs
 have HB:=am_ (Below.refl w.heap.size w)
 clear hr hc hs
 go_enter Try.func76,Try.ntmps76
 go_wp2_with (first|((with_reducible refine gate_dst (N:=7) rfl ?_);refine bx_ (N:=7) (cs:=#[.slice A l.length c, .map none]) (t:=113) ?_;intro gb7 hg w2 hbox hb;have BK7:=am_ (hbox);have GE7:=am_ ((by rw [hg];exact below_size HB.out:w.heap.size≤gb7));replace HB:=am_ (below_step HB.out hb);have EQ7:=am_ (hg);clear hb hbox hg)|(go_at_call 74;refine (wantFill_calls w _ gb7 A c l none BK7.out GE7.out HB.out HR.out HC.out hl HS.out).mono ?_;rintro e w3 ⟨rfl,mb,n,hbk,hm,hb,_⟩;have BK:=Aside0.mk hbk;have MP:=Aside0.mk hm;have HB3:=Aside0.mk hb;clear hbk hm hb))
 go_ret
 exact ⟨gb7,mb,n,rfl,GE7.out,BK.out,MP.out,HB3.out⟩


def wloose (l:List (S39)) (w:S39):Bool:= !decide (w.f1=⟨#[]⟩) && decide (wplace l w.f1<0)
def wflat (l:List (S39)) (w:S39):Bool:=decide (fillR l w.f0=0)
noncomputable def want_Check.f (k:Nat) (l0:List (S39)):Option Int:=open Classical in
 if 120<l0.length then some 4 else if smallW l0 then (if wnames l0 l0 0=0 then (if l0.any (wloose l0)=true then some 2 else if l0.any (wflat l0)=true then some 10 else want_list_sums.f k l0) else some (wnames l0 l0 0)) else none
open Classical in
theorem want_Check.mono: ∀a0 k,LeO (want_Check.f k a0) (want_Check.f (k+1) a0):=by
 intro a0 k
 unfold want_Check.f
 repeat' first
  |(with_reducible exact want_list_sums.mono _ _)
  |(with_reducible exact LeO.refl _)
  |(with_reducible refine LeO.ite ?_ ?_)
theorem any_drop {l:List S39} (p:S39→Bool) {i:Nat} (h:i<l.length):(l.drop i).any p=(p (rd_T39 l i)||(l.drop (i+1)).any p):=by
 rw [List.drop_eq_getElem_cons h,List.any_cons]
 have e:rd_T39 l (i:Int)=l[i]:=by
  show l.getD (i:Int).toNat _=_
  rw [Int.toNat_natCast,List.getD_eq_getElem?_getD,List.getElem?_eq_getElem h,Option.getD_some]
 rw [e]
set_option maxHeartbeats 8000000 in
set_option maxRecDepth 100000 in
theorem want_Check.calls (k:Nat) (A0:Option Addr) (c0:Nat) (l0:List (S39)) (r:Int) (w:World) (hr0:Kd.C k39 w A0 l0.length l0) (hc0:l0.length≤c0) (h:want_Check.f k l0=some r):
    Calls Try.prog 26 #[.slice A0 l0.length c0] w fun e w'=>e= .returned (.int .i64 r)∧Below w.heap.size w w':=by
  obtain ⟨l,rfl⟩: ∃l,l=l0:=⟨_,rfl⟩
  obtain ⟨A,rfl⟩: ∃A,A=A0:=⟨_,rfl⟩
  obtain ⟨c,rfl⟩: ∃c,c=c0:=⟨_,rfl⟩
  have hu113:=Try.underlying113
  have hu110:=Try.underlying110
  have hu39:=Try.underlying39
  unfold want_Check.f at h
  have HR:=Aside0.mk hr0
  have HC:=Aside0.mk hc0
  have HB:=am_ (Below.refl w.heap.size w)
  clear hr0 hc0
  by_cases h1:120<l.length
  · rw [if_pos h1] at h
    obtain rfl:=Option.some.inj h
    have hz:(120:Int)<(l.length:Int):=by omega
    clear h
    go_enter Try.func26,Try.ntmps26
    go_wp2
    go_ret
    exact ⟨rfl,HB.out⟩
  rw [if_neg h1] at h
  split at h
  case isFalse=>cases h
  case isTrue hs=>
  have hl:l.length≤1000:=by omega
  have hz: ¬(120:Int)<(l.length:Int):=by omega
  have HS:=Aside0.mk hs
  have HL:=Aside0.mk hl
  have HF:=Aside0.mk h
  clear hs hl h1 h
  go_enter Try.func26,Try.ntmps26
  by_cases hn:wnames l l 0=0
  case neg=>
    rw [if_neg hn] at HF
    have hnb:(wnames l l 0 !=0)=true:=bne_iff_ne.mpr hn
    clear hn
    go_wp2_with (first|((with_reducible refine gate_dst (N:=15) rfl ?_);refine bx_ (N:=15) (cs:=#[.slice A l.length c, .map none]) (t:=113) ?_;intro gb15 hg w1 hbox hb;have BK15:=am_ (hbox);have GE15:=am_ ((by rw [hg];exact below_size HB.out:w.heap.size≤gb15));replace HB:=am_ (below_step HB.out hb);have EQ15:=am_ (hg);clear hb hbox hg;have cgb15_0:=(blk_cell BK15.out 0).trans rfl)|(go_at_call 72;refine (wantNames_calls A c l _ (Kd.C_below HR.out HB.out) HC.out (by have:=HL.out;omega)).mono ?_;rintro e w2 ⟨rfl,hb⟩;have n0_:=am_ (below_step HB.out hb);have n1_:=am_ (blk_below BK15.out hb);clear HB BK15 hb cgb15_0;have HB:=n0_;have BK15:=n1_;clear n0_ n1_))
    go_ret
    exact ⟨congrArg (fun z=>Ending.returned (.int .i64 z)) (Option.some.inj HF.out),HB.out⟩
  rw [if_pos hn] at HF
  have hnb:(wnames l l 0 !=0)=false:=by rw [hn];rfl
  clear hn
  go_wp2_with (first|((with_reducible refine gate_dst (N:=15) rfl ?_);refine bx_ (N:=15) (cs:=#[.slice A l.length c, .map none]) (t:=113) ?_;intro gb15 hg w1 hbox hb;have BK15:=am_ (hbox);have GE15:=am_ ((by rw [hg];exact below_size HB.out:w.heap.size≤gb15));replace HB:=am_ (below_step HB.out hb);have EQ15:=am_ (hg);clear hb hbox hg;have cgb15_0:=(blk_cell BK15.out 0).trans rfl)|(go_at_call 72;refine (wantNames_calls A c l _ (Kd.C_below HR.out HB.out) HC.out (by have:=HL.out;omega)).mono ?_;rintro e w2 ⟨rfl,hb⟩;have n0_:=am_ (below_step HB.out hb);have n1_:=am_ (blk_below BK15.out hb);clear HB BK15 hb cgb15_0;have HB:=n0_;have BK15:=n1_;clear n0_ n1_))
  clear hz hnb
  go_loopg [26] l.length (fun kq v26 w'=> ∃i:Nat,v26= .int .i64 i∧i≤l.length∧l.length - i≤kq∧Aside0 (Below w.heap.size w w')∧Aside0 (w'.heap[gb15]?=some (.cells #[.slice A l.length c, .map none] 113 (0,0)))∧Aside0 (l.any (wloose l)=(l.drop i).any (wloose l)))
  case atStart=>exact ⟨0,rfl,by omega,by omega,HB,BK15,⟨rfl⟩⟩
  case round=>
    clear HB BK15
    obtain ⟨i,rfl,hil,hkq,HB,BK15,HA⟩:=hrel
    by_cases hlt:i<l.length
    rotate_left
    · obtain rfl : i = l.length := by omega
      have a: ¬l.any (wloose l)=true:=by rw [HA.out,List.drop_length];simp
      rw [if_neg a] at HF
      clear a HA
      have cb15_0:=(blk_cell BK15.out 0).trans rfl
      go_wp2_with (go_at_call 74;refine (wantFill_calls w _ gb15 A c l none BK15.out GE15.out HB.out HR.out HC.out HL.out HS.out).mono ?_;rintro e w3 ⟨rfl,mb,n,hbk,hm,hb,_⟩;clear BK15 HB;have BK15:=Aside0.mk hbk;have MP:=Aside0.mk hm;have HB:=Aside0.mk hb;clear hbk hm hb cb15_0)
      go_loopg [48] l.length (fun kq v48 w'=> ∃i:Nat,v48= .int .i64 i∧i≤l.length∧l.length - i≤kq∧Aside0 (Below w.heap.size w w')∧Aside0 (w'.heap[gb15]?=some (.cells #[.slice A l.length c, .map (some mb)] 113 (0,0)))∧Aside0 (MapAt w' mb n (fillR l))∧Aside0 (l.any (wflat l)=(l.drop i).any (wflat l)))
      case atStart=>exact ⟨0,rfl,by omega,by omega,HB,BK15,MP,⟨rfl⟩⟩
      case round=>
        clear HB BK15 MP
        obtain ⟨i,rfl,hil,hkq,HB,BK15,MP,HA⟩:=hrel
        by_cases hlt:i<l.length
        rotate_left
        · obtain rfl : i = l.length := by omega
          have a: ¬l.any (wflat l)=true:=by rw [HA.out,List.drop_length];simp
          rw [if_neg a] at HF
          clear a HA
          have cb15_0:=(blk_cell BK15.out 0).trans rfl
          go_wp2_with (go_at_call 75;refine (want_list_sums.calls k A c l r _ (Kd.C_below HR.out HB.out) HC.out HF.out).mono ?_;rintro e w6 ⟨rfl,hb⟩;have n0_:=am_ (below_step HB.out hb);clear HB hb BK15 MP cb15_0;have HB:=n0_;clear n0_)
          go_ret
          exact ⟨rfl,HB.out⟩


        have hltz:(i:Int)<(l.length:Int):=by omega
        obtain ⟨x,hx⟩: ∃x:Int,x=(i:Int):=⟨_,rfl⟩
        have HX0:=am_ (show 0≤x by omega)
        have HX1:=am_ (show x<(l.length:Int) by omega)
        have HD:=am_ (any_drop (wflat l) hlt)
        rw [←hx] at HD
        have HXI:=Aside0.mk hx
        rw [←hx]
        have hltx:x<(l.length:Int):=HX1.out
        have SM:=am_ (smallW_rd HS.out x)
        clear hltz hx
        have p6:0≤x:=HX0.out
        have q6:x<(l.length:Int):=HX1.out
        obtain ⟨ad,e6,k0,k1,k2,k3,k4⟩:=at_T39 HR.out x p6 q6
        cases e6
        have k0:=zx_ HB k0
        have k1:=zx_ HB k1
        have k2:=zx_ HB k2
        have k3:=zx_ HB k3
        have k4:=zx_ HB k4
        replace p6:=eq_true p6
        replace q6:=eq_true q6
        have BK15_:=BK15
        go_wp2_with (first|((with_reducible refine gate_dst (N:=8) rfl ?_);refine bx_ (N:=8) (cs:=#[.string ⟨#[]⟩, .string ⟨#[]⟩, .int .i64 0, .int .i64 0, .int .i64 0]) (t:=39) ?_;intro gb8 hg w4 hbox hb;replace BK15:=am_ (blk_below BK15.out hb);have BK8:=am_ (hbox);have GE8:=am_ ((by rw [hg];exact below_size HB.out:w.heap.size≤gb8));replace HB:=am_ (below_step HB.out hb);have EQ8:=am_ (hg);have NM:=am_ (show mb≠gb8 from by have:=MP.out.lt;rw [hg];exact Nat.ne_of_lt this);have m_:=am_ (MP.out.below hb);clear MP;have MP:=m_;clear m_;have NE:=am_ (show gb15≠gb8 from by have:=blk_lt BK15_.out;rw [hg];exact Nat.ne_of_lt this);clear hb hbox hg;have cgb8_0:=(blk_cell BK8.out 0).trans rfl;have cgb8_1:=(blk_cell BK8.out 1).trans rfl;have cgb8_2:=(blk_cell BK8.out 2).trans rfl;have cgb8_3:=(blk_cell BK8.out 3).trans rfl;have cgb8_4:=(blk_cell BK8.out 4).trans rfl)|((with_reducible refine gate_store (t:=39) (p:=8) (v:= .tmp 51) rfl ?_);refine store_all BK8.out 39 (.tmp 8) (.tmp 51) rfl rfl rfl (.agg #[.string (rd_T39 l x).f0, .string (rd_T39 l x).f1, .int .i64 (rd_T39 l x).f2.f0, .int .i64 (rd_T39 l x).f2.f1, .int .i64 (rd_T39 l x).f2.f2]) [.string (rd_T39 l x).f0, .string (rd_T39 l x).f1, .int .i64 (rd_T39 l x).f2.f0, .int .i64 (rd_T39 l x).f2.f1, .int .i64 (rd_T39 l x).f2.f2] rfl rfl rfl (by kernel_rfl) rfl (by intro q hq;simp only [List.mem_cons,List.not_mem_nil,or_false] at hq;rcases hq with rfl|rfl|rfl|rfl|rfl<;>rfl) ?_;intro w5 hbk hg;clear cgb8_0 cgb8_1 cgb8_2 cgb8_3 cgb8_4;replace BK15:=am_ (blk_put_other BK15.out hg (NE.out));replace HB:=am_ (below_put HB.out (below_size HB.out) hg GE8.out);replace MP:=am_ (MP.out.other hg NM.out);replace BK8:=am_ (hbk);clear hbk hg;have c8_0:=(blk_cell BK8.out 0).trans rfl))
        clear k0 k1 k2 k3 k4 p6 q6
        have cb_1:=(blk_cell BK15.out 1).trans rfl
        have z0:=fun (n_:Nat)=>(show (w5.drewN n_).cell? _=some _ from cb_1)
        have z1:=fun (n_:Nat)=>(show (w5.drewN n_).cell? _=some _ from c8_0)
        have z2:=fun (n_:Nat)=>MP.out.look Try.underlying111 SM.out.1 (w5.drewN n_) rfl
        by_cases e2:fillR l (rd_T39 l x).f0=0
        · have HW := am_ (show wflat l (rd_T39 l x) = true from decide_eq_true e2)
          have e2b:(fillR l (rd_T39 l x).f0==0)=true:=by rw [e2];rfl
          clear e2
          go_quiet (fail)
          try go_wp2
          go_ret
          refine ⟨?_,pw_below_drewN HB.out _⟩
          have a:l.any (wflat l)=true:=by rw [HA.out,HD.out,HW.out,Bool.true_or]
          have f:=HF.out
          rw [if_pos a] at f
          exact congrArg (fun z=>Ending.returned (.int .i64 z)) (Option.some.inj f)
        have HW:=am_ (show wflat l (rd_T39 l x)=false from decide_eq_false e2)
        have e2b:(fillR l (rd_T39 l x).f0==0)=false:=by rw [beq_eq_false_iff_ne];exact e2
        clear e2
        go_quiet (fail)
        try go_wp2
        clear z0 z1 z2 cb_1 c8_0
        have n0_:=am_ (blk_drewN BK15.out nq)
        have n1_:=am_ (MP.out.kept (w':=w5.drewN nq) rfl)
        have n2_:=am_ (pw_below_drewN HB.out nq)
        clear BK15 MP HB BK8 BK15_ NE NM
        have BK15:=n0_
        have MP:=n1_
        have HB:=n2_
        clear n0_ n1_ n2_
        generalize w5.drewN nq=w8 at BK15 MP HB ⊢
        go_roundg (l.length - (i+1))
        case measure=>omega
        case rel=>exact ⟨i+1,by rw [HXI.out,wnx (by have:=HL.out;omega)],by omega,by omega,HB,BK15,MP,⟨by rw [HA.out,HD.out,HW.out,Bool.false_or]⟩⟩
    have hltz:(i:Int)<(l.length:Int):=by omega
    obtain ⟨x,hx⟩: ∃x:Int,x=(i:Int):=⟨_,rfl⟩
    have HX0:=am_ (show 0≤x by omega)
    have HX1:=am_ (show x<(l.length:Int) by omega)
    have HD:=am_ (any_drop (wloose l) hlt)
    rw [←hx] at HD
    have HXI:=Aside0.mk hx
    rw [←hx]
    have hltx:x<(l.length:Int):=HX1.out
    clear hltz hx
    have p6:0≤x:=HX0.out
    have q6:x<(l.length:Int):=HX1.out
    obtain ⟨ad,e6,k0,k1,k2,k3,k4⟩:=at_T39 HR.out x p6 q6
    cases e6
    have k0:=zx_ HB k0
    have k1:=zx_ HB k1
    have k2:=zx_ HB k2
    have k3:=zx_ HB k3
    have k4:=zx_ HB k4
    replace p6:=eq_true p6
    replace q6:=eq_true q6
    have BK15_:=BK15
    by_cases e1:(rd_T39 l x).f1=⟨#[]⟩
    · have hE : (rd_T39 l x).f1.toList.isEmpty = true := by rw [e1, ByteArray.toList_eq]; rfl
      have HW:=am_ (show wloose l (rd_T39 l x)=false by unfold wloose;rw [decide_eq_true e1];rfl)
      clear e1
      go_wp2_with (first|((with_reducible refine gate_dst (N:=6) rfl ?_);refine bx_ (N:=6) (cs:=#[.string ⟨#[]⟩, .string ⟨#[]⟩, .int .i64 0, .int .i64 0, .int .i64 0]) (t:=39) ?_;intro gb6 hg w4 hbox hb;replace BK15:=am_ (blk_below BK15.out hb);have BK6:=am_ (hbox);have GE6:=am_ ((by rw [hg];exact below_size HB.out:w.heap.size≤gb6));replace HB:=am_ (below_step HB.out hb);have EQ6:=am_ (hg);have NE:=am_ (show gb15≠gb6 from by have:=blk_lt BK15_.out;rw [hg];exact Nat.ne_of_lt this);clear hb hbox hg;have cgb6_0:=(blk_cell BK6.out 0).trans rfl;have cgb6_1:=(blk_cell BK6.out 1).trans rfl;have cgb6_2:=(blk_cell BK6.out 2).trans rfl;have cgb6_3:=(blk_cell BK6.out 3).trans rfl;have cgb6_4:=(blk_cell BK6.out 4).trans rfl)|((with_reducible refine gate_store (t:=39) (p:=6) (v:= .tmp 29) rfl ?_);refine store_all BK6.out 39 (.tmp 6) (.tmp 29) rfl rfl rfl (.agg #[.string (rd_T39 l x).f0, .string (rd_T39 l x).f1, .int .i64 (rd_T39 l x).f2.f0, .int .i64 (rd_T39 l x).f2.f1, .int .i64 (rd_T39 l x).f2.f2]) [.string (rd_T39 l x).f0, .string (rd_T39 l x).f1, .int .i64 (rd_T39 l x).f2.f0, .int .i64 (rd_T39 l x).f2.f1, .int .i64 (rd_T39 l x).f2.f2] rfl rfl rfl (by kernel_rfl) rfl (by intro q hq;simp only [List.mem_cons,List.not_mem_nil,or_false] at hq;rcases hq with rfl|rfl|rfl|rfl|rfl<;>rfl) ?_;intro w5 hbk hg;clear cgb6_0 cgb6_1 cgb6_2 cgb6_3 cgb6_4;replace BK15:=am_ (blk_put_other BK15.out hg (NE.out));replace HB:=am_ (below_put HB.out (below_size HB.out) hg GE6.out);replace BK6:=am_ (hbk);clear hbk hg;have c6_1:=(blk_cell BK6.out 1).trans rfl))
      clear k0 k1 k2 k3 k4 p6 q6
      have z1:=fun (n_:Nat)=>(show (w5.drewN n_).cell? _=some _ from c6_1)
      go_quiet (fail)
      try go_wp2
      clear z1 c6_1
      have n0_:=am_ (blk_drewN BK15.out nq)
      have n2_:=am_ (pw_below_drewN HB.out nq)
      clear BK15 HB BK6 BK15_ NE
      have BK15:=n0_
      have HB:=n2_
      clear n0_ n2_
      generalize w5.drewN nq=w8 at BK15 HB ⊢
      go_roundg (l.length - (i+1))
      case measure=>omega
      case rel=>exact ⟨i+1,by rw [HXI.out,wnx (by have:=HL.out;omega)],by omega,by omega,HB,BK15,⟨by rw [HA.out,HD.out,HW.out,Bool.false_or]⟩⟩
    have hE:(rd_T39 l x).f1.toList.isEmpty=false:=by
      cases q:(rd_T39 l x).f1.toList with
      |nil=>exact absurd (ByteArray.ext (Array.toList_inj.1 (by rw [←ByteArray.toList_eq,q]))) e1
      |cons _ _=>rfl
    have E1:=Aside0.mk e1
    clear e1
    go_wp2_with (first|((with_reducible refine gate_dst (N:=6) rfl ?_);refine bx_ (N:=6) (cs:=#[.string ⟨#[]⟩, .string ⟨#[]⟩, .int .i64 0, .int .i64 0, .int .i64 0]) (t:=39) ?_;intro gb6 hg w4 hbox hb;replace BK15:=am_ (blk_below BK15.out hb);have BK6:=am_ (hbox);have GE6:=am_ ((by rw [hg];exact below_size HB.out:w.heap.size≤gb6));replace HB:=am_ (below_step HB.out hb);have EQ6:=am_ (hg);have NE:=am_ (show gb15≠gb6 from by have:=blk_lt BK15_.out;rw [hg];exact Nat.ne_of_lt this);clear hb hbox hg;have cgb6_0:=(blk_cell BK6.out 0).trans rfl;have cgb6_1:=(blk_cell BK6.out 1).trans rfl;have cgb6_2:=(blk_cell BK6.out 2).trans rfl;have cgb6_3:=(blk_cell BK6.out 3).trans rfl;have cgb6_4:=(blk_cell BK6.out 4).trans rfl)|((with_reducible refine gate_store (t:=39) (p:=6) (v:= .tmp 29) rfl ?_);refine store_all BK6.out 39 (.tmp 6) (.tmp 29) rfl rfl rfl (.agg #[.string (rd_T39 l x).f0, .string (rd_T39 l x).f1, .int .i64 (rd_T39 l x).f2.f0, .int .i64 (rd_T39 l x).f2.f1, .int .i64 (rd_T39 l x).f2.f2]) [.string (rd_T39 l x).f0, .string (rd_T39 l x).f1, .int .i64 (rd_T39 l x).f2.f0, .int .i64 (rd_T39 l x).f2.f1, .int .i64 (rd_T39 l x).f2.f2] rfl rfl rfl (by kernel_rfl) rfl (by intro q hq;simp only [List.mem_cons,List.not_mem_nil,or_false] at hq;rcases hq with rfl|rfl|rfl|rfl|rfl<;>rfl) ?_;intro w5 hbk hg;clear cgb6_0 cgb6_1 cgb6_2 cgb6_3 cgb6_4;replace BK15:=am_ (blk_put_other BK15.out hg (NE.out));replace HB:=am_ (below_put HB.out (below_size HB.out) hg GE6.out);replace BK6:=am_ (hbk);clear hbk hg;have c6_1:=(blk_cell BK6.out 1).trans rfl))
    clear k0 k1 k2 k3 k4 p6 q6 c6_1
    have n0_:=am_ (blk_drew BK15.out)
    have n1_:=am_ (blk_drew BK6.out)
    have n2_:=am_ (below_drew1 HB.out)
    clear BK15 BK6 HB BK15_ NE
    have BK15:=n0_
    have BK6:=n1_
    have HB:=n2_
    clear n0_ n1_ n2_
    refine start_ (n:=13) (S:=fun w'=>w'.cell? ⟨gb6,1,none⟩=some (.string (rd_T39 l x).f1)∧w'.cell? ⟨gb15,0,none⟩=some (.slice (some ad) l.length c)) (ds:=[]) (bt_ 13 0) (by kernel_rfl) rfl rfl ⟨(blk_cell BK6.out 1).trans rfl,(blk_cell BK15.out 0).trans rfl⟩ (fun hHeld=> ?_)
    generalize w5.drew=w9 at BK15 BK6 HB hHeld ⊢
    refine pv_ (i:=0) (N:=some 30) (bt_ 13 1) ?_
    refine tv_ (i:=1) (N:=some 31) (bt_ 13 3) hHeld ?_
    refine pv_ (i:=2) (N:=some 32) (bt_ 13 7) ?_
    refine pv_ (i:=3) (N:=some 33) (bt_ 13 15) ?_
    refine pv_ (i:=4) (N:=some 34) (bt_ 13 31) ?_
    refine pv_ (i:=5) (N:=some 35) (bt_ 13 63) ?_
    refine pv_ (i:=6) (N:=some 36) (bt_ 13 127) ?_
    refine tv_ (i:=7) (N:=some 37) (bt_ 13 255) hHeld ?_
    refine pv_ (i:=8) (N:=some 38) (bt_ 13 511) ?_
    refine tv_ (i:=9) (N:=some 39) (bt_ 13 1023) hHeld ?_
    refine one_ (i:=10) (N:=some 40) (bt_ 13 2047) rfl rfl (by kernel_rfl) (by decide) (fun K hK=> ?_)
    refine goes_ Try.func73 (by kernel_rfl) rfl #[.agg #[.slice (some ad) l.length c], .string (rd_T39 l x).f1] (by rfl) rfl rfl (by (try simp only [List.map_toArray,List.map_cons,List.map_nil]);rfl) ?_
    refine (wantFind_calls (some ad) c l (rd_T39 l x).f1 _ (Kd.C_below HR.out HB.out) HC.out).mono ?_
    rintro e w10 ⟨rfl,hb⟩
    have n0_:=am_ (blk_below BK15.out hb)
    have n1_:=am_ (blk_below BK6.out hb)
    have n2_:=am_ (below_step HB.out hb)
    clear BK15 BK6 HB hb
    have BK15:=n0_
    have BK6:=n1_
    have HB:=n2_
    clear n0_ n1_ n2_
    refine ⟨_,rfl, ?_⟩
    refine hK.out _ _ ⟨(blk_cell BK6.out 1).trans rfl,(blk_cell BK15.out 0).trans rfl⟩ (fun hHeld=> ?_)
    clear hK K
    refine norm_ (a':= ?_) ?_ ?_
    rotate_left
    · show Act.put _ (some 40) _ = _
      simp only [Act.put,List.setIfInBounds_toArray,List.set_cons_zero,List.set_cons_succ,i64_w,i32_w]
      rfl
    refine pv_ (i:=11) (N:=some 41) (bt_ 13 4095) ?_
    refine pv_ (i:=12) (N:=some 42) (bt_ 13 8191) ?_
    refine done_ (by kernel_rfl) ?_
    by_cases e2:wplace l (rd_T39 l x).f1<0
    rotate_left
    · have HW := am_ (show wloose l (rd_T39 l x) = false by unfold wloose; rw [decide_eq_false e2, Bool.and_false])
      go_wp2
      go_roundg (l.length - (i+1))
      case measure=>omega
      case rel=>exact ⟨i+1,by rw [HXI.out,wnx (by have:=HL.out;omega)],by omega,by omega,HB,BK15,⟨by rw [HA.out,HD.out,HW.out,Bool.false_or]⟩⟩
    have HW:=am_ (show wloose l (rd_T39 l x)=true by unfold wloose;rw [decide_eq_false E1.out,decide_eq_true e2];rfl)
    go_wp2
    go_ret
    refine ⟨?_,HB.out⟩
    have a:l.any (wloose l)=true:=by rw [HA.out,HD.out,HW.out,Bool.true_or]
    have f:=HF.out
    rw [if_pos a] at f
    exact congrArg (fun z=>Ending.returned (.int .i64 z)) (Option.some.inj f)
noncomputable def want_Depth.f (l0:List (S39)) (a1:ByteArray):Option Int:=open Classical in if l0.length≤1000∧smallW l0∧a1.size≤1000000 then some (fillR l0 a1) else none
set_option maxHeartbeats 8000000 in
set_option maxRecDepth 100000 in
theorem want_Depth.calls (A0:Option Addr) (c0:Nat) (l0:List (S39)) (a1:ByteArray) (r:Int) (w:World) (hr0:Kd.C k39 w A0 l0.length l0) (hc0:l0.length≤c0) (h:want_Depth.f l0 a1=some r):
    Calls Try.prog 27 #[.slice A0 l0.length c0, .string a1] w fun e w'=>e= .returned (.int .i64 r)∧Below w.heap.size w w':=by
  unfold want_Depth.f at h
  split at h
  rotate_left
  · cases h


  rename_i hh
  obtain ⟨hl,hs,ha⟩:=hh
  obtain rfl:=Option.some.inj h
  have hu113:=Try.underlying113
  have hcall:=wantMade_calls A0 c0 l0 w hr0 hc0 hl hs
  have HA:=Aside0.mk ha
  clear hr0 hc0 h hl hs ha
  go_enter Try.func27,Try.ntmps27
  go_wp2_with (go_at_call 76;refine hcall.mono ?_;rintro e w3 ⟨b,mb,n,rfl,_,hbk,hm,hb⟩;have hc1:=(blk_cell hbk 1).trans rfl;have hlook:=hm.look Try.underlying111 (show a1.size≤maxLen from by have:=HA.out;unfold maxLen;omega) w3 rfl;have HB:=Aside0.mk hb;clear hbk hm hb)
  go_ret
  exact ⟨rfl,HB.out⟩
theorem eqA37 (d:Nat) (w:World) (x0 y0:Int) (x1 y1:Int) (x2 y2:Int):
  (Op.equalIn (d+2) 37 (.agg #[.int .i64 x0, .int .i64 x1, .int .i64 x2]) (.agg #[.int .i64 y0, .int .i64 y1, .int .i64 y2])).run Try.prog w= .ok (x0==y0 && (x1==y1 && (x2==y2))) w:=by
 refine eqA_of Try.underlying37 (by kernel_rfl) ?_
 refine eqf_cons (by rfl) (by go_simp;rfl) (by go_simp;rfl) (by go_simp) ?_
 refine eqf_cons (by rfl) (by go_simp;rfl) (by go_simp;rfl) (by go_simp) ?_
 exact eqf_last (by rfl) (by go_simp;rfl) (by go_simp;rfl) (by go_simp)
theorem eqA39 (d:Nat) (w:World) (x0 y0:ByteArray) (x1 y1:ByteArray) (x2 y2:Int) (x3 y3:Int) (x4 y4:Int):
  (Op.equalIn (d+3) 39 (.agg #[.string x0, .string x1, .int .i64 x2, .int .i64 x3, .int .i64 x4]) (.agg #[.string y0, .string y1, .int .i64 y2, .int .i64 y3, .int .i64 y4])).run Try.prog w= .ok (x0.toList==y0.toList && (x1.toList==y1.toList && ((x2==y2 && (x3==y3 && (x4==y4)))))) w:=by
 refine eqA_of Try.underlying39 (by kernel_rfl) ?_
 refine eqf_cons (by rfl) (by go_simp;rfl) (by go_simp;rfl) (by go_simp) ?_
 refine eqf_cons (by rfl) (by go_simp;rfl) (by go_simp;rfl) (by go_simp) ?_
 exact eqf_last (by rfl) (by go_simp) (by go_simp) (eqA37 (d+0) w _ _ _ _ _ _)
attribute [local go_sem high] eqA39
def r4_SameWants.l0:Nat→List (S39)→List (S39)→Int→Option (Bool)
 |0,_,_,_=>none
 |k+1,x0,x1,x5=>if x5<(x0.length:Int) then (if 0≤x5 then (if x5<(x1.length:Int) then (if (!((((rd_T39 x0 x5).f0).toList)==(((rd_T39 x1 x5).f0).toList))||(!((((rd_T39 x0 x5).f1).toList)==(((rd_T39 x1 x5).f1).toList))||((!(((rd_T39 x0 x5).f2.f0)==((rd_T39 x1 x5).f2.f0))||(!(((rd_T39 x0 x5).f2.f1)==((rd_T39 x1 x5).f2.f1))||(!(((rd_T39 x0 x5).f2.f2)==((rd_T39 x1 x5).f2.f2))))))))=true then (some false) else (r4_SameWants.l0 k x0 x1 (wrap64 (x5+1)))) else (none)) else (none)) else (some true)
def r4_SameWants.f (k:Nat) (l0:List (S39)) (l1:List (S39)):Option (Bool):=if (l0.length:Int)=(l1.length:Int) then (r4_SameWants.l0 k l0 l1 0) else (some false)
theorem r4_SameWants.mono_l: ∀k,(∀y0 y1 y2,LeO (r4_SameWants.l0 k y0 y1 y2) (r4_SameWants.l0 (k+1) y0 y1 y2))
 |0=>fun _ _ _ r h=>by simp [r4_SameWants.l0] at h
 |k+1=>by
  have ih0:=r4_SameWants.mono_l k
  intro y0 y1 y2
  unfold r4_SameWants.l0
  repeat' first
  |(with_reducible exact ih0 _ _ _)
  |(with_reducible exact LeO.refl _)
  |(with_reducible exact LeO.none _)
  |(with_reducible refine LeO.ite ?_ ?_)
  |(with_reducible refine LeO.bind ?_ (fun _=> ?_))
  |exact ih0 _ _ _
  |exact LeO.none _
  |refine LeO.ite ?_ ?_
  |refine LeO.bind ?_ (fun _=> ?_)
theorem r4_SameWants.mono: ∀a0 a1 k,LeO (r4_SameWants.f k a0 a1) (r4_SameWants.f (k+1) a0 a1):=by
 intro a0 a1 k
 have ih0:=r4_SameWants.mono_l k
 unfold r4_SameWants.f
 repeat' first
  |(with_reducible exact ih0 _ _ _)
  |(with_reducible exact LeO.refl _)
  |(with_reducible exact LeO.none _)
  |(with_reducible refine LeO.ite ?_ ?_)
  |(with_reducible refine LeO.bind ?_ (fun _=> ?_))
  |exact ih0 _ _ _
  |exact LeO.none _
  |refine LeO.ite ?_ ?_
  |refine LeO.bind ?_ (fun _=> ?_)
set_option maxHeartbeats 8000000 in
set_option maxRecDepth 100000 in
theorem r4_SameWants.calls (k:Nat) (A0:Option Addr) (c0:Nat) (l0:List (S39)) (A1:Option Addr) (c1:Nat) (l1:List (S39)) (r:Bool) (w:World) (hr0:Kd.C k39 w A0 l0.length l0) (hc0:l0.length≤c0) (hr1:Kd.C k39 w A1 l1.length l1) (hc1:l1.length≤c1) (h:r4_SameWants.f k l0 l1=some r):
  Calls Try.prog 29 #[.slice A0 l0.length c0, .slice A1 l1.length c1] w fun e w'=>e= .returned (.bool r)∧Drawn0 w w':=by
 have hu39:=Try.underlying39
 have HR0:=Aside0.mk hr0
 have HC0:=Aside0.mk hc0
 clear hr0 hc0
 have HR1:=Aside0.mk hr1
 have HC1:=Aside0.mk hc1
 clear hr1 hc1
 have H:(if (l0.length:Int)=(l1.length:Int) then (r4_SameWants.l0 k l0 l1 0) else (some false))=some r:=h
 clear h
 by_cases c3:(l0.length:Int)=(l1.length:Int)
 rotate_left
 ·rw [if_neg c3] at H
  have c3b0:((l0.length:Int)==(l1.length:Int))=false:=beq_eq_false_iff_ne.mpr c3
  have c3b1:((l0.length:Int) !=(l1.length:Int))=true:=bne_iff_ne.mpr c3
  have c3b2:(l0.length==l1.length)=false:=by first|simpa using c3|(simp at c3 ⊢;omega)
  obtain rfl:=Option.some.inj H
  go_enter Try.func29,Try.ntmps29
  go_wp2
  repeat (go_quiet (fail);try go_wp2)
  go_ret
  exact ⟨by first|rfl|(simp;done)|(simp [*];done),by repeat (first|exact Drawn0.refl _|apply Drawn0.step)⟩

 rw [if_pos c3] at H
 have c3b0:((l0.length:Int)==(l1.length:Int))=true:=beq_iff_eq.mpr c3
 have c3b1:((l0.length:Int) !=(l1.length:Int))=false:=bne_eq_false_iff_eq.mpr c3
 have c3b2:(l0.length==l1.length)=true:=by first|simpa using c3|(simp at c3 ⊢;omega)
 clear c3
 have H':=Aside0.mk H
 clear H
 go_enter Try.func29,Try.ntmps29
 go_wp2
 repeat (go_quiet (fail);try go_wp2)
 go_loopg [5] k (fun kq v5 w'=> ∃(x5_1:Int),v5= .int .i64 x5_1∧Aside0 (r4_SameWants.l0 kq l0 l1 x5_1=some r)∧Aside0 (kq≤k)∧Drawn0 w w')
 case atStart=>exact ⟨(0),(by first|rfl|(simp;done)|(simp [*];done)),H',⟨Nat.le_refl _⟩,by repeat (first|exact Drawn0.refl _|apply Drawn0.step)⟩
 case round=>
  clear H'
  try clear c1
  try clear c2
  try clear p2
  try clear c3
  try clear c3b0
  try clear c3b1
  try clear c3b2
  obtain ⟨x5_1,rfl,HA,HK1,⟨m1,rfl⟩⟩:=hrel
  cases gk with
  |zero=>exact absurd HA.out (by simp [r4_SameWants.l0])
  |succ k1=>
   have H:=HA.out
   clear HA
   simp only [r4_SameWants.l0] at H
   by_cases c4:x5_1<(l0.length:Int)
   rotate_left
   ·rw [if_neg c4] at H
    have c4b0:decide (x5_1<(l0.length:Int))=false:=decide_eq_false c4
    clear c4
    obtain rfl:=Option.some.inj H
    go_wp2
    repeat (go_quiet (fail);try go_wp2)
    go_ret
    exact ⟨by first|rfl|(simp;done)|(simp [*];done),by repeat (first|exact Drawn0.refl _|apply Drawn0.step)⟩
   rw [if_pos c4] at H
   have c4b0:decide (x5_1<(l0.length:Int))=true:=decide_eq_true c4
   clear c4
   by_cases c5:0≤x5_1
   rotate_left
   ·rw [if_neg c5] at H
    exact absurd H (by simp)
   rw [if_pos c5] at H
   have c5b0:decide (0≤x5_1)=true:=decide_eq_true c5
   clear c5
   by_cases c6:x5_1<(l1.length:Int)
   rotate_left
   ·rw [if_neg c6] at H
    exact absurd H (by simp)
   rw [if_pos c6] at H
   have c6b0:decide (x5_1<(l1.length:Int))=true:=decide_eq_true c6
   clear c6
   by_cases c7:(!((((rd_T39 l0 x5_1).f0).toList)==(((rd_T39 l1 x5_1).f0).toList))||(!((((rd_T39 l0 x5_1).f1).toList)==(((rd_T39 l1 x5_1).f1).toList))||((!(((rd_T39 l0 x5_1).f2.f0)==((rd_T39 l1 x5_1).f2.f0))||(!(((rd_T39 l0 x5_1).f2.f1)==((rd_T39 l1 x5_1).f2.f1))||(!(((rd_T39 l0 x5_1).f2.f2)==((rd_T39 l1 x5_1).f2.f2))))))))=true
   ·rw [if_pos c7] at H
    have c7b0:(!((((rd_T39 l0 x5_1).f0).toList)==(((rd_T39 l1 x5_1).f0).toList))||(!((((rd_T39 l0 x5_1).f1).toList)==(((rd_T39 l1 x5_1).f1).toList))||((!(((rd_T39 l0 x5_1).f2.f0)==((rd_T39 l1 x5_1).f2.f0))||(!(((rd_T39 l0 x5_1).f2.f1)==((rd_T39 l1 x5_1).f2.f1))||(!(((rd_T39 l0 x5_1).f2.f2)==((rd_T39 l1 x5_1).f2.f2))))))))=true:=c7
    clear c7
    obtain rfl:=Option.some.inj H
    have p1:0≤(x5_1:Int):=of_decide_eq_true zq_
    have q1:x5_1<(l0.length:Int):=of_decide_eq_true zq_
    obtain ⟨ad1,e1,hx1_0,hx1_1,hx1_2,hx1_3,hx1_4⟩:=at_T39 HR0.out x5_1 p1 q1
    cases e1
    replace p1:=eq_true p1
    replace q1:=eq_true q1
    have p2:0≤(x5_1:Int):=of_decide_eq_true zq_
    have q2:x5_1<(l1.length:Int):=of_decide_eq_true zq_
    obtain ⟨ad2,e2,hx2_0,hx2_1,hx2_2,hx2_3,hx2_4⟩:=at_T39 HR1.out x5_1 p2 q2
    cases e2
    replace p2:=eq_true p2
    replace q2:=eq_true q2
    go_wp2
    repeat (go_quiet (fail);try go_wp2)
    go_ret
    exact ⟨by first|rfl|(simp;done)|(simp [*];done),by repeat (first|exact Drawn0.refl _|apply Drawn0.step)⟩
   rw [if_neg c7] at H
   have c7b0:(!((((rd_T39 l0 x5_1).f0).toList)==(((rd_T39 l1 x5_1).f0).toList))||(!((((rd_T39 l0 x5_1).f1).toList)==(((rd_T39 l1 x5_1).f1).toList))||((!(((rd_T39 l0 x5_1).f2.f0)==((rd_T39 l1 x5_1).f2.f0))||(!(((rd_T39 l0 x5_1).f2.f1)==((rd_T39 l1 x5_1).f2.f1))||(!(((rd_T39 l0 x5_1).f2.f2)==((rd_T39 l1 x5_1).f2.f2))))))))=false:=by simpa using c7
   clear c7
   have H':=Aside0.mk H
   clear H
   have p1:0≤(x5_1:Int):=of_decide_eq_true zq_
   have q1:x5_1<(l0.length:Int):=of_decide_eq_true zq_
   obtain ⟨ad1,e1,hx1_0,hx1_1,hx1_2,hx1_3,hx1_4⟩:=at_T39 HR0.out x5_1 p1 q1
   cases e1
   replace p1:=eq_true p1
   replace q1:=eq_true q1
   have p2:0≤(x5_1:Int):=of_decide_eq_true zq_
   have q2:x5_1<(l1.length:Int):=of_decide_eq_true zq_
   obtain ⟨ad2,e2,hx2_0,hx2_1,hx2_2,hx2_3,hx2_4⟩:=at_T39 HR1.out x5_1 p2 q2
   cases e2
   replace p2:=eq_true p2
   replace q2:=eq_true q2
   go_wp2
   repeat (go_quiet (fail);try go_wp2)
   go_roundg k1
   case measure=>have:=HK1.out;omega
   case rel=>exact ⟨(wrap64 (x5_1+1)),(by first|rfl|(simp;done)|(simp [*];done)),H',⟨by have:=HK1.out;omega⟩,by repeat (first|exact Drawn0.refl _|apply Drawn0.step)⟩
def slices_Clone_Want.f (l0:List (S39)):Option (List (S39)):=if l0.length<2513169434916 then some l0 else none
set_option maxHeartbeats 8000000 in
set_option maxRecDepth 100000 in
theorem slices_Clone_Want.calls (A0:Option Addr) (c0:Nat) (l0:List (S39)) (r:List (S39)) (w:World) (hr0:Kd.C k39 w A0 l0.length l0) (hc0:l0.length≤c0) (h:slices_Clone_Want.f l0=some r):
    Calls Try.prog 77 #[.slice A0 l0.length c0] w fun e w'=> ∃v0_:Value,e= .returned (v0_)∧Kd.R k39 39 w' w.heap.size (fun _=>True) v0_ r∧Below w.heap.size w w':=by
  have hlim:l0.length<2513169434916∧l0=r:=by
    unfold slices_Clone_Want.f at h
    split at h
    · exact ⟨by assumption,Option.some.inj h⟩
    cases h
  obtain ⟨hlim,rfl⟩:=hlim
  have hnil:=fun (W:World) (n c:Nat)=>Lib.run_eql_slice_nil (P:=Try.prog) W 22 39 A0 n c 0 0 Try.underlying22
  cases A0 with
  | none =>
    have hl:l0=[]:=by
      cases l0 with
      |nil=>rfl
      |cons x l=>exact absurd (hr0.2.2 (by simp)) (by simp)
    subst hl
    clear hr0
    go_enter Try.func77,Try.ntmps77
    go_wp2
    go_ret
    exact ⟨_,rfl,Kd.R_nil _ _ _ _ _,Below.refl _ _⟩
  | some ad =>
    have HR0:=Aside0.mk hr0
    have HC0:=Aside0.mk hc0
    have LM:=Aside0.mk hlim
    clear hr0 hc0 hlim h
    have HB:=am_ (Below.refl w.heap.size w)
    go_enter Try.func77,Try.ntmps77
    go_wp2_with (first|((with_reducible refine gate_dst (N:=5) rfl ?_);refine Kd.R_lit k39 _ 39 ?hg (N:=5) ?hd (xs:=([]:List (S39))) (inner:=[]) (ok:=fun _=>True) (okp:=fun _=>True) ?hr ?hp (fun _ hk=>hk) trivial (Below.refl _ _) (Nat.le_refl _) (by simp) ?_;(case hd=>rfl);(case hg=>rfl);(case hr=>first|(go_simp;done)|(go_simp;rfl));(case hp=>exact (Reps.none _ _));intro v2 w3 ho4 hb hg_ hnew_;clear hg_ hnew_;have HO3:=am_ (Kd.R_lower ho4 (below_size HB.out));replace HB:=am_ (below_step HB.out hb);clear hb ho4)|((with_reducible refine gate_builtin (b:= .append) (xs:=#[.tmp 5, .tmp 6]) rfl ?_);at_builtin;refine Kd.R_append_rows k39 (w0:=w) w.heap.size rfl (.tmp 5) (.tmp 6) 22 39 (.agg #[(.string ⟨#[]⟩),(.string ⟨#[]⟩),(.int .i64 0),(.int .i64 0),(.int .i64 0)]) 56 rfl Try.underlying22 info39 rfl (by decide) (by omega) v2 [] l0 _ _ _ (fun _=>True) (fun _=>False) rfl rfl ?aO ?aR (fun _ _ h=>h) (fun _ h=>h.elim) ?aF ?aB ?aS ?aL ?_;(case aR=>exact (Kd.C_below HR0.out HB.out));(case aB=>exact HB.out);(case aF=>exact (fun _ _=>trivial));(case aO=>exact HO3.out);(case aS=>exact (below_size HB.out));(case aL=>have:=LM.out;simp;omega);intro v5 w5 ho hb hg hat;have n0_:=am_ (hb);have n1_:=am_ (ho);clear HB;clear HO3;have HB:=n0_;have HO6:=n1_;clear n0_ n1_;clear ho hb hg hat))
    go_ret
    exact ⟨_,rfl,HO6.out,HB.out⟩


end Go.Proofs.Ytahidkjncljkaaa.Print

namespace Go.Proofs.Ytahidkjncljkaaa.Print
open Go.Sort
variable {α:Type} [Inhabited α]
def SwapAt (x y n:Nat) (d d':Array α):Prop:=d'.size=d.size∧ ∀k,d'[k]! =if x≤k∧k<x+n then d[k+(y - x)]! else if y≤k∧k<y+n then d[k - (y - x)]! else d[k]!
def RotAt (a m b:Nat) (d d':Array α):Prop:=d'.size=d.size∧ ∀k,d'[k]! =if a≤k∧k<a+(b - m) then d[k+(m - a)]! else if a+(b - m)≤k∧k<b then d[k - (b - m)]! else d[k]!
theorem get_eq (d:Array α) {i j:Nat} (h:i=j):d[i]! =d[j]!:=by rw [h]
theorem swapAt_zero (x y:Nat) (d:Array α):SwapAt x y 0 d d:=⟨rfl,fun k=>by rw [if_neg (by omega),if_neg (by omega)]⟩
theorem swapAt_step {x y n:Nat} {d dc:Array α} (h:SwapAt x y n d dc) (hxy:x+n<y) (hy:y+n<d.size):SwapAt x y (n+1) d (swp dc (x+n) (y+n)):=by
  have hs:=h.1
  refine ⟨by rw [swp_size,hs],fun k=> ?_⟩
  rw [swp_get dc (by omega) (by omega),h.2,h.2,h.2]
  by_cases h1:k=y+n
  · rw [if_pos h1, if_neg (by omega), if_neg (by omega), if_neg (by omega), if_pos (by omega)]
    exact get_eq _ (by omega)
  by_cases h2:k=x+n
  · rw [if_neg h1, if_pos h2, if_neg (by omega), if_neg (by omega), if_pos (by omega)]
    exact get_eq _ (by omega)
  rw [if_neg h1,if_neg h2]
  by_cases h3:x≤k∧k<x+n
  · rw [if_pos h3,if_pos (by omega)]
  rw [if_neg h3]
  by_cases h4:y≤k∧k<y+n
  · rw [if_pos h4,if_neg (by omega),if_pos (by omega)]
  rw [if_neg h4,if_neg (by omega),if_neg (by omega)]
theorem rot_more {m i j:Nat} {d d1 d2:Array α} (hij:j<i) (him:i≤m) (h:SwapAt (m - i) m j d d1) (h2:RotAt (m - (i - j)) m (m+j) d1 d2):RotAt (m - i) m (m+j) d d2:=by
  refine ⟨by rw [h2.1,h.1],fun k=> ?_⟩
  rw [h2.2]
  by_cases c1:m - (i - j)≤k∧k<m - (i - j)+(m+j - m)
  · rw [if_pos c1, h.2, if_neg (by omega), if_pos (by omega), if_neg (by omega), if_pos (by omega)]
    exact get_eq _ (by omega)
  rw [if_neg c1]
  by_cases c2:m - (i - j)+(m+j - m)≤k∧k<m+j
  · rw [if_pos c2,h.2,if_neg (by omega),if_neg (by omega),if_neg (by omega),if_pos (by omega)]
  rw [if_neg c2,h.2]
  by_cases c3:m - i≤k∧k<m - i+j
  · rw [if_pos c3,if_pos (by omega)]
  rw [if_neg c3,if_neg (by omega),if_neg (by omega),if_neg (by omega)]
theorem rot_less {m i j:Nat} {d d1 d2:Array α} (hij:i<j) (him:i≤m) (h:SwapAt (m - i) (m+j - i) i d d1) (h2:RotAt (m - i) m (m+(j - i)) d1 d2):RotAt (m - i) m (m+j) d d2:=by
  refine ⟨by rw [h2.1,h.1],fun k=> ?_⟩
  rw [h2.2]
  by_cases c1:m - i≤k∧k<m - i+(m+(j - i) - m)
  · rw [if_pos c1, h.2]
    by_cases c2:m - i≤k+(m - (m - i))∧k+(m - (m - i))<m - i+i
    · omega
    rw [if_neg c2,if_neg (by omega),if_pos (by omega)]
  rw [if_neg c1]
  by_cases c2:m - i+(m+(j - i) - m)≤k∧k<m+(j - i)
  · rw [if_pos c2, h.2, if_pos (by omega), if_pos (by omega)]
    exact get_eq _ (by omega)
  rw [if_neg c2,h.2,if_neg (by omega)]
  by_cases c3:m+j - i≤k∧k<m+j - i+i
  · rw [if_pos c3, if_neg (by omega), if_pos (by omega)]
    exact get_eq _ (by omega)
  rw [if_neg c3,if_neg (by omega),if_neg (by omega)]
theorem rot_same {m i:Nat} {d d':Array α} (him:i≤m) (h:SwapAt (m - i) m i d d'):RotAt (m - i) m (m+i) d d':=by
  refine ⟨h.1,fun k=> ?_⟩
  rw [h.2]
  by_cases c1:m - i≤k∧k<m - i+i
  · rw [if_pos c1,if_pos (by omega)]
  rw [if_neg c1]
  by_cases c2:m≤k∧k<m+i
  · rw [if_pos c2, if_neg (by omega), if_pos (by omega)]
    exact get_eq _ (by omega)
  rw [if_neg c2,if_neg (by omega),if_neg (by omega)]
theorem rot_left (m e:Nat) (d:Array α):RotAt m m e d d:=⟨rfl,fun k=>by
  by_cases c1:m≤k∧k<m+(e - m)
  · rw [if_pos c1];exact get_eq _ (by omega)
  rw [if_neg c1,if_neg (by omega)]⟩
theorem rot_right (s m:Nat) (d:Array α):RotAt s m m d d:=⟨rfl,fun k=>by
  rw [if_neg (by omega)]
  by_cases c1:s+(m - m)≤k∧k<m
  · rw [if_pos c1];exact get_eq _ (by omega)
  rw [if_neg c1]⟩
theorem rot_up {a k:Nat} {d dc:Array α} (h:RotAt a (a+1) (k+1) d dc) (hak:a≤k) (hk:k+1<d.size):RotAt a (a+1) (k+2) d (swp dc k (k+1)):=by
  have hs:=h.1
  refine ⟨by rw [swp_size,hs],fun q=> ?_⟩
  rw [swp_get dc (by omega) (by omega),h.2,h.2,h.2]
  by_cases h1:q=k+1
  · rw [if_pos h1, if_neg (by omega), if_pos (by omega), if_neg (by omega), if_pos (by omega)]
    exact get_eq _ (by omega)
  by_cases h2:q=k
  · rw [if_neg h1, if_pos h2, if_neg (by omega), if_neg (by omega), if_pos (by omega)]
    exact get_eq _ (by omega)
  rw [if_neg h1,if_neg h2]
  by_cases h3:a≤q∧q<a+(k+1 - (a+1))
  · rw [if_pos h3,if_pos (by omega)]
  rw [if_neg h3,if_neg (by omega),if_neg (by omega),if_neg (by omega)]
theorem rot_down {k m:Nat} {d dc:Array α} (h:RotAt (k+1) m (m+1) d dc) (hkm:k<m) (hm:m<d.size):RotAt k m (m+1) d (swp dc (k+1) k):=by
  have hs:=h.1
  refine ⟨by rw [swp_size,hs],fun q=> ?_⟩
  rw [swp_get dc (by omega) (by omega),h.2,h.2,h.2]
  by_cases h1:q=k
  · rw [if_pos h1, if_pos (by omega), if_pos (by omega)]
    exact get_eq _ (by omega)
  by_cases h2:q=k+1
  · rw [if_neg h1, if_pos h2, if_neg (by omega), if_neg (by omega), if_neg (by omega), if_pos (by omega)]
    exact get_eq _ (by omega)
  rw [if_neg h1,if_neg h2,if_neg (by omega)]
  by_cases h3:k+1+(m+1 - m)≤q∧q<m+1
  · rw [if_pos h3,if_neg (by omega),if_pos (by omega)]
  rw [if_neg h3,if_neg (by omega),if_neg (by omega)]
theorem rot_src {s m e:Nat} {d d':Array α} (h:RotAt s m e d d') (hsm:s≤m) (hme:m≤e) (k:Nat): ∃q,d'[k]! =d[q]!∧((k<s∧q=k)∨(s≤k∧k<s+(e - m)∧q=k+(m - s))∨(s+(e - m)≤k∧k<e∧q=k - (e - m))∨(e≤k∧q=k)):=by
  rw [h.2]
  by_cases c1:s≤k∧k<s+(e - m)
  · rw [if_pos c1];exact ⟨_,rfl,by omega⟩
  rw [if_neg c1]
  by_cases c2:s+(e - m)≤k∧k<e
  · rw [if_pos c2];exact ⟨_,rfl,by omega⟩
  rw [if_neg c2];exact ⟨_,rfl,by omega⟩
variable {lt:α→α→Bool}
theorem sym_half {a s m e b:Nat} {d d':Array α} (h:RotAt s m e d d') (has:a≤s) (hsm:s≤m) (hme:m≤e) (heb:e≤b) (hA:SortedIn lt a m d) (hB:SortedIn lt m b d)
    (x1: ∀x y,a≤x→x<s→e≤y→y<b→lt d[y]! d[x]! =false) (x2: ∀x y,m≤x→x<e→s≤y→y<m→lt d[y]! d[x]! =false):
    SortedIn lt a s d'∧SortedIn lt s (s+(e - m)) d'∧SortedIn lt (s+(e - m)) e d'∧SortedIn lt e b d'∧ ∀x y,a≤x→x<s+(e - m)→s+(e - m)≤y→y<b→lt d'[y]! d'[x]! =false:=by
  have key:=rot_src h hsm hme
  refine ⟨fun i j h1 h2 h3=> ?_,fun i j h1 h2 h3=> ?_,fun i j h1 h2 h3=> ?_,fun i j h1 h2 h3=> ?_,fun i j h1 h2 h3 h4=> ?_⟩
  all_goals
    obtain ⟨q,eq,cq⟩:=key i
    obtain ⟨r,er,cr⟩:=key j
    rw [eq,er]
  · exact hA q r (by omega) (by omega) (by omega)
  · exact hB q r (by omega) (by omega) (by omega)
  · exact hA q r (by omega) (by omega) (by omega)
  · exact hB q r (by omega) (by omega) (by omega)
  rcases cq with cq|cq|cq|cq<;>rcases cr with cr|cr|cr|cr<;>first
    |(exfalso;omega)
    |exact hA q r (by omega) (by omega) (by omega)
    |exact hB q r (by omega) (by omega) (by omega)
    |exact x1 q r (by omega) (by omega) (by omega) (by omega)
    |exact x2 q r (by omega) (by omega) (by omega) (by omega)
theorem sym_x1 (hS:SWO lt) {a s m e b:Nat} {d:Array α} (hA:SortedIn lt a m d) (hB:SortedIn lt m b d) (hsm:s≤m) (hme:m≤e) (h:a<s→e<b→lt d[e]! d[s - 1]! =false): ∀x y,a≤x→x<s→e≤y→y<b→lt d[y]! d[x]! =false:=by
  intro x y h1 h2 h3 h4
  have k:=h (by omega) (by omega)
  have k1:lt d[e]! d[x]! =false:=by
    by_cases q:x=s - 1
    · rw [q];exact k
    exact hS.ntrans _ _ _ k (hA x (s - 1) h1 (by omega) (by omega))
  by_cases q:y=e
  · rw [q];exact k1
  exact hS.ntrans _ _ _ (hB e y (by omega) (by omega) h4) k1
theorem sym_x2 (hS:SWO lt) {a s m e b:Nat} {d:Array α} (hA:SortedIn lt a m d) (hB:SortedIn lt m b d) (has:a≤s) (heb:e≤b) (h:m<e→s<m→lt d[s]! d[e - 1]! =false): ∀x y,m≤x→x<e→s≤y→y<m→lt d[y]! d[x]! =false:=by
  intro x y h1 h2 h3 h4
  have k:=h (by omega) (by omega)
  have k1:lt d[s]! d[x]! =false:=by
    by_cases q:x=e - 1
    · rw [q];exact k
    exact hS.ntrans _ _ _ k (hB x (e - 1) h1 (by omega) (by omega))
  by_cases q:y=s
  · rw [q];exact k1
  exact hS.ntrans _ _ _ (hA s y has (by omega) h4) k1
theorem sym_join {a mid b:Nat} {d d1 d2:Array α} (ham:a≤mid) (hmb:mid≤b) (hb:b≤d.size) (hx: ∀x y,a≤x→x<mid→mid≤y→y<b→lt d[y]! d[x]! =false)
    (p1:PermIn a mid d d1) (s1:SortedIn lt a mid d1) (p2:PermIn mid b d1 d2) (s2:SortedIn lt mid b d2):SortedIn lt a b d2∧PermIn a b d d2:=by
  have k1: ∀x,a≤x→x<mid→ ∀y,mid≤y→y<b→lt d1[y]! d1[x]! =false:=by
    have q:=permIn_all d d1 a mid (fun v=> ∀y,mid≤y→y<b→lt d[y]! v=false) (by omega) p1 (fun i h1 h2 y h3 h4=>hx i y h1 h2 h3 h4)
    intro x h1 h2 y h3 h4
    rw [p1.2.1 y (by omega)]
    exact q x h1 h2 y h3 h4
  have k2: ∀y,mid≤y→y<b→ ∀x,a≤x→x<mid→lt d2[y]! d2[x]! =false:=by
    have q:=permIn_all d1 d2 mid b (fun v=> ∀x,a≤x→x<mid→lt v d1[x]! =false) (by rw [p1.1];exact hb) p2 (fun i h1 h2 x h3 h4=>k1 x h3 h4 i h1 h2)
    intro y h1 h2 x h3 h4
    rw [p2.2.1 x (by omega)]
    exact q y h1 h2 x h3 h4
  refine ⟨fun i j h1 h2 h3=> ?_,permIn_trans _ _ _ _ _ (permIn_mono d d1 a mid a b (Nat.le_refl _) hmb hb p1) (permIn_mono d1 d2 mid b a b ham (Nat.le_refl _) (by rw [p1.1];exact hb) p2)⟩
  by_cases c1:j<mid
  · rw [p2.2.1 i (by omega), p2.2.1 j (by omega)]
    exact s1 i j h1 h2 c1
  by_cases c2:i<mid
  · exact k2 j (by omega) h3 i h1 c2
  exact s2 i j (by omega) h2 h3
theorem ins_left (hS:SWO lt) {a i b:Nat} {d d':Array α} (h:RotAt a (a+1) i d d') (hai:a+1≤i) (hib:i≤b) (hB:SortedIn lt (a+1) b d) (l: ∀c,a+1≤c→c<i→lt d[c]! d[a]! =true) (g: ∀c,i≤c→c<b→lt d[c]! d[a]! =false):SortedIn lt a b d':=by
  have key:=rot_src h (by omega) hai
  intro x y h1 h2 h3
  obtain ⟨q,eq,cq⟩:=key x
  obtain ⟨r,er,cr⟩:=key y
  rw [eq,er]
  by_cases cx:q=a
  · rw [cx]
    exact g r (by omega) (by omega)
  by_cases cy:r=a
  · rw [cy]
    exact hS.asymmA (l q (by omega) (by omega))
  exact hB q r (by omega) (by omega) (by omega)
theorem ins_right_ (hS:SWO lt) {a i m:Nat} {d d':Array α} (h:RotAt i m (m+1) d d') (hai:a≤i) (him:i≤m) (hA:SortedIn lt a m d) (l: ∀c,a≤c→c<i→lt d[m]! d[c]! =false) (g: ∀c,i≤c→c<m→lt d[m]! d[c]! =true):SortedIn lt a (m+1) d':=by
  have key:=rot_src h him (by omega)
  intro x y h1 h2 h3
  obtain ⟨q,eq,cq⟩:=key x
  obtain ⟨r,er,cr⟩:=key y
  rw [eq,er]
  by_cases cx:q=m
  · rw [cx]
    exact hS.asymmA (g r (by omega) (by omega))
  by_cases cy:r=m
  · rw [cy]
    exact l q (by omega) (by omega)
  exact hA q r (by omega) (by omega) (by omega)
theorem sorted_le (hS:SWO lt) {a b:Nat} {d:Array α} (h:SortedIn lt a b d) {x y:Nat} (h1:a≤x) (h2:x≤y) (h3:y<b):lt d[y]! d[x]! =false:=by
  by_cases q:x=y
  · rw [q];exact hS.irrefl _
  exact h x y h1 (by omega) h3
theorem lt_le_lt {β:Type} {lt:β→β→Bool} (hS:SWO lt) {x y z:β} (h1:lt x y=true) (h2:lt z y=false):lt x z=true:=by
 cases h:lt x z with
 |true=>rfl
 |false=>rw [hS.ntrans _ _ _ h h2] at h1;cases h1
theorem le_lt_lt {β:Type} {lt:β→β→Bool} (hS:SWO lt) {x y z:β} (h1:lt y x=false) (h2:lt y z=true):lt x z=true:=by
 cases h:lt x z with
 |true=>rfl
 |false=>rw [hS.ntrans _ _ _ h1 h] at h2;cases h2
theorem left_lt (hS:SWO lt) {a m i b:Nat} {d:Array α} (hB:SortedIn lt m b d) (hib:i≤b) (h:i=m∨lt d[i - 1]! d[a]! =true): ∀c,m≤c→c<i→lt d[c]! d[a]! =true:=by
  intro c h1 h2
  rcases h with h|h
  · omega
  exact le_lt_lt hS (sorted_le hS hB h1 (by omega:c≤i - 1) (by omega)) h
theorem left_ge (hS:SWO lt) {a m i b:Nat} {d:Array α} (hB:SortedIn lt m b d) (hmi:m≤i) (h:i=b∨lt d[i]! d[a]! =false): ∀c,i≤c→c<b→lt d[c]! d[a]! =false:=by
  intro c h1 h2
  rcases h with h|h
  · omega
  exact hS.ntrans _ _ _ (sorted_le hS hB hmi h1 h2) h
theorem right_le (hS:SWO lt) {a m i:Nat} {d:Array α} (hA:SortedIn lt a m d) (him:i≤m) (h:i=a∨lt d[m]! d[i - 1]! =false): ∀c,a≤c→c<i→lt d[m]! d[c]! =false:=by
  intro c h1 h2
  rcases h with h|h
  · omega
  exact hS.ntrans _ _ _ h (sorted_le hS hA h1 (by omega:c≤i - 1) (by omega))
theorem right_gt (hS:SWO lt) {a m i:Nat} {d:Array α} (hA:SortedIn lt a m d) (hai:a≤i) (h:i=m∨lt d[m]! d[i]! =true): ∀c,i≤c→c<m→lt d[m]! d[c]! =true:=by
  intro c h1 h2
  rcases h with h|h
  · omega
  exact lt_le_lt hS h (sorted_le hS hA hai h1 h2)
structure Turned_ (lt:α→α→Bool) (a s mid e b:Nat) (d d1:Array α):Prop where
 perm:PermIn a b d d1
 s1:SortedIn lt a s d1
 s2:SortedIn lt s mid d1
 s3:SortedIn lt mid e d1
 s4:SortedIn lt e b d1
 x: ∀x y,a≤x→x<mid→mid≤y→y<b→lt d1[y]! d1[x]! =false
theorem turned_of (hS:SWO lt) {a s m mid e b:Nat} {d d1:Array α} (hp:PermIn a b d d1) (h:RotAt s m e d d1) (has:a≤s) (hsm:s≤m) (hme:m≤e) (heb:e≤b) (he:s+(e - m)=mid) (hA:SortedIn lt a m d) (hB:SortedIn lt m b d)
    (l:(s=a∨e=b)∨lt d[e]! d[s - 1]! =false) (g:(s=m∨e=m)∨lt d[e - 1]! d[s]! =true):Turned_ lt a s mid e b d d1:=by
  obtain ⟨a1,a2,a3,a4,a5⟩:=sym_half h has hsm hme heb hA hB
    (sym_x1 hS hA hB hsm hme (fun h1 h2=>by
      rcases l with l|l
      · omega
      exact l))
    (sym_x2 hS hA hB has heb (fun h1 h2=>by
      rcases g with g|g
      · omega
      exact hS.asymmA g))
  rw [he] at a2 a3 a5
  exact ⟨hp,a1,a2,a3,a4,a5⟩
theorem sorted_whole {a s mid:Nat} {d:Array α} (h1:SortedIn lt a s d) (h2:SortedIn lt s mid d) (h: ¬(a<s∧s<mid)):SortedIn lt a mid d:=by
  intro i j k1 k2 k3
  by_cases q:a<s
  · exact h1 i j k1 k2 (by omega)
  exact h2 i j (by omega) k2 k3
def Blocks (lt:α→α→Bool) (s n:Nat) (d:Array α):Prop:= ∀c,SortedIn lt (c*s) (min (c*s+s) n) d
def Mixed (lt:α→α→Bool) (s n t:Nat) (d:Array α):Prop:=(∀c,c<t→SortedIn lt (c*(2*s)) (min (c*(2*s)+2*s) n) d)∧ ∀c,2*t≤c→SortedIn lt (c*s) (min (c*s+s) n) d
theorem mixed_zero {s n:Nat} {d:Array α} (h:Blocks lt s n d):Mixed lt s n 0 d:=⟨fun c hc=>by omega,fun c _=>h c⟩
theorem sorted_congr {a b:Nat} {d d':Array α} (h:SortedIn lt a b d) (he: ∀k,a≤k→k<b→d'[k]! =d[k]!):SortedIn lt a b d':=fun i j h1 h2 h3=>by rw [he i h1 (by omega),he j (by omega) h3];exact h i j h1 h2 h3
theorem mul2 (t s:Nat):2*t*s=t*(2*s):=by rw [Nat.mul_comm 2 t,Nat.mul_assoc]
theorem mixed_step {s n t:Nat} {d d':Array α} (h:Mixed lt s n t d) (hp:PermIn (t*(2*s)) (min (t*(2*s)+2*s) n) d d') (hs:SortedIn lt (t*(2*s)) (min (t*(2*s)+2*s) n) d'):Mixed lt s n (t+1) d':=by
  refine ⟨fun c hc=> ?_,fun c hc=> ?_⟩
  rotate_left
  · have h1 : (2 * (t + 1)) * s ≤ c * s := Nat.mul_le_mul_right _ hc
    rw [mul2,Nat.add_mul,Nat.one_mul] at h1
    exact sorted_congr (h.2 c (by omega)) (fun k h2 _=>hp.2.1 k (.inr (by omega)))
  by_cases e:c=t
  · rw [e];exact hs
  have h1:(c+1)*(2*s)≤t*(2*s):=Nat.mul_le_mul_right _ (by omega)
  rw [Nat.add_mul,Nat.one_mul] at h1
  exact sorted_congr (h.1 c (by omega)) (fun k _ h3=>hp.2.1 k (.inl (by omega)))
theorem mixed_at {s n t:Nat} {d:Array α} (h:Mixed lt s n t d):SortedIn lt (t*(2*s)) (min (t*(2*s)+s) n) d∧SortedIn lt (t*(2*s)+s) (min (t*(2*s)+2*s) n) d:=by
 have h1:=h.2 (2*t) (Nat.le_refl _)
 have h2:=h.2 (2*t+1) (by omega)
 rw [Nat.add_mul,Nat.one_mul,mul2] at h2
 rw [mul2] at h1
 refine ⟨h1, ?_⟩
 rw [show t*(2*s)+2*s=t*(2*s)+s+s by omega]
 exact h2
theorem mixed_end {s n t:Nat} {d:Array α} (h:Mixed lt s n t d) (he:n≤t*(2*s)+s):Blocks lt (2*s) n d:=by
  intro c
  by_cases hc:c<t
  · exact h.1 c hc
  have h1:t*(2*s)≤c*(2*s):=Nat.mul_le_mul_right _ (by omega)
  by_cases e:c=t
  · rw [e]
    intro i j a1 a2 a3
    exact (mixed_at h).1 i j a1 a2 (by omega)
  have h2:(t+1)*(2*s)≤c*(2*s):=Nat.mul_le_mul_right _ (by omega)
  rw [Nat.add_mul,Nat.one_mul] at h2
  intro i j a1 a2 a3
  omega
theorem mixed_last {s n t:Nat} {d:Array α} (h:Mixed lt s n (t+1) d) (he:n≤t*(2*s)+2*s):Blocks lt (2*s) n d:=by
  intro c
  by_cases hc:c<t+1
  · exact h.1 c hc
  have h2:(t+1)*(2*s)≤c*(2*s):=Nat.mul_le_mul_right _ (by omega)
  rw [Nat.add_mul,Nat.one_mul] at h2
  intro i j a1 a2 a3
  omega
theorem blocks_all {s n:Nat} {d:Array α} (h:Blocks lt s n d) (hs:n≤s):SortedIn lt 0 n d:=by
 have q:=h 0
 rw [Nat.zero_mul,Nat.zero_add,Nat.min_eq_right hs] at q
 exact q
def Upto (lt:α→α→Bool) (s n t:Nat) (d:Array α):Prop:= ∀c,c<t→SortedIn lt (c*s) (min (c*s+s) n) d
theorem upto_step {s n t:Nat} {d d':Array α} (h:Upto lt s n t d) (hp:PermIn (t*s) (min (t*s+s) n) d d') (hs:SortedIn lt (t*s) (min (t*s+s) n) d'):Upto lt s n (t+1) d':=by
  intro c hc
  by_cases e:c=t
  · rw [e];exact hs
  have h1:(c+1)*s≤t*s:=Nat.mul_le_mul_right _ (by omega)
  rw [Nat.add_mul,Nat.one_mul] at h1
  exact sorted_congr (h c (by omega)) (fun k _ h3=>hp.2.1 k (.inl (by omega)))
theorem upto_all {s n t:Nat} {d:Array α} (h:Upto lt s n t d) (hn:n≤t*s):Blocks lt s n d:=by
  intro c
  by_cases hc:c<t
  · exact h c hc
  have h1:t*s≤c*s:=Nat.mul_le_mul_right _ (by omega)
  intro i j a1 a2 a3
  omega
theorem part_perm {a b n:Nat} {d0 d d':Array α} (h0:PermIn 0 n d0 d) (hp:PermIn a b d d') (hb:b≤n) (hn:n≤d.size):PermIn 0 n d0 d':=permIn_trans _ _ _ _ _ h0 (permIn_mono d d' a b 0 n (Nat.zero_le _) hb hn hp)
end Go.Proofs.Ytahidkjncljkaaa.Print

/- PlanFresh: a part -/
import Derived.Test.YtahidkjncljkaaaProg
import Derived.Below
import Derived.Deep.Draws
import Derived.Deep.AppendLies
import Derived.Maps.AppendAt
import Derived.OwnWalk
import Derived.Laws.BytesArg
import Derived.Laws.MakeOwn
import Derived.Laws.OwnMore
import Derived.Deep.OwnRows
import Derived.Tactics
import Derived.Lib.ConvBytes
import Derived.Laws.Slices
import Derived.WalkKit
import Derived.KernelRfl
import Derived.RowKit3
import Derived.Deep.LoopGhost
import Derived.Deep.QuietTactic
import Derived.BigQuiet
import Derived.WideLaws
import Derived.Deep.DeepCutAuto
import Derived.Deep.CutBlock
import Derived.Deep.RegionHeld3
import Derived.Laws.Rows
import Derived.Lib.AppendStr
import Derived.ArgAppend
import Derived.Laws.IdiomCopy
import Derived.OrdersHeld
import Derived.Laws.BitsLemmas
import Derived.RowKit
import Derived.Shelf.Abstract
import Derived.Laws.Strings
import Derived.Maps.OwnOps
import Derived.Maps.Views
import Derived.Sort.LotA
import Derived.StillTailTactics
import Derived.Test.YtahidkjncljkaaaBPlanFresh0
set_option linter.unusedVariables false
set_option linter.unusedSimpArgs false
namespace Go.Proofs.Ytahidkjncljkaaa.Print
open Go.RowKit Go.Proofs.YtahidkjncljkaaaW.PrintWords Go.Proofs.YtahidkjncljkaaaW.PrintLast Go.Proofs.YtahidkjncljkaaaW.PrintMore
attribute [local go_sem] max2_int min2_int max_two min_two max_three min_three max_four min_four



def errW:Option Int→Value
 |none=> .nilIface
 |some c=> .iface 0 (.int .i64 c)
theorem errW_none:errW none= .nilIface:=rfl
theorem errW_some (c:Int):errW (some c)= .iface 0 (.int .i64 c):=rfl

theorem info3:(Try.prog.info? 3).map (fun i=>(i.zero,i.size,i.bytes))=some (some (.int .i64 0),1,8):=by kernel_rfl
theorem info9:(Try.prog.info? 9).map (fun i=>(i.zero,i.size,i.bytes))=some (some (.string ⟨#[]⟩),1,16):=by kernel_rfl
theorem info37:(Try.prog.info? 37).map (fun i=>(i.zero,i.size,i.bytes))=some (some (.agg #[(.int .i64 0),(.int .i64 0),(.int .i64 0)]),3,24):=by kernel_rfl
theorem info39:(Try.prog.info? 39).map (fun i=>(i.zero,i.size,i.bytes))=some (some (.agg #[(.string ⟨#[]⟩),(.string ⟨#[]⟩),(.int .i64 0),(.int .i64 0),(.int .i64 0)]),5,56):=by kernel_rfl
theorem info76:(Try.prog.info? 76).map (fun i=>(i.zero,i.size,i.bytes))=some (some (.agg #[(.int .i64 0),(.string ⟨#[]⟩),(.string ⟨#[]⟩),(.int .i64 0),(.int .i64 0),(.int .i64 0)]),6,64):=by kernel_rfl
-- the values' own types
structure S37 where
 f0:Int
 f1:Int
 f2:Int
def z37:S37:=⟨(0:Int),(0:Int),(0:Int)⟩
def k37:Kd S37:=Kd.iso (Kd.pair (Kd.int .i64) (Kd.pair (Kd.int .i64) (Kd.int .i64))) (fun x:S37=>(x.f0,x.f1,x.f2))
theorem k37_open {w:World} {x:S37} {cs:List Value} (h:k37.K w x cs):cs=[.int .i64 x.f0, .int .i64 x.f1, .int .i64 x.f2]:=by
 obtain ⟨_,_,rfl,rfl,⟨_,_,rfl,rfl,rfl⟩⟩:=h
 exact rfl
theorem k37_openM {w:World} {base:Nat} {ok:Nat→Prop} {x:S37} {cs:List Value} (h:k37.M w base ok x cs):cs=[.int .i64 x.f0, .int .i64 x.f1, .int .i64 x.f2]:=by
 obtain ⟨_,_,rfl,rfl,⟨_,_,rfl,rfl,rfl⟩⟩:=h
 exact rfl
theorem k37_mkM (w:World) (base:Nat) (ok:Nat→Prop) (x:S37):k37.M w base ok x [.int .i64 x.f0, .int .i64 x.f1, .int .i64 x.f2]:=⟨[.int .i64 x.f0],[.int .i64 x.f1, .int .i64 x.f2],rfl,rfl,⟨[.int .i64 x.f1],[.int .i64 x.f2],rfl,rfl,rfl⟩⟩
def rd_T37 (xs:List S37) (i:Int):S37:=xs.getD i.toNat z37
theorem at_T37 {w:World} {A:Option Addr} {n:Nat} {xs:List S37} (h:Kd.C k37 w A n xs) (i:Int) (h0:0≤i) (h1:i<n): ∃ad,A=some ad∧w.cell? (ad.add (i.toNat*3))=some (.int .i64 (rd_T37 xs i).f0)∧w.cell? ⟨(ad.add (i.toNat*3)).block,(ad.add (i.toNat*3)).off+1,none⟩=some (.int .i64 (rd_T37 xs i).f1)∧w.cell? ⟨(ad.add (i.toNat*3)).block,(ad.add (i.toNat*3)).off+2,none⟩=some (.int .i64 (rd_T37 xs i).f2):=by
 obtain ⟨ad,c,e,_,hK,hc0⟩:=Kd.C_get h z37 i h0 h1
 have hc: ∀j u,c[j]?=some u→w.cell? (ad.add (i.toNat*3+j))=some u:=hc0
 obtain rfl:=k37_open hK
 exact ⟨ad,e,hc 0 _ rfl,by rw [←add_field _ _ 1 (by omega)];exact hc 1 _ rfl,by rw [←add_field _ _ 2 (by omega)];exact hc 2 _ rfl⟩

structure S39 where
 f0:ByteArray
 f1:ByteArray
 f2:S37
def z39:S39:=⟨(⟨#[]⟩:ByteArray),(⟨#[]⟩:ByteArray),z37⟩
def k39:Kd S39:=Kd.iso (Kd.pair Kd.string (Kd.pair Kd.string k37)) (fun x:S39=>(x.f0,x.f1,x.f2))
theorem k39_open {w:World} {x:S39} {cs:List Value} (h:k39.K w x cs):cs=[.string x.f0, .string x.f1, .int .i64 x.f2.f0, .int .i64 x.f2.f1, .int .i64 x.f2.f2]:=by
 obtain ⟨_,_,rfl,rfl,⟨_,_,rfl,rfl,s2⟩⟩:=h
 obtain rfl:=k37_open s2
 exact rfl
theorem k39_openM {w:World} {base:Nat} {ok:Nat→Prop} {x:S39} {cs:List Value} (h:k39.M w base ok x cs):cs=[.string x.f0, .string x.f1, .int .i64 x.f2.f0, .int .i64 x.f2.f1, .int .i64 x.f2.f2]:=by
 obtain ⟨_,_,rfl,rfl,⟨_,_,rfl,rfl,s2⟩⟩:=h
 obtain rfl:=k37_openM s2
 exact rfl
theorem k39_mkM (w:World) (base:Nat) (ok:Nat→Prop) (x:S39):k39.M w base ok x [.string x.f0, .string x.f1, .int .i64 x.f2.f0, .int .i64 x.f2.f1, .int .i64 x.f2.f2]:=⟨[.string x.f0],[.string x.f1, .int .i64 x.f2.f0, .int .i64 x.f2.f1, .int .i64 x.f2.f2],rfl,rfl,⟨[.string x.f1],[.int .i64 x.f2.f0, .int .i64 x.f2.f1, .int .i64 x.f2.f2],rfl,rfl,(k37_mkM w base ok x.f2)⟩⟩
def rd_T39 (xs:List S39) (i:Int):S39:=xs.getD i.toNat z39
theorem at_T39 {w:World} {A:Option Addr} {n:Nat} {xs:List S39} (h:Kd.C k39 w A n xs) (i:Int) (h0:0≤i) (h1:i<n): ∃ad,A=some ad∧w.cell? (ad.add (i.toNat*5))=some (.string (rd_T39 xs i).f0)∧w.cell? ⟨(ad.add (i.toNat*5)).block,(ad.add (i.toNat*5)).off+1,none⟩=some (.string (rd_T39 xs i).f1)∧w.cell? ⟨(ad.add (i.toNat*5)).block,(ad.add (i.toNat*5)).off+2,none⟩=some (.int .i64 (rd_T39 xs i).f2.f0)∧w.cell? ⟨(ad.add (i.toNat*5)).block,(ad.add (i.toNat*5)).off+3,none⟩=some (.int .i64 (rd_T39 xs i).f2.f1)∧w.cell? ⟨(ad.add (i.toNat*5)).block,(ad.add (i.toNat*5)).off+4,none⟩=some (.int .i64 (rd_T39 xs i).f2.f2):=by
 obtain ⟨ad,c,e,_,hK,hc0⟩:=Kd.C_get h z39 i h0 h1
 have hc: ∀j u,c[j]?=some u→w.cell? (ad.add (i.toNat*5+j))=some u:=hc0
 obtain rfl:=k39_open hK
 exact ⟨ad,e,hc 0 _ rfl,by rw [←add_field _ _ 1 (by omega)];exact hc 1 _ rfl,by rw [←add_field _ _ 2 (by omega)];exact hc 2 _ rfl,by rw [←add_field _ _ 3 (by omega)];exact hc 3 _ rfl,by rw [←add_field _ _ 4 (by omega)];exact hc 4 _ rfl⟩

structure S79 where
 f0:ByteArray
 f1:ByteArray
 f2:S37
 f3:S37
 f4:S37
 f5:Int
def z79:S79:=⟨(⟨#[]⟩:ByteArray),(⟨#[]⟩:ByteArray),z37,z37,z37,(0:Int)⟩
def k79:Kd S79:=Kd.iso (Kd.pair Kd.string (Kd.pair Kd.string (Kd.pair k37 (Kd.pair k37 (Kd.pair k37 (Kd.int .i64)))))) (fun x:S79=>(x.f0,x.f1,x.f2,x.f3,x.f4,x.f5))
theorem k79_open {w:World} {x:S79} {cs:List Value} (h:k79.K w x cs):cs=[.string x.f0, .string x.f1, .int .i64 x.f2.f0, .int .i64 x.f2.f1, .int .i64 x.f2.f2, .int .i64 x.f3.f0, .int .i64 x.f3.f1, .int .i64 x.f3.f2, .int .i64 x.f4.f0, .int .i64 x.f4.f1, .int .i64 x.f4.f2, .int .i64 x.f5]:=by
 obtain ⟨_,_,rfl,rfl,⟨_,_,rfl,rfl,⟨_,_,rfl,s2,⟨_,_,rfl,s5,⟨_,_,rfl,s8,rfl⟩⟩⟩⟩⟩:=h
 obtain rfl:=k37_open s2
 obtain rfl:=k37_open s5
 obtain rfl:=k37_open s8
 exact rfl
theorem k79_openM {w:World} {base:Nat} {ok:Nat→Prop} {x:S79} {cs:List Value} (h:k79.M w base ok x cs):cs=[.string x.f0, .string x.f1, .int .i64 x.f2.f0, .int .i64 x.f2.f1, .int .i64 x.f2.f2, .int .i64 x.f3.f0, .int .i64 x.f3.f1, .int .i64 x.f3.f2, .int .i64 x.f4.f0, .int .i64 x.f4.f1, .int .i64 x.f4.f2, .int .i64 x.f5]:=by
 obtain ⟨_,_,rfl,rfl,⟨_,_,rfl,rfl,⟨_,_,rfl,s2,⟨_,_,rfl,s5,⟨_,_,rfl,s8,rfl⟩⟩⟩⟩⟩:=h
 obtain rfl:=k37_openM s2
 obtain rfl:=k37_openM s5
 obtain rfl:=k37_openM s8
 exact rfl
theorem k79_mkM (w:World) (base:Nat) (ok:Nat→Prop) (x:S79):k79.M w base ok x [.string x.f0, .string x.f1, .int .i64 x.f2.f0, .int .i64 x.f2.f1, .int .i64 x.f2.f2, .int .i64 x.f3.f0, .int .i64 x.f3.f1, .int .i64 x.f3.f2, .int .i64 x.f4.f0, .int .i64 x.f4.f1, .int .i64 x.f4.f2, .int .i64 x.f5]:=⟨[.string x.f0],[.string x.f1, .int .i64 x.f2.f0, .int .i64 x.f2.f1, .int .i64 x.f2.f2, .int .i64 x.f3.f0, .int .i64 x.f3.f1, .int .i64 x.f3.f2, .int .i64 x.f4.f0, .int .i64 x.f4.f1, .int .i64 x.f4.f2, .int .i64 x.f5],rfl,rfl,⟨[.string x.f1],[.int .i64 x.f2.f0, .int .i64 x.f2.f1, .int .i64 x.f2.f2, .int .i64 x.f3.f0, .int .i64 x.f3.f1, .int .i64 x.f3.f2, .int .i64 x.f4.f0, .int .i64 x.f4.f1, .int .i64 x.f4.f2, .int .i64 x.f5],rfl,rfl,⟨[.int .i64 x.f2.f0, .int .i64 x.f2.f1, .int .i64 x.f2.f2],[.int .i64 x.f3.f0, .int .i64 x.f3.f1, .int .i64 x.f3.f2, .int .i64 x.f4.f0, .int .i64 x.f4.f1, .int .i64 x.f4.f2, .int .i64 x.f5],rfl,(k37_mkM w base ok x.f2),⟨[.int .i64 x.f3.f0, .int .i64 x.f3.f1, .int .i64 x.f3.f2],[.int .i64 x.f4.f0, .int .i64 x.f4.f1, .int .i64 x.f4.f2, .int .i64 x.f5],rfl,(k37_mkM w base ok x.f3),⟨[.int .i64 x.f4.f0, .int .i64 x.f4.f1, .int .i64 x.f4.f2],[.int .i64 x.f5],rfl,(k37_mkM w base ok x.f4),rfl⟩⟩⟩⟩⟩
def rd_T79 (xs:List S79) (i:Int):S79:=xs.getD i.toNat z79
theorem at_T79 {w:World} {A:Option Addr} {n:Nat} {xs:List S79} (h:Kd.C k79 w A n xs) (i:Int) (h0:0≤i) (h1:i<n): ∃ad,A=some ad∧w.cell? (ad.add (i.toNat*12))=some (.string (rd_T79 xs i).f0)∧w.cell? ⟨(ad.add (i.toNat*12)).block,(ad.add (i.toNat*12)).off+1,none⟩=some (.string (rd_T79 xs i).f1)∧w.cell? ⟨(ad.add (i.toNat*12)).block,(ad.add (i.toNat*12)).off+2,none⟩=some (.int .i64 (rd_T79 xs i).f2.f0)∧w.cell? ⟨(ad.add (i.toNat*12)).block,(ad.add (i.toNat*12)).off+3,none⟩=some (.int .i64 (rd_T79 xs i).f2.f1)∧w.cell? ⟨(ad.add (i.toNat*12)).block,(ad.add (i.toNat*12)).off+4,none⟩=some (.int .i64 (rd_T79 xs i).f2.f2)∧w.cell? ⟨(ad.add (i.toNat*12)).block,(ad.add (i.toNat*12)).off+5,none⟩=some (.int .i64 (rd_T79 xs i).f3.f0)∧w.cell? ⟨(ad.add (i.toNat*12)).block,(ad.add (i.toNat*12)).off+6,none⟩=some (.int .i64 (rd_T79 xs i).f3.f1)∧w.cell? ⟨(ad.add (i.toNat*12)).block,(ad.add (i.toNat*12)).off+7,none⟩=some (.int .i64 (rd_T79 xs i).f3.f2)∧w.cell? ⟨(ad.add (i.toNat*12)).block,(ad.add (i.toNat*12)).off+8,none⟩=some (.int .i64 (rd_T79 xs i).f4.f0)∧w.cell? ⟨(ad.add (i.toNat*12)).block,(ad.add (i.toNat*12)).off+9,none⟩=some (.int .i64 (rd_T79 xs i).f4.f1)∧w.cell? ⟨(ad.add (i.toNat*12)).block,(ad.add (i.toNat*12)).off+10,none⟩=some (.int .i64 (rd_T79 xs i).f4.f2)∧w.cell? ⟨(ad.add (i.toNat*12)).block,(ad.add (i.toNat*12)).off+11,none⟩=some (.int .i64 (rd_T79 xs i).f5):=by
 obtain ⟨ad,c,e,_,hK,hc0⟩:=Kd.C_get h z79 i h0 h1
 have hc: ∀j u,c[j]?=some u→w.cell? (ad.add (i.toNat*12+j))=some u:=hc0
 obtain rfl:=k79_open hK
 exact ⟨ad,e,hc 0 _ rfl,by rw [←add_field _ _ 1 (by omega)];exact hc 1 _ rfl,by rw [←add_field _ _ 2 (by omega)];exact hc 2 _ rfl,by rw [←add_field _ _ 3 (by omega)];exact hc 3 _ rfl,by rw [←add_field _ _ 4 (by omega)];exact hc 4 _ rfl,by rw [←add_field _ _ 5 (by omega)];exact hc 5 _ rfl,by rw [←add_field _ _ 6 (by omega)];exact hc 6 _ rfl,by rw [←add_field _ _ 7 (by omega)];exact hc 7 _ rfl,by rw [←add_field _ _ 8 (by omega)];exact hc 8 _ rfl,by rw [←add_field _ _ 9 (by omega)];exact hc 9 _ rfl,by rw [←add_field _ _ 10 (by omega)];exact hc 10 _ rfl,by rw [←add_field _ _ 11 (by omega)];exact hc 11 _ rfl⟩

structure S84 where
 f0:ByteArray
 f1:ByteArray
 f2:S37
 f3:Int
def z84:S84:=⟨(⟨#[]⟩:ByteArray),(⟨#[]⟩:ByteArray),z37,(0:Int)⟩
def k84:Kd S84:=Kd.iso (Kd.pair Kd.string (Kd.pair Kd.string (Kd.pair k37 (Kd.int .i64)))) (fun x:S84=>(x.f0,x.f1,x.f2,x.f3))
theorem k84_open {w:World} {x:S84} {cs:List Value} (h:k84.K w x cs):cs=[.string x.f0, .string x.f1, .int .i64 x.f2.f0, .int .i64 x.f2.f1, .int .i64 x.f2.f2, .int .i64 x.f3]:=by
 obtain ⟨_,_,rfl,rfl,⟨_,_,rfl,rfl,⟨_,_,rfl,s2,rfl⟩⟩⟩:=h
 obtain rfl:=k37_open s2
 exact rfl
def rd_T84 (xs:List S84) (i:Int):S84:=xs.getD i.toNat z84
theorem at_T84 {w:World} {A:Option Addr} {n:Nat} {xs:List S84} (h:Kd.C k84 w A n xs) (i:Int) (h0:0≤i) (h1:i<n): ∃ad,A=some ad∧w.cell? (ad.add (i.toNat*6))=some (.string (rd_T84 xs i).f0)∧w.cell? ⟨(ad.add (i.toNat*6)).block,(ad.add (i.toNat*6)).off+1,none⟩=some (.string (rd_T84 xs i).f1)∧w.cell? ⟨(ad.add (i.toNat*6)).block,(ad.add (i.toNat*6)).off+2,none⟩=some (.int .i64 (rd_T84 xs i).f2.f0)∧w.cell? ⟨(ad.add (i.toNat*6)).block,(ad.add (i.toNat*6)).off+3,none⟩=some (.int .i64 (rd_T84 xs i).f2.f1)∧w.cell? ⟨(ad.add (i.toNat*6)).block,(ad.add (i.toNat*6)).off+4,none⟩=some (.int .i64 (rd_T84 xs i).f2.f2)∧w.cell? ⟨(ad.add (i.toNat*6)).block,(ad.add (i.toNat*6)).off+5,none⟩=some (.int .i64 (rd_T84 xs i).f3):=by
 obtain ⟨ad,c,e,_,hK,hc0⟩:=Kd.C_get h z84 i h0 h1
 have hc: ∀j u,c[j]?=some u→w.cell? (ad.add (i.toNat*6+j))=some u:=hc0
 obtain rfl:=k84_open hK
 exact ⟨ad,e,hc 0 _ rfl,by rw [←add_field _ _ 1 (by omega)];exact hc 1 _ rfl,by rw [←add_field _ _ 2 (by omega)];exact hc 2 _ rfl,by rw [←add_field _ _ 3 (by omega)];exact hc 3 _ rfl,by rw [←add_field _ _ 4 (by omega)];exact hc 4 _ rfl,by rw [←add_field _ _ 5 (by omega)];exact hc 5 _ rfl⟩

structure S76 where
 f0:Int
 f1:ByteArray
 f2:ByteArray
 f3:S37
def z76:S76:=⟨(0:Int),(⟨#[]⟩:ByteArray),(⟨#[]⟩:ByteArray),z37⟩
def k76:Kd S76:=Kd.iso (Kd.pair (Kd.int .i64) (Kd.pair Kd.string (Kd.pair Kd.string k37))) (fun x:S76=>(x.f0,x.f1,x.f2,x.f3))
theorem k76_open {w:World} {x:S76} {cs:List Value} (h:k76.K w x cs):cs=[.int .i64 x.f0, .string x.f1, .string x.f2, .int .i64 x.f3.f0, .int .i64 x.f3.f1, .int .i64 x.f3.f2]:=by
 obtain ⟨_,_,rfl,rfl,⟨_,_,rfl,rfl,⟨_,_,rfl,rfl,s3⟩⟩⟩:=h
 obtain rfl:=k37_open s3
 exact rfl
theorem k76_mkM (w:World) (base:Nat) (ok:Nat→Prop) (x:S76):k76.M w base ok x [.int .i64 x.f0, .string x.f1, .string x.f2, .int .i64 x.f3.f0, .int .i64 x.f3.f1, .int .i64 x.f3.f2]:=⟨[.int .i64 x.f0],[.string x.f1, .string x.f2, .int .i64 x.f3.f0, .int .i64 x.f3.f1, .int .i64 x.f3.f2],rfl,rfl,⟨[.string x.f1],[.string x.f2, .int .i64 x.f3.f0, .int .i64 x.f3.f1, .int .i64 x.f3.f2],rfl,rfl,⟨[.string x.f2],[.int .i64 x.f3.f0, .int .i64 x.f3.f1, .int .i64 x.f3.f2],rfl,rfl,(k37_mkM w base ok x.f3)⟩⟩⟩
def rd_T76 (xs:List S76) (i:Int):S76:=xs.getD i.toNat z76
theorem at_T76 {w:World} {A:Option Addr} {n:Nat} {xs:List S76} (h:Kd.C k76 w A n xs) (i:Int) (h0:0≤i) (h1:i<n): ∃ad,A=some ad∧w.cell? (ad.add (i.toNat*6))=some (.int .i64 (rd_T76 xs i).f0)∧w.cell? ⟨(ad.add (i.toNat*6)).block,(ad.add (i.toNat*6)).off+1,none⟩=some (.string (rd_T76 xs i).f1)∧w.cell? ⟨(ad.add (i.toNat*6)).block,(ad.add (i.toNat*6)).off+2,none⟩=some (.string (rd_T76 xs i).f2)∧w.cell? ⟨(ad.add (i.toNat*6)).block,(ad.add (i.toNat*6)).off+3,none⟩=some (.int .i64 (rd_T76 xs i).f3.f0)∧w.cell? ⟨(ad.add (i.toNat*6)).block,(ad.add (i.toNat*6)).off+4,none⟩=some (.int .i64 (rd_T76 xs i).f3.f1)∧w.cell? ⟨(ad.add (i.toNat*6)).block,(ad.add (i.toNat*6)).off+5,none⟩=some (.int .i64 (rd_T76 xs i).f3.f2):=by
 obtain ⟨ad,c,e,_,hK,hc0⟩:=Kd.C_get h z76 i h0 h1
 have hc: ∀j u,c[j]?=some u→w.cell? (ad.add (i.toNat*6+j))=some u:=hc0
 obtain rfl:=k76_open hK
 exact ⟨ad,e,hc 0 _ rfl,by rw [←add_field _ _ 1 (by omega)];exact hc 1 _ rfl,by rw [←add_field _ _ 2 (by omega)];exact hc 2 _ rfl,by rw [←add_field _ _ 3 (by omega)];exact hc 3 _ rfl,by rw [←add_field _ _ 4 (by omega)];exact hc 4 _ rfl,by rw [←add_field _ _ 5 (by omega)];exact hc 5 _ rfl⟩

structure S56 where
 f0:(List S79)
 f1:Int
 f2:Int
structure S141 where
 f0:S39
 f1:S79
 f2:Bool
 f3:S37
def z141:S141:=⟨z39,z79,false,z37⟩
def k141:Kd S141:=Kd.iso (Kd.pair k39 (Kd.pair k79 (Kd.pair Kd.bool k37))) (fun x:S141=>(x.f0,x.f1,x.f2,x.f3))
theorem k141_openM {w:World} {base:Nat} {ok:Nat→Prop} {x:S141} {cs:List Value} (h:k141.M w base ok x cs):cs=[.string x.f0.f0, .string x.f0.f1, .int .i64 x.f0.f2.f0, .int .i64 x.f0.f2.f1, .int .i64 x.f0.f2.f2, .string x.f1.f0, .string x.f1.f1, .int .i64 x.f1.f2.f0, .int .i64 x.f1.f2.f1, .int .i64 x.f1.f2.f2, .int .i64 x.f1.f3.f0, .int .i64 x.f1.f3.f1, .int .i64 x.f1.f3.f2, .int .i64 x.f1.f4.f0, .int .i64 x.f1.f4.f1, .int .i64 x.f1.f4.f2, .int .i64 x.f1.f5, .bool x.f2, .int .i64 x.f3.f0, .int .i64 x.f3.f1, .int .i64 x.f3.f2]:=by
 obtain ⟨_,_,rfl,s0,⟨_,_,rfl,s5,⟨_,_,rfl,rfl,s18⟩⟩⟩:=h
 obtain rfl:=k39_openM s0
 obtain rfl:=k79_openM s5
 obtain rfl:=k37_openM s18
 exact rfl
theorem k141_mkM (w:World) (base:Nat) (ok:Nat→Prop) (x:S141):k141.M w base ok x [.string x.f0.f0, .string x.f0.f1, .int .i64 x.f0.f2.f0, .int .i64 x.f0.f2.f1, .int .i64 x.f0.f2.f2, .string x.f1.f0, .string x.f1.f1, .int .i64 x.f1.f2.f0, .int .i64 x.f1.f2.f1, .int .i64 x.f1.f2.f2, .int .i64 x.f1.f3.f0, .int .i64 x.f1.f3.f1, .int .i64 x.f1.f3.f2, .int .i64 x.f1.f4.f0, .int .i64 x.f1.f4.f1, .int .i64 x.f1.f4.f2, .int .i64 x.f1.f5, .bool x.f2, .int .i64 x.f3.f0, .int .i64 x.f3.f1, .int .i64 x.f3.f2]:=⟨[.string x.f0.f0, .string x.f0.f1, .int .i64 x.f0.f2.f0, .int .i64 x.f0.f2.f1, .int .i64 x.f0.f2.f2],[.string x.f1.f0, .string x.f1.f1, .int .i64 x.f1.f2.f0, .int .i64 x.f1.f2.f1, .int .i64 x.f1.f2.f2, .int .i64 x.f1.f3.f0, .int .i64 x.f1.f3.f1, .int .i64 x.f1.f3.f2, .int .i64 x.f1.f4.f0, .int .i64 x.f1.f4.f1, .int .i64 x.f1.f4.f2, .int .i64 x.f1.f5, .bool x.f2, .int .i64 x.f3.f0, .int .i64 x.f3.f1, .int .i64 x.f3.f2],rfl,(k39_mkM w base ok x.f0),⟨[.string x.f1.f0, .string x.f1.f1, .int .i64 x.f1.f2.f0, .int .i64 x.f1.f2.f1, .int .i64 x.f1.f2.f2, .int .i64 x.f1.f3.f0, .int .i64 x.f1.f3.f1, .int .i64 x.f1.f3.f2, .int .i64 x.f1.f4.f0, .int .i64 x.f1.f4.f1, .int .i64 x.f1.f4.f2, .int .i64 x.f1.f5],[.bool x.f2, .int .i64 x.f3.f0, .int .i64 x.f3.f1, .int .i64 x.f3.f2],rfl,(k79_mkM w base ok x.f1),⟨[.bool x.f2],[.int .i64 x.f3.f0, .int .i64 x.f3.f1, .int .i64 x.f3.f2],rfl,rfl,(k37_mkM w base ok x.f3)⟩⟩⟩
theorem eqA37 (d:Nat) (w:World) (x0 y0:Int) (x1 y1:Int) (x2 y2:Int):
  (Op.equalIn (d+2) 37 (.agg #[.int .i64 x0, .int .i64 x1, .int .i64 x2]) (.agg #[.int .i64 y0, .int .i64 y1, .int .i64 y2])).run Try.prog w= .ok (x0==y0 && (x1==y1 && (x2==y2))) w:=by
 refine eqA_of Try.underlying37 (by kernel_rfl) ?_
 refine eqf_cons (by rfl) (by go_simp;rfl) (by go_simp;rfl) (by go_simp) ?_
 refine eqf_cons (by rfl) (by go_simp;rfl) (by go_simp;rfl) (by go_simp) ?_
 exact eqf_last (by rfl) (by go_simp;rfl) (by go_simp;rfl) (by go_simp)
theorem eqA76 (d:Nat) (w:World) (x0 y0:Int) (x1 y1:ByteArray) (x2 y2:ByteArray) (x3 y3:Int) (x4 y4:Int) (x5 y5:Int):
  (Op.equalIn (d+3) 76 (.agg #[.int .i64 x0, .string x1, .string x2, .int .i64 x3, .int .i64 x4, .int .i64 x5]) (.agg #[.int .i64 y0, .string y1, .string y2, .int .i64 y3, .int .i64 y4, .int .i64 y5])).run Try.prog w= .ok (x0==y0 && (x1.toList==y1.toList && (x2.toList==y2.toList && ((x3==y3 && (x4==y4 && (x5==y5))))))) w:=by
 refine eqA_of Try.underlying76 (by kernel_rfl) ?_
 refine eqf_cons (by rfl) (by go_simp;rfl) (by go_simp;rfl) (by go_simp) ?_
 refine eqf_cons (by rfl) (by go_simp;rfl) (by go_simp;rfl) (by go_simp) ?_
 refine eqf_cons (by rfl) (by go_simp;rfl) (by go_simp;rfl) (by go_simp) ?_
 exact eqf_last (by rfl) (by go_simp) (by go_simp) (eqA37 (d+0) w _ _ _ _ _ _)
def r10_wanted.l0:Nat→List (S39)→ByteArray→Int→Option (Int)
 |0,_,_,_=>none
 |k+1,x0,x1,x5=>if x5<(x0.length:Int) then (if 0≤x5 then (if ((rd_T39 x0 x5).f0).toList=x1.toList then (some x5) else (r10_wanted.l0 k x0 x1 (wrap64 (x5+1)))) else (none)) else (some (-1))
def r10_wanted.f (k:Nat) (l0:List (S39)) (a1:ByteArray):Option (Int):=r10_wanted.l0 k l0 a1 0
theorem r10_wanted.mono_l: ∀k,(∀y0 y1 y2,LeO (r10_wanted.l0 k y0 y1 y2) (r10_wanted.l0 (k+1) y0 y1 y2))
 |0=>fun _ _ _ r h=>by simp [r10_wanted.l0] at h
 |k+1=>by
  have ih0:=r10_wanted.mono_l k
  intro y0 y1 y2
  unfold r10_wanted.l0
  repeat' first
  |(with_reducible exact ih0 _ _ _)
  |(with_reducible exact LeO.refl _)
  |(with_reducible exact LeO.none _)
  |(with_reducible refine LeO.ite ?_ ?_)
  |(with_reducible refine LeO.bind ?_ (fun _=> ?_))
  |exact ih0 _ _ _
  |exact LeO.none _
  |refine LeO.ite ?_ ?_
  |refine LeO.bind ?_ (fun _=> ?_)
theorem r10_wanted.mono: ∀a0 a1 k,LeO (r10_wanted.f k a0 a1) (r10_wanted.f (k+1) a0 a1):=by
 intro a0 a1 k
 have ih0:=r10_wanted.mono_l k
 unfold r10_wanted.f
 repeat' first
  |(with_reducible exact ih0 _ _ _)
  |(with_reducible exact LeO.refl _)
  |(with_reducible exact LeO.none _)
  |(with_reducible refine LeO.ite ?_ ?_)
  |(with_reducible refine LeO.bind ?_ (fun _=> ?_))
  |exact ih0 _ _ _
  |exact LeO.none _
  |refine LeO.ite ?_ ?_
  |refine LeO.bind ?_ (fun _=> ?_)
set_option maxHeartbeats 8000000 in
set_option maxRecDepth 100000 in
theorem r10_wanted.calls (k:Nat) (A0:Option Addr) (c0:Nat) (l0:List (S39)) (a1:ByteArray) (r:Int) (w:World) (hr0:Kd.C k39 w A0 l0.length l0) (hc0:l0.length≤c0) (h:r10_wanted.f k l0 a1=some r):
  Calls Try.prog 69 #[.slice A0 l0.length c0, .string a1] w fun e w'=>e= .returned (.int .i64 r)∧Drawn0 w w':=by
 have HR0:=Aside0.mk hr0
 have HC0:=Aside0.mk hc0
 clear hr0 hc0
 have H:(r10_wanted.l0 k l0 a1 0)=some r:=h
 clear h
 have H':=Aside0.mk H
 clear H
 go_enter Try.func69,Try.ntmps69
 go_wp2
 go_loopg [5] k (fun kq v5 w'=> ∃(x5_1:Int),v5= .int .i64 x5_1∧Aside0 (r10_wanted.l0 kq l0 a1 x5_1=some r)∧Aside0 (kq≤k)∧Drawn0 w w')
 case atStart=>exact ⟨(0),(by first|rfl|(simp;done)|(simp [*];done)),H',⟨Nat.le_refl _⟩,by repeat (first|exact Drawn0.refl _|apply Drawn0.step)⟩
 case round=>
  clear H'
  try clear p2
  obtain ⟨x5_1,rfl,HA,HK1,⟨m1,rfl⟩⟩:=hrel
  cases gk with
  |zero=>exact absurd HA.out (by simp [r10_wanted.l0])
  |succ k1=>
   have H:=HA.out
   clear HA
   simp only [r10_wanted.l0] at H
   by_cases c3:x5_1<(l0.length:Int)
   rotate_left
   ·rw [if_neg c3] at H
    have c3b0:decide (x5_1<(l0.length:Int))=false:=decide_eq_false c3
    clear c3
    obtain rfl:=Option.some.inj H
    go_wp2
    go_ret
    exact ⟨by first|rfl|(simp;done)|(simp [*];done),by repeat (first|exact Drawn0.refl _|apply Drawn0.step)⟩

   rw [if_pos c3] at H
   have c3b0:decide (x5_1<(l0.length:Int))=true:=decide_eq_true c3
   clear c3
   by_cases c4:0≤x5_1
   rotate_left
   ·rw [if_neg c4] at H
    exact absurd H (by simp)
   rw [if_pos c4] at H
   have c4b0:decide (0≤x5_1)=true:=decide_eq_true c4
   clear c4
   by_cases c5:((rd_T39 l0 x5_1).f0).toList=a1.toList
   ·rw [if_pos c5] at H
    have c5b0:(((rd_T39 l0 x5_1).f0).toList==a1.toList)=true:=beq_iff_eq.mpr c5
    have c5b1:(((rd_T39 l0 x5_1).f0).toList !=a1.toList)=false:=bne_eq_false_iff_eq.mpr c5
    clear c5
    obtain rfl:=Option.some.inj H
    have p1:0≤(x5_1:Int):=of_decide_eq_true zq_
    have q1:x5_1<(l0.length:Int):=of_decide_eq_true zq_
    obtain ⟨ad1,e1,hx1_0,hx1_1,hx1_2,hx1_3,hx1_4⟩:=at_T39 HR0.out x5_1 p1 q1
    cases e1
    replace p1:=eq_true p1
    replace q1:=eq_true q1
    go_wp2
    go_ret
    exact ⟨by first|rfl|(simp;done)|(simp [*];done),by repeat (first|exact Drawn0.refl _|apply Drawn0.step)⟩
   rw [if_neg c5] at H
   have c5b0:(((rd_T39 l0 x5_1).f0).toList==a1.toList)=false:=beq_eq_false_iff_ne.mpr c5
   have c5b1:(((rd_T39 l0 x5_1).f0).toList !=a1.toList)=true:=bne_iff_ne.mpr c5
   have H':=Aside0.mk H
   clear H
   have p1:0≤(x5_1:Int):=of_decide_eq_true zq_
   have q1:x5_1<(l0.length:Int):=of_decide_eq_true zq_
   obtain ⟨ad1,e1,hx1_0,hx1_1,hx1_2,hx1_3,hx1_4⟩:=at_T39 HR0.out x5_1 p1 q1
   cases e1
   replace p1:=eq_true p1
   replace q1:=eq_true q1
   go_wp2
   go_roundg k1
   case measure=>have:=HK1.out;omega
   case rel=>exact ⟨(wrap64 (x5_1+1)),(by first|rfl|(simp;done)|(simp [*];done)),H',⟨by have:=HK1.out;omega⟩,by repeat (first|exact Drawn0.refl _|apply Drawn0.step)⟩
def r10_Depth.l0:Nat→List (S39)→Int→Int→Option (Int)
 |0,_,_,_=>none
 |k+1,x0,x5,x6=>if x6≥0 then (if (wrap64 (x5+1))>(x0.length:Int) then (some (-1)) else (if 0≤x6 then (if x6<(x0.length:Int) then (if ((rd_T39 x0 x6).f1).toList=([]:List UInt8) then (some (wrap64 (x5+1))) else ((r10_wanted.f k x0 ((rd_T39 x0 x6).f1)).bind fun t4=>(r10_Depth.l0 k x0 (wrap64 (x5+1)) t4))) else (none)) else (none))) else (some 0)
def r10_Depth.f (k:Nat) (l0:List (S39)) (a1:ByteArray):Option (Int):=(r10_wanted.f k l0 a1).bind fun t1=>(r10_Depth.l0 k l0 0 t1)
theorem r10_Depth.mono_l: ∀k,(∀y0 y1 y2,LeO (r10_Depth.l0 k y0 y1 y2) (r10_Depth.l0 (k+1) y0 y1 y2))
 |0=>fun _ _ _ r h=>by simp [r10_Depth.l0] at h
 |k+1=>by
  have ih0:=r10_Depth.mono_l k
  intro y0 y1 y2
  unfold r10_Depth.l0
  repeat' first
  |(with_reducible exact ih0 _ _ _)
  |(with_reducible exact r10_wanted.mono _ _ _)
  |(with_reducible exact LeO.refl _)
  |(with_reducible exact LeO.none _)
  |(with_reducible refine LeO.ite ?_ ?_)
  |(with_reducible refine LeO.bind ?_ (fun _=> ?_))
  |exact ih0 _ _ _
  |exact r10_wanted.mono _ _ _
  |exact LeO.none _
  |refine LeO.ite ?_ ?_
  |refine LeO.bind ?_ (fun _=> ?_)
theorem r10_Depth.mono: ∀a0 a1 k,LeO (r10_Depth.f k a0 a1) (r10_Depth.f (k+1) a0 a1):=by
 intro a0 a1 k
 have ih0:=r10_Depth.mono_l k
 unfold r10_Depth.f
 repeat' first
  |(with_reducible exact ih0 _ _ _)
  |(with_reducible exact r10_wanted.mono _ _ _)
  |(with_reducible exact LeO.refl _)
  |(with_reducible exact LeO.none _)
  |(with_reducible refine LeO.ite ?_ ?_)
  |(with_reducible refine LeO.bind ?_ (fun _=> ?_))
  |exact ih0 _ _ _
  |exact r10_wanted.mono _ _ _
  |exact LeO.none _
  |refine LeO.ite ?_ ?_
  |refine LeO.bind ?_ (fun _=> ?_)
set_option maxHeartbeats 8000000 in
set_option maxRecDepth 100000 in
theorem r10_Depth.calls (k:Nat) (A0:Option Addr) (c0:Nat) (l0:List (S39)) (a1:ByteArray) (r:Int) (w:World) (hr0:Kd.C k39 w A0 l0.length l0) (hc0:l0.length≤c0) (h:r10_Depth.f k l0 a1=some r):
  Calls Try.prog 28 #[.slice A0 l0.length c0, .string a1] w fun e w'=>e= .returned (.int .i64 r)∧Drawn0 w w':=by
 have HR0:=Aside0.mk hr0
 have HC0:=Aside0.mk hc0
 clear hr0 hc0
 have H:((r10_wanted.f k l0 a1).bind fun t1=>(r10_Depth.l0 k l0 0 t1))=some r:=h
 clear h
 replace H:=Option.bind_eq_some_iff.mp H
 obtain ⟨t1,A30,H⟩:=H
 try dsimp only at H
 have A3:=Aside0.mk A30
 clear A30
 have H':=Aside0.mk H
 clear H
 go_enter Try.func28,Try.ntmps28
 go_wp2_with (first|((with_reducible refine gate_callee (f:=69) rfl ?_);refine gl_ (some 9) Try.func69 #[.slice A0 l0.length c0, .string a1] ?_;(with_reducible refine (r10_wanted.calls k _ _ l0 a1 t1 _ ?side1 ?side2 A3.out).mono ?_);(case side1=>repeat (first|exact HR0.out|(with_reducible refine Kd.C_alloc ?_ _)|(with_reducible refine Kd.C_drewN ?_ _)|(with_reducible refine Kd.C_drew ?_)));(case side2=>exact HC0.out);rintro e w' ⟨rfl,⟨nd,rfl⟩⟩;refine ⟨_,rfl, ?_⟩))
 go_loopg [5,6] k (fun kq v5 v6 w'=> ∃(x5_1:Int) (x6_1:Int),v5= .int .i64 x5_1∧v6= .int .i64 x6_1∧Aside0 (r10_Depth.l0 kq l0 x5_1 x6_1=some r)∧Aside0 (kq≤k)∧Drawn0 w w')
 case atStart=>exact ⟨(0),(t1),(by first|rfl|(simp;done)|(simp [*];done)),(by first|rfl|(simp;done)|(simp [*];done)),H',⟨Nat.le_refl _⟩,by repeat (first|exact Drawn0.refl _|apply Drawn0.step)⟩
 case round=>
  clear H'
  try clear c2
  try clear p2
  obtain ⟨x5_1,x6_1,rfl,rfl,HA,HK1,⟨m1,rfl⟩⟩:=hrel
  cases gk with
  |zero=>exact absurd HA.out (by simp [r10_Depth.l0])
  |succ k1=>
   have H:=HA.out
   clear HA
   simp only [r10_Depth.l0] at H
   by_cases c4:x6_1≥0
   rotate_left
   ·rw [if_neg c4] at H
    have c4b0:decide (0≤x6_1)=false:=decide_eq_false c4
    clear c4
    obtain rfl:=Option.some.inj H
    go_wp2
    go_ret
    exact ⟨by first|rfl|(simp;done)|(simp [*];done),by repeat (first|exact Drawn0.refl _|apply Drawn0.step)⟩

   rw [if_pos c4] at H
   have c4b0:decide (0≤x6_1)=true:=decide_eq_true c4
   clear c4
   by_cases c5:(wrap64 (x5_1+1))>(l0.length:Int)
   ·rw [if_pos c5] at H
    have c5b0:decide ((l0.length:Int)<(wrap64 (x5_1+1)))=true:=decide_eq_true c5
    clear c5
    obtain rfl:=Option.some.inj H
    go_wp2
    go_ret
    exact ⟨by first|rfl|(simp;done)|(simp [*];done),by repeat (first|exact Drawn0.refl _|apply Drawn0.step)⟩
   rw [if_neg c5] at H
   have c5b0:decide ((l0.length:Int)<(wrap64 (x5_1+1)))=false:=decide_eq_false c5
   clear c5
   by_cases c6:0≤x6_1
   rotate_left
   ·rw [if_neg c6] at H
    exact absurd H (by simp)
   rw [if_pos c6] at H
   have c6b0:decide (0≤x6_1)=true:=decide_eq_true c6
   clear c6
   by_cases c7:x6_1<(l0.length:Int)
   rotate_left
   ·rw [if_neg c7] at H
    exact absurd H (by simp)
   rw [if_pos c7] at H
   have c7b0:decide (x6_1<(l0.length:Int))=true:=decide_eq_true c7
   clear c7
   by_cases c8:((rd_T39 l0 x6_1).f1).toList=([]:List UInt8)
   ·rw [if_pos c8] at H
    have c8b0:(((rd_T39 l0 x6_1).f1).toList==([]:List UInt8))=true:=beq_iff_eq.mpr c8
    have c8b1:(((rd_T39 l0 x6_1).f1).toList !=([]:List UInt8))=false:=bne_eq_false_iff_eq.mpr c8
    clear c8
    obtain rfl:=Option.some.inj H
    have p2:0≤(x6_1:Int):=of_decide_eq_true zq_
    have q2:x6_1<(l0.length:Int):=of_decide_eq_true zq_
    obtain ⟨ad2,e2,hx2_0,hx2_1,hx2_2,hx2_3,hx2_4⟩:=at_T39 HR0.out x6_1 p2 q2
    cases e2
    replace p2:=eq_true p2
    replace q2:=eq_true q2
    go_wp2
    go_ret
    exact ⟨by first|rfl|(simp;done)|(simp [*];done),by repeat (first|exact Drawn0.refl _|apply Drawn0.step)⟩
   rw [if_neg c8] at H
   have c8b0:(((rd_T39 l0 x6_1).f1).toList==([]:List UInt8))=false:=beq_eq_false_iff_ne.mpr c8
   have c8b1:(((rd_T39 l0 x6_1).f1).toList !=([]:List UInt8))=true:=bne_iff_ne.mpr c8
   replace H:=Option.bind_eq_some_iff.mp H
   obtain ⟨t4,A90,H⟩:=H
   try dsimp only at H
   have A9:=Aside0.mk A90
   clear A90
   have H':=Aside0.mk H
   clear H
   have p2:0≤(x6_1:Int):=of_decide_eq_true zq_
   have q2:x6_1<(l0.length:Int):=of_decide_eq_true zq_
   obtain ⟨ad2,e2,hx2_0,hx2_1,hx2_2,hx2_3,hx2_4⟩:=at_T39 HR0.out x6_1 p2 q2
   cases e2
   replace p2:=eq_true p2
   replace q2:=eq_true q2
   have p3:0≤(x6_1:Int):=of_decide_eq_true zq_
   have q3:x6_1<(l0.length:Int):=of_decide_eq_true zq_
   obtain ⟨ad3,e3,hx3_0,hx3_1,hx3_2,hx3_3,hx3_4⟩:=at_T39 HR0.out x6_1 p3 q3
   obtain rfl:ad2=ad3:=(by injection e3)
   replace p3:=eq_true p3
   replace q3:=eq_true q3
   go_wp2_with (first|((with_reducible refine gate_callee (f:=69) rfl ?_);refine gl_ (some 18) Try.func69 #[.slice (some ad2) l0.length c0, .string ((rd_T39 l0 x6_1).f1)] ?_;(with_reducible refine (r10_wanted.calls k1 _ _ l0 ((rd_T39 l0 x6_1).f1) t4 _ ?side1 ?side2 A9.out).mono ?_);(case side1=>repeat (first|exact HR0.out|(with_reducible refine Kd.C_alloc ?_ _)|(with_reducible refine Kd.C_drewN ?_ _)|(with_reducible refine Kd.C_drew ?_)));(case side2=>exact HC0.out);rintro e w' ⟨rfl,⟨nd,rfl⟩⟩;refine ⟨_,rfl, ?_⟩))
   go_roundg k1
   case measure=>have:=HK1.out;omega
   case rel=>exact ⟨(wrap64 (x5_1+1)),(t4),(by first|rfl|(simp;done)|(simp [*];done)),(by first|rfl|(simp;done)|(simp [*];done)),H',⟨by have:=HK1.out;omega⟩,by repeat (first|exact Drawn0.refl _|apply Drawn0.step)⟩
mutual
def r10_Top.l0:Nat→List (S39)→List (S39)→Int→Option ((List (S39)))
 |0,_,_,_=>none
 |k+1,x0,x3,x4=>if x4<(x0.length:Int) then (if 0≤x4 then ((r10_Depth.f k x0 ((rd_T39 x0 x4).f0)).bind fun t2=>(r10_Top.l1 k x0 x3 x4 t2 0)) else (none)) else (some x3)
def r10_Top.l1:Nat→List (S39)→List (S39)→Int→Int→Int→Option ((List (S39)))
 |0,_,_,_,_,_=>none
 |k+1,x0,x3,x4,x5,x6=>if x6<(x3.length:Int) then (if 0≤x6 then ((r10_Depth.f k x0 ((rd_T39 x3 x6).f0)).bind fun t4=>(if t4<x5 then (r10_Top.l1 k x0 x3 x4 x5 (wrap64 (x6+1))) else ((r10_Depth.f k x0 ((rd_T39 x3 x6).f0)).bind fun t6=>(if t6=x5 then (if 0≤x4 then (if x4<(x0.length:Int) then (if (Op.bytesLess (((rd_T39 x3 x6).f0).toList) (((rd_T39 x0 x4).f0).toList))=true then (r10_Top.l1 k x0 x3 x4 x5 (wrap64 (x6+1))) else ((some (([]:List (S39)):List (S39))).bind fun y9=>(if x6≤(x3.length:Int) then ((some (x3.take (x6:Int).toNat:List (S39))).bind fun y12=>(if y9.length+y12.length<2513169434916 then ((some (y9++y12:List (S39))).bind fun y16=>(if y16.length<2513169434916 then ((some (y16++ [(⟨(rd_T39 x0 x4).f0,(rd_T39 x0 x4).f1,(⟨(rd_T39 x0 x4).f2.f0,(rd_T39 x0 x4).f2.f1,(rd_T39 x0 x4).f2.f2⟩:S37)⟩:S39)]:List (S39))).bind fun y20=>((some (x3.drop (x6:Int).toNat:List (S39))).bind fun y23=>(if y20.length+y23.length<2513169434916 then (r10_Top.l0 k x0 (y20++y23) (wrap64 (x4+1))) else (none)))) else (none))) else (none))) else (none)))) else (none)) else (none)) else ((some (([]:List (S39)):List (S39))).bind fun y30=>(if x6≤(x3.length:Int) then ((some (x3.take (x6:Int).toNat:List (S39))).bind fun y33=>(if y30.length+y33.length<2513169434916 then ((some (y30++y33:List (S39))).bind fun y37=>(if 0≤x4 then (if x4<(x0.length:Int) then (if y37.length<2513169434916 then ((some (y37++ [(⟨(rd_T39 x0 x4).f0,(rd_T39 x0 x4).f1,(⟨(rd_T39 x0 x4).f2.f0,(rd_T39 x0 x4).f2.f1,(rd_T39 x0 x4).f2.f2⟩:S37)⟩:S39)]:List (S39))).bind fun y41=>((some (x3.drop (x6:Int).toNat:List (S39))).bind fun y44=>(if y41.length+y44.length<2513169434916 then (r10_Top.l0 k x0 (y41++y44) (wrap64 (x4+1))) else (none)))) else (none)) else (none)) else (none))) else (none))) else (none))))))) else (none)) else ((some (([]:List (S39)):List (S39))).bind fun y51=>(if 0≤x6 then (if x6≤(x3.length:Int) then ((some (x3.take (x6:Int).toNat:List (S39))).bind fun y54=>(if y51.length+y54.length<2513169434916 then ((some (y51++y54:List (S39))).bind fun y58=>(if 0≤x4 then (if x4<(x0.length:Int) then (if y58.length<2513169434916 then ((some (y58++ [(⟨(rd_T39 x0 x4).f0,(rd_T39 x0 x4).f1,(⟨(rd_T39 x0 x4).f2.f0,(rd_T39 x0 x4).f2.f1,(rd_T39 x0 x4).f2.f2⟩:S37)⟩:S39)]:List (S39))).bind fun y62=>((some (x3.drop (x6:Int).toNat:List (S39))).bind fun y65=>(if y62.length+y65.length<2513169434916 then (r10_Top.l0 k x0 (y62++y65) (wrap64 (x4+1))) else (none)))) else (none)) else (none)) else (none))) else (none))) else (none)) else (none)))
end
def r10_Top.f (k:Nat) (l0:List (S39)):Option ((List (S39))):=r10_Top.l0 k l0 ([]:List (S39)) 0
theorem r10_Top.mono_l: ∀k,(∀y0 y1 y2,LeO (r10_Top.l0 k y0 y1 y2) (r10_Top.l0 (k+1) y0 y1 y2))∧(∀y0 y1 y2 y3 y4,LeO (r10_Top.l1 k y0 y1 y2 y3 y4) (r10_Top.l1 (k+1) y0 y1 y2 y3 y4))
 |0=>⟨fun _ _ _ r h=>by simp [r10_Top.l0] at h,fun _ _ _ _ _ r h=>by simp [r10_Top.l1] at h⟩
 |k+1=>by
  obtain ⟨ih0,ih1⟩:=r10_Top.mono_l k
  refine ⟨?_, ?_⟩
  ·intro y0 y1 y2
   unfold r10_Top.l0
   repeat' first
   |(with_reducible exact ih0 _ _ _)
   |(with_reducible exact ih1 _ _ _ _ _)
   |(with_reducible exact r10_Depth.mono _ _ _)
   |(with_reducible exact LeO.refl _)
   |(with_reducible exact LeO.none _)
   |(with_reducible refine LeO.ite ?_ ?_)
   |(with_reducible refine LeO.bind ?_ (fun _=> ?_))
   |exact ih0 _ _ _
   |exact ih1 _ _ _ _ _
   |exact r10_Depth.mono _ _ _
   |exact LeO.none _
   |refine LeO.ite ?_ ?_
   |refine LeO.bind ?_ (fun _=> ?_)
  intro y0 y1 y2 y3 y4
  unfold r10_Top.l1
  repeat' first
  |(with_reducible exact ih0 _ _ _)
  |(with_reducible exact ih1 _ _ _ _ _)
  |(with_reducible exact r10_Depth.mono _ _ _)
  |(with_reducible exact LeO.refl _)
  |(with_reducible exact LeO.none _)
  |(with_reducible refine LeO.ite ?_ ?_)
  |(with_reducible refine LeO.bind ?_ (fun _=> ?_))
  |exact ih0 _ _ _
  |exact ih1 _ _ _ _ _
  |exact r10_Depth.mono _ _ _
  |exact LeO.none _
  |refine LeO.ite ?_ ?_
  |refine LeO.bind ?_ (fun _=> ?_)
theorem r10_Top.mono: ∀a0 k,LeO (r10_Top.f k a0) (r10_Top.f (k+1) a0):=by
 intro a0 k
 obtain ⟨ih0,ih1⟩:=r10_Top.mono_l k
 unfold r10_Top.f
 repeat' first
  |(with_reducible exact ih0 _ _ _)
  |(with_reducible exact ih1 _ _ _ _ _)
  |(with_reducible exact r10_Depth.mono _ _ _)
  |(with_reducible exact LeO.refl _)
  |(with_reducible exact LeO.none _)
  |(with_reducible refine LeO.ite ?_ ?_)
  |(with_reducible refine LeO.bind ?_ (fun _=> ?_))
  |exact ih0 _ _ _
  |exact ih1 _ _ _ _ _
  |exact r10_Depth.mono _ _ _
  |exact LeO.none _
  |refine LeO.ite ?_ ?_
  |refine LeO.bind ?_ (fun _=> ?_)
def r10_Top.T7:Bool×List (List Nat×List Nat):=(true,[([],[]),([],[]),([1],[1]),([0,2],[0,2]),([3],[3]),([4],[4]),([4],[4]),([4],[4]),([6,7,4],[4,6,7]),([8,4],[4,8]),([9,4],[4,9]),([5,10,4,4],[4,5,10]),([4],[4]),([11,12,4],[4,11,12]),([13,11,4],[4,13]),([14],[14]),([14],[14]),([14],[14]),([16,17,14],[14,16,17]),([18,14],[14,18]),([19,14],[14,19]),([15,20,14,14],[14,15,20]),([14],[14]),([21,22,14],[14,21,22]),([23,21,14],[14,23]),([24],[24]),([24],[24]),([25,26,24],[24,25,26]),([27,24],[24,27]),([28,24],[24,28]),([24],[24]),([24],[24]),([30,31,24],[24,30,31]),([32,24],[24,32]),([33,24],[24,33]),([29,34,24],[24,29,34]),([24,35,14],[14,24,35]),([14,36,4],[4,14,36]),([4,37],[4,37])])
def r10_Top.B7:List Nat:=[0,0,2,7,15,31,31,31,223,479,991,2047,31,8191,16383,32767,32767,32767,229375,491519,1015807,2097151,32767,8388607,16777215,33554431,33554431,134217727,268435455,536870911,33554431,33554431,3254779903,7549747199,16139681791,34359738367,68719476735,137438953471,274877906943]
theorem r10_Top.tab7:rtab .any (opsOf Try.f31 7)=r10_Top.T7:=by kernel_rfl
theorem r10_Top.bits7:waitsOk r10_Top.T7.2 r10_Top.B7=true:=by kernel_rfl
set_option maxHeartbeats 8000000 in
set_option maxRecDepth 100000 in
theorem r10_Top.calls (k:Nat) (A0:Option Addr) (c0:Nat) (l0:List (S39)) (r:List (S39)) (w:World) (hr0:Kd.C k39 w A0 l0.length l0) (hc0:l0.length≤c0) (h:r10_Top.f k l0=some r):
  Calls Try.prog 31 #[.slice A0 l0.length c0] w fun e w'=> ∃v0_:Value,e= .returned (v0_)∧Kd.R k39 39 w' w.heap.size (fun _=>True) v0_ r∧Below w.heap.size w w':=by
 have HR0:=Aside0.mk hr0
 have HC0:=Aside0.mk hc0
 clear hr0 hc0
 have HB:=am_ (Below.refl w.heap.size w)
 have H:(r10_Top.l0 k l0 ([]:List (S39)) 0)=some r:=h
 clear h
 have H':=Aside0.mk H
 clear H
 go_enter Try.func31,Try.ntmps31
 go_wp2
 go_loopg [3,4] k (fun kq v3 v4 w'=> ∃(x3_1:List (S39)) (x4_1:Int),v4= .int .i64 x4_1∧Aside0 (r10_Top.l0 kq l0 x3_1 x4_1=some r)∧Aside0 (kq≤k)∧Aside0 (Kd.R k39 39 w' w.heap.size (fun _=>True) v3 x3_1)∧Aside0 (Below w.heap.size w w'))
 case atStart=>exact ⟨(([]:List (S39))),(0),(by first|rfl|(simp;done)|(simp [*];done)),H',⟨Nat.le_refl _⟩,⟨by first|exact Kd.R_nil _ _ _ _ _|exact Kd.N_nil _ _ _ _ _|exact Kd.V_nil _ _ _ _ _|exact Kd.Q_nil _ _ _ _ _|exact Kd.S_nil _ _ _ _ _⟩,⟨zl0_ HB⟩⟩
 case round=>
  clear H'
  obtain ⟨x3_1,x4_1,rfl,HA,HK1,HO_3,HB⟩:=hrel
  cases gk with
  |zero=>exact absurd HA.out (by simp [r10_Top.l0])
  |succ k1=>
   have H:=HA.out
   clear HA
   simp only [r10_Top.l0] at H
   by_cases c2:x4_1<(l0.length:Int)
   rotate_left
   ·rw [if_neg c2] at H
    have c2b0:decide (x4_1<(l0.length:Int))=false:=decide_eq_false c2
    clear c2
    obtain rfl:=Option.some.inj H
    go_wp2
    go_ret
    exact ⟨_,by first|rfl|(simp [errW_none,errW_some]<;>rfl)|(simp [*,errW_none,errW_some]<;>rfl),by (with_reducible repeat (first|apply Kd.R_alloc|apply Kd.R_drewN|apply Kd.R_drew));exact HO_3.out,zl0_ HB⟩

   rw [if_pos c2] at H
   have c2b0:decide (x4_1<(l0.length:Int))=true:=decide_eq_true c2
   clear c2
   by_cases c3:0≤x4_1
   rotate_left
   ·rw [if_neg c3] at H
    exact absurd H (by simp)
   rw [if_pos c3] at H
   have c3b0:decide (0≤x4_1)=true:=decide_eq_true c3
   clear c3
   replace H:=Option.bind_eq_some_iff.mp H
   obtain ⟨t2,A40,H⟩:=H
   try dsimp only at H
   have A4:=Aside0.mk A40
   clear A40
   have H':=Aside0.mk H
   clear H
   have p1:0≤(x4_1:Int):=of_decide_eq_true zq_
   have q1:x4_1<(l0.length:Int):=of_decide_eq_true zq_
   obtain ⟨ad1,e1,hx1_0,hx1_1,hx1_2,hx1_3,hx1_4⟩:=at_T39 HR0.out x4_1 p1 q1
   cases e1
   replace hx1_0:=zx_ HB hx1_0
   replace hx1_1:=zx_ HB hx1_1
   replace hx1_2:=zx_ HB hx1_2
   replace hx1_3:=zx_ HB hx1_3
   replace hx1_4:=zx_ HB hx1_4
   replace p1:=eq_true p1
   replace q1:=eq_true q1
   go_wp2_with ((with_reducible refine gate_callee (f:=28) rfl ?_);refine gl_ (some 20) Try.func28 #[.slice (some ad1) l0.length c0, .string ((rd_T39 l0 x4_1).f0)] ?_;(with_reducible refine (r10_Depth.calls k1 _ _ l0 ((rd_T39 l0 x4_1).f0) t2 _ ?side1 ?side2 A4.out).mono ?_);(case side1=>exact zc_ (Kd.C_below HR0.out HB.out));(case side2=>exact HC0.out);rintro e w' ⟨rfl,⟨nd,rfl⟩⟩;refine ⟨_,rfl, ?_⟩)
   go_loopg [6] k1 (fun kq v6 w'=> ∃(x6_2:Int),v6= .int .i64 x6_2∧Aside0 (r10_Top.l1 kq l0 x3_1 x4_1 t2 x6_2=some r)∧Aside0 (kq≤k1)∧Aside0 (Kd.R k39 39 w' w.heap.size (fun _=>True) u3 x3_1)∧Aside0 (Below w.heap.size w w'))
   case atStart=>exact ⟨(0),(by first|rfl|(simp;done)|(simp [*];done)),H',⟨Nat.le_refl _⟩,⟨by (with_reducible repeat (first|apply Kd.R_alloc|apply Kd.R_drewN|apply Kd.R_drew));exact HO_3.out⟩,⟨zl0_ HB⟩⟩
   case round=>
    clear H'
    try clear p1
    try clear q1
    try clear hx1
    try clear c2
    try clear c2b0
    try clear p2
    try clear c3
    try clear c3b0
    try clear hx1_0
    try clear hx1_1
    try clear hx1_2
    try clear hx1_3
    try clear hx1_4
    try clear p1
    try clear q1
    obtain ⟨x6_2,rfl,HA,HK2,HO_3,HB⟩:=hrel
    cases gk with
    |zero=>exact absurd HA.out (by simp [r10_Top.l1])
    |succ k2=>
     have H:=HA.out
     clear HA
     simp only [r10_Top.l1] at H
     by_cases c5:x6_2<(x3_1.length:Int)
     rotate_left
     ·rw [if_neg c5] at H
      have c5b0:decide (x6_2<(x3_1.length:Int))=false:=decide_eq_false c5
      clear c5
      obtain ⟨y51,hy51⟩: ∃y_:List (S39),y_=(([]:List (S39))):=⟨_,rfl⟩
      replace H:(if 0≤x6_2 then (if x6_2≤(x3_1.length:Int) then ((some (x3_1.take (x6_2:Int).toNat:List (S39))).bind fun y54=>(if y51.length+y54.length<2513169434916 then ((some (y51++y54:List (S39))).bind fun y58=>(if 0≤x4_1 then (if x4_1<(l0.length:Int) then (if y58.length<2513169434916 then ((some (y58++ [(⟨(rd_T39 l0 x4_1).f0,(rd_T39 l0 x4_1).f1,(⟨(rd_T39 l0 x4_1).f2.f0,(rd_T39 l0 x4_1).f2.f1,(rd_T39 l0 x4_1).f2.f2⟩:S37)⟩:S39)]:List (S39))).bind fun y62=>((some (x3_1.drop (x6_2:Int).toNat:List (S39))).bind fun y65=>(if y62.length+y65.length<2513169434916 then (r10_Top.l0 k2 l0 (y62++y65) (wrap64 (x4_1+1))) else (none)))) else (none)) else (none)) else (none))) else (none))) else (none)) else (none))=some r:=by first|(rw [hy51];with_reducible exact H)|(have H2_:=(Option.bind_some _ _).symm.trans H;rw [hy51];with_reducible exact H2_)|(have H2_:=(Option.bind_some _ _).symm.trans H;with_reducible exact H2_)|with_reducible exact H|(rw [hy51];exact H)|exact H
      have Ny51:=Aside0.mk hy51
      clear hy51
      by_cases c52:0≤x6_2
      rotate_left
      ·rw [if_neg c52] at H
       exact absurd H (by simp)
      rw [if_pos c52] at H
      have c52b1:decide (0≤x6_2)=true:=decide_eq_true c52
      clear c52
      by_cases c53:x6_2≤(x3_1.length:Int)
      rotate_left
      ·rw [if_neg c53] at H
       exact absurd H (by simp)
      rw [if_pos c53] at H
      have c53b1:decide (x6_2≤(x3_1.length:Int))=true:=decide_eq_true c53
      clear c53
      obtain ⟨y54,hy54⟩: ∃y_:List (S39),y_=(x3_1.take (x6_2:Int).toNat):=⟨_,rfl⟩
      replace H:(if y51.length+y54.length<2513169434916 then ((some (y51++y54:List (S39))).bind fun y58=>(if 0≤x4_1 then (if x4_1<(l0.length:Int) then (if y58.length<2513169434916 then ((some (y58++ [(⟨(rd_T39 l0 x4_1).f0,(rd_T39 l0 x4_1).f1,(⟨(rd_T39 l0 x4_1).f2.f0,(rd_T39 l0 x4_1).f2.f1,(rd_T39 l0 x4_1).f2.f2⟩:S37)⟩:S39)]:List (S39))).bind fun y62=>((some (x3_1.drop (x6_2:Int).toNat:List (S39))).bind fun y65=>(if y62.length+y65.length<2513169434916 then (r10_Top.l0 k2 l0 (y62++y65) (wrap64 (x4_1+1))) else (none)))) else (none)) else (none)) else (none))) else (none))=some r:=by first|(rw [hy54];with_reducible exact H)|(have H2_:=(Option.bind_some _ _).symm.trans H;rw [hy54];with_reducible exact H2_)|(have H2_:=(Option.bind_some _ _).symm.trans H;with_reducible exact H2_)|with_reducible exact H|(rw [hy54];exact H)|exact H
      have Ny54:=Aside0.mk hy54
      clear hy54
      by_cases c54:y51.length+y54.length<2513169434916
      rotate_left
      ·rw [if_neg c54] at H
       exact absurd H (by simp)
      rw [if_pos c54] at H
      have LMc54:=Aside0.mk c54
      clear c54
      obtain ⟨y58,hy58⟩: ∃y_:List (S39),y_=(y51++y54):=⟨_,rfl⟩
      replace H:(if 0≤x4_1 then (if x4_1<(l0.length:Int) then (if y58.length<2513169434916 then ((some (y58++ [(⟨(rd_T39 l0 x4_1).f0,(rd_T39 l0 x4_1).f1,(⟨(rd_T39 l0 x4_1).f2.f0,(rd_T39 l0 x4_1).f2.f1,(rd_T39 l0 x4_1).f2.f2⟩:S37)⟩:S39)]:List (S39))).bind fun y62=>((some (x3_1.drop (x6_2:Int).toNat:List (S39))).bind fun y65=>(if y62.length+y65.length<2513169434916 then (r10_Top.l0 k2 l0 (y62++y65) (wrap64 (x4_1+1))) else (none)))) else (none)) else (none)) else (none))=some r:=by first|(rw [hy58];with_reducible exact H)|(have H2_:=(Option.bind_some _ _).symm.trans H;rw [hy58];with_reducible exact H2_)|(have H2_:=(Option.bind_some _ _).symm.trans H;with_reducible exact H2_)|with_reducible exact H|(rw [hy58];exact H)|exact H
      have Ny58:=Aside0.mk hy58
      clear hy58
      by_cases c55:0≤x4_1
      rotate_left
      ·rw [if_neg c55] at H
       exact absurd H (by simp)
      rw [if_pos c55] at H
      have c55b0:decide (0≤x4_1)=true:=decide_eq_true c55
      clear c55
      by_cases c56:x4_1<(l0.length:Int)
      rotate_left
      ·rw [if_neg c56] at H
       exact absurd H (by simp)
      rw [if_pos c56] at H
      have c56b0:decide (x4_1<(l0.length:Int))=true:=decide_eq_true c56
      clear c56
      by_cases c57:y58.length<2513169434916
      rotate_left
      ·rw [if_neg c57] at H
       exact absurd H (by simp)
      rw [if_pos c57] at H
      have LMc57:=Aside0.mk c57
      clear c57
      obtain ⟨y62,hy62⟩: ∃y_:List (S39),y_=(y58++ [(⟨(rd_T39 l0 x4_1).f0,(rd_T39 l0 x4_1).f1,(⟨(rd_T39 l0 x4_1).f2.f0,(rd_T39 l0 x4_1).f2.f1,(rd_T39 l0 x4_1).f2.f2⟩:S37)⟩:S39)]):=⟨_,rfl⟩
      replace H:((some (x3_1.drop (x6_2:Int).toNat:List (S39))).bind fun y65=>(if y62.length+y65.length<2513169434916 then (r10_Top.l0 k2 l0 (y62++y65) (wrap64 (x4_1+1))) else (none)))=some r:=by first|(rw [hy62];with_reducible exact H)|(have H2_:=(Option.bind_some _ _).symm.trans H;rw [hy62];with_reducible exact H2_)|(have H2_:=(Option.bind_some _ _).symm.trans H;with_reducible exact H2_)|with_reducible exact H|(rw [hy62];exact H)|exact H
      have Ny62:=Aside0.mk hy62
      clear hy62
      obtain ⟨y65,hy65⟩: ∃y_:List (S39),y_=(x3_1.drop (x6_2:Int).toNat):=⟨_,rfl⟩
      replace H:(if y62.length+y65.length<2513169434916 then (r10_Top.l0 k2 l0 (y62++y65) (wrap64 (x4_1+1))) else (none))=some r:=by first|(rw [hy65];with_reducible exact H)|(have H2_:=(Option.bind_some _ _).symm.trans H;rw [hy65];with_reducible exact H2_)|(have H2_:=(Option.bind_some _ _).symm.trans H;with_reducible exact H2_)|with_reducible exact H|(rw [hy65];exact H)|exact H
      have Ny65:=Aside0.mk hy65
      clear hy65
      by_cases c60:y62.length+y65.length<2513169434916
      rotate_left
      ·rw [if_neg c60] at H
       exact absurd H (by simp)
      rw [if_pos c60] at H
      have LMc60:=Aside0.mk c60
      clear c60
      obtain ⟨y69,hy69⟩: ∃y_:List (S39),y_=(y62++y65):=⟨_,rfl⟩
      replace H:(r10_Top.l0 k2 l0 y69 (wrap64 (x4_1+1)))=some r:=by first|(rw [hy69];with_reducible exact H)|(have H2_:=(Option.bind_some _ _).symm.trans H;rw [hy69];with_reducible exact H2_)|(have H2_:=(Option.bind_some _ _).symm.trans H;with_reducible exact H2_)|with_reducible exact H|(rw [hy69];exact H)|exact H
      have Ny69:=Aside0.mk hy69
      clear hy69
      have H':=Aside0.mk H
      clear H
      try go_wp2
      replace HO_3:=am_ (Kd.R_drew HO_3.out)
      replace HB:=am_ (below_drew1 HB.out)
      obtain ⟨Ao62,co62,eo62⟩:=Kd.R_slice HO_3.out
      (first|subst eo62|(injection eo62 with f1_ f2_ f3_;have f4_:=f1_.symm;have f5_:=f3_.symm;clear f1_ f2_ f3_;subst f4_;subst f5_))
      refine start_ (n:=39) (S:=fun w'=>True) (ds:=[]) (bt_ 39 0) (by kernel_rfl) rfl rfl trivial (fun hHeld=> ?_);refine with_tabW r10_Top.tab7 r10_Top.bits7 (fun HT_ HW_=> ?_)
      generalize wr.drew=w61 at HO_3 HB hHeld ⊢
      refine pu_ (i:=0) (N:=some 21) (bt_ 39 1) HT_ ?_
      refine pu_ (i:=1) (N:=some 22) (bt_ 39 3) HT_ ?_
      refine pu_ (i:=2) (N:=some 23) (bt_ 39 7) HT_ ?_
      refine pu_ (i:=3) (N:=some 24) (bt_ 39 15) HT_ ?_
      refine pu_ (i:=4) (N:=some 25) (bt_ 39 31) HT_ ?_
      refine pn_ (i:=5) (N:=some 26) (bt_ 39 63) HT_ ?_
      refine pn_ (i:=6) (N:=some 27) (bt_ 39 127) HT_ ?_
      refine pn_ (i:=7) (N:=some 28) (bt_ 39 255) HT_ ?_
      refine pn_ (i:=8) (N:=some 29) (bt_ 39 511) HT_ ?_
      refine pn_ (i:=9) (N:=some 30) (bt_ 39 1023) HT_ ?_
      refine pn_ (i:=10) (N:=some 31) (bt_ 39 2047) HT_ ?_
      refine pn_ (i:=11) (N:=some 32) (bt_ 39 4095) HT_ ?_
      refine pn_ (i:=12) (N:=some 33) (bt_ 39 8191) HT_ ?_
      refine pn_ (i:=13) (N:=some 34) (bt_ 39 16383) HT_ ?_
      refine pn_ (i:=14) (N:=some 35) (bt_ 39 32767) HT_ ?_
      refine pn_ (i:=15) (N:=some 36) (bt_ 39 65535) HT_ ?_
      refine pn_ (i:=16) (N:=some 37) (bt_ 39 131071) HT_ ?_
      refine pn_ (i:=17) (N:=some 38) (bt_ 39 262143) HT_ ?_
      refine pn_ (i:=18) (N:=some 39) (bt_ 39 524287) HT_ ?_
      refine pn_ (i:=19) (N:=some 40) (bt_ 39 1048575) HT_ ?_
      refine pn_ (i:=20) (N:=some 41) (bt_ 39 2097151) HT_ ?_
      refine pn_ (i:=21) (N:=some 42) (bt_ 39 4194303) HT_ ?_
      refine pn_ (i:=22) (N:=some 43) (bt_ 39 8388607) HT_ ?_
      refine pn_ (i:=23) (N:=some 44) (bt_ 39 16777215) HT_ ?_
      refine pn_ (i:=24) (N:=some 45) (bt_ 39 33554431) HT_ ?_
      refine pn_ (i:=25) (N:=some 46) (bt_ 39 67108863) HT_ ?_
      refine pn_ (i:=26) (N:=some 47) (bt_ 39 134217727) HT_ ?_
      refine pn_ (i:=27) (N:=some 48) (bt_ 39 268435455) HT_ ?_
      refine pn_ (i:=28) (N:=some 49) (bt_ 39 536870911) HT_ ?_
      refine pn_ (i:=29) (N:=some 50) (bt_ 39 1073741823) HT_ ?_
      refine pn_ (i:=30) (N:=some 51) (bt_ 39 2147483647) HT_ ?_
      refine pn_ (i:=31) (N:=some 52) (bt_ 39 4294967295) HT_ ?_
      refine pn_ (i:=32) (N:=some 53) (bt_ 39 8589934591) HT_ ?_
      refine pn_ (i:=33) (N:=some 54) (bt_ 39 17179869183) HT_ ?_
      refine pn_ (i:=34) (N:=some 55) (bt_ 39 34359738367) HT_ ?_
      refine pn_ (i:=35) (N:=some 56) (bt_ 39 68719476735) HT_ ?_
      refine pn_ (i:=36) (N:=some 57) (bt_ 39 137438953471) HT_ ?_
      refine pn_ (i:=37) (N:=some 58) (bt_ 39 274877906943) HT_ ?_
      refine pu_ (i:=38) (N:=some 59) (bt_ 39 549755813887) HT_ ?_
      refine done_ (done_of HT_.out (by kernel_rfl)) ?_
      try go_wp2_with (first|((with_reducible refine gate_dst (N:=62) rfl ?_);refine Kd.R_lit k39 _ 39 ?hg (N:=62) ?hd (xs:=([]:List (S39))) (inner:=[]) (ok:=fun _=>True) (okp:=fun _=>True) ?hr ?hp (fun _ hk=>hk) trivial (Below.refl _ _) (Nat.le_refl _) (by simp) ?_;(case hd=>rfl);(case hg=>rfl);(case hr=>first|(go_simp;done)|(go_simp;rfl));(case hp=>exact (Reps.none _ _));intro v52 w63 ho64 hb hg_ hnew_;clear hg_ hnew_;(first|rw [←Ny51.out] at ho64|(simp only [Int.reduceToNat] at ho64;rw [←Ny51.out] at ho64));have HO53:=am_ (Kd.R_lower (Kd.R_new' ho64 (Kd.R_lt (zr_ HO_3))) (below_size (zl0_ HB)));replace HO_3:=am_ (Kd.R_elder' (zr_ HO_3) (Kd.R_base ho64) hb);replace HB:=am_ (below_step (zl0_ HB) hb);clear hb ho64;have q65:(x6_2:Int)≤((x3_1.length:Int):Int):=of_decide_eq_true zq_;obtain ⟨i065,hi065,_,hsz65,_⟩:=info_parts info39;have hroom65:x3_1.length≤co62:=(Kd.R_reads' HO_3.out).2.1;have hC65:Kd.C k39 _ Ao62 x3_1.length x3_1:=(Kd.R_reads' HO_3.out).2.2;have hcut65:=cut_to (P:=Try.prog) 22 39 .i64 Try.underlying22 hi065 Ao62 x3_1.length co62 x6_2 (of_decide_eq_true zq_) q65 hroom65;have hr65:=Kd.C_take (m:=(x6_2:Int).toNat) hC65 (by omega);have hy65:y54.length=(x6_2:Int).toNat:=(by rw [Ny54.out,List.length_take];omega);rw [←Ny54.out] at hr65;rw [←hy65] at hcut65;have HR57:=Aside0.mk hr65;clear hr65 hC65 hroom65 hi065 hsz65;clear hy65;have KL65:=am_ (show (x6_2:Int).toNat≤x3_1.length from by omega);replace q65:=eq_true q65)|((with_reducible refine gate_builtin (b:= .append) (xs:=#[.tmp 62, .tmp 65]) rfl ?_);at_builtin;refine Kd.R_append_rows k39 (w0:=w) w.heap.size rfl (.tmp 62) (.tmp 65) 22 39 (.agg #[(.string ⟨#[]⟩),(.string ⟨#[]⟩),(.int .i64 0),(.int .i64 0),(.int .i64 0)]) 56 rfl Try.underlying22 info39 rfl (by decide) (by omega) v52 y51 y54 _ _ _ (fun k_=>some k_≠(.slice Ao62 x3_1.length co62:Value).ownBlock) (fun _=>False) rfl rfl ?aO ?aR (fun _ _ h=>h) (fun _ h=>h.elim) ?aF ?aB ?aS ?aL ?_;(case aR=>repeat (first|exact (by repeat (first|(with_reducible exact HR57.out)|(with_reducible refine Kd.C_alloc ?_ _)|(with_reducible refine Kd.C_drewN ?_ _)|(with_reducible refine Kd.C_drew ?_)|exact HR57.out))|(with_reducible refine Kd.C_alloc ?_ _)|(with_reducible refine Kd.C_drewN ?_ _)|(with_reducible refine Kd.C_drew ?_)));(case aB=>exact (zl0_ HB));(case aF=>exact (fun k_ hk=>Kd.fresh' (Kd.R_lt (zr_ HO_3)) k_ hk));(case aO=>exact (by refine zt_ ?_;exact Kd.R_mono HO53.out (fun _ hk=>hk.2)));(case aS=>exact (below_size (zl0_ HB)));(case aL=>have:=LMc54.out;omega);intro v59 w66 ho hb hg hat;rw [←Ny58.out] at ho;have n0_:=am_ (Kd.R_after (ok:=(fun _=>True)) (zr_ HO_3) hg hat);have n1_:=am_ (hb);have n2_:=am_ ((show Kd.C k39 w66 Ao62 y54.length y54 from by rw [Ny54.out];exact Kd.C_take (m:=(x6_2:Int).toNat) ((Kd.R_reads' (Kd.R_after (ok:=(fun _=>True)) (zr_ HO_3) hg hat)).2.2) KL65.out));have n3_:=am_ (ho);clear HO_3;clear HB;clear HR57;clear HO53;have HO_3:=n0_;have HB:=n1_;have HR57:=n2_;have HO60:=n3_;clear n0_ n1_ n2_ n3_;clear ho hb hg hat;have p61:0≤(x4_1:Int):=of_decide_eq_true zq_;have q61:x4_1<(l0.length:Int):=of_decide_eq_true zq_;obtain ⟨ad61,e61,hx61_0,hx61_1,hx61_2,hx61_3,hx61_4⟩:=at_T39 HR0.out x4_1 p61 q61;obtain rfl:ad1=ad61:=(by injection e61);replace hx61_0:=zx_ HB hx61_0;replace hx61_1:=zx_ HB hx61_1;replace hx61_2:=zx_ HB hx61_2;replace hx61_3:=zx_ HB hx61_3;replace hx61_4:=zx_ HB hx61_4;replace p61:=eq_true p61;replace q61:=eq_true q61)|((with_reducible refine gate_builtin (b:= .append) (xs:=#[.tmp 67, .tmp 72]) rfl ?_);at_builtin;refine Kd.R_append k39 (w0:=w) w.heap.size rfl (.tmp 67) (.tmp 72) 22 39 (.agg #[(.string ⟨#[]⟩),(.string ⟨#[]⟩),(.int .i64 0),(.int .i64 0),(.int .i64 0)]) 56 rfl Try.underlying22 info39 rfl (by decide) (by omega) v59 y58 (⟨(rd_T39 l0 x4_1).f0,(rd_T39 l0 x4_1).f1,(⟨(rd_T39 l0 x4_1).f2.f0,(rd_T39 l0 x4_1).f2.f1,(rd_T39 l0 x4_1).f2.f2⟩:S37)⟩:S39) [.string ((rd_T39 l0 x4_1).f0), .string ((rd_T39 l0 x4_1).f1), .int .i64 ((rd_T39 l0 x4_1).f2.f0), .int .i64 ((rd_T39 l0 x4_1).f2.f1), .int .i64 ((rd_T39 l0 x4_1).f2.f2)] (fun k_=>some k_≠(.slice Ao62 x3_1.length co62:Value).ownBlock) (fun _=>False) rfl rfl ?aP (fun _ hk=>hk.elim) ?aF ?aO ?aB ?aS ?aL ?_;(case aP=>exact k39_mkM _ _ _ (⟨(rd_T39 l0 x4_1).f0,(rd_T39 l0 x4_1).f1,(⟨(rd_T39 l0 x4_1).f2.f0,(rd_T39 l0 x4_1).f2.f1,(rd_T39 l0 x4_1).f2.f2⟩:S37)⟩:S39));(case aB=>exact (zl0_ HB));(case aF=>exact (fun k_ hk=>Kd.fresh' (Kd.R_lt (zr_ HO_3)) k_ hk));(case aO=>exact (zr_ HO60));(case aS=>exact (below_size (zl0_ HB)));(case aL=>have:=LMc57.out;omega);intro v63 w67 ho hb hg hat;rw [←Ny62.out] at ho;have n0_:=am_ (Kd.R_after (ok:=(fun _=>True)) (zr_ HO_3) hg hat);have n1_:=am_ (hb);have n2_:=am_ ((show Kd.C k39 w67 Ao62 y54.length y54 from by rw [Ny54.out];exact Kd.C_take (m:=(x6_2:Int).toNat) ((Kd.R_reads' (Kd.R_after (ok:=(fun _=>True)) (zr_ HO_3) hg hat)).2.2) KL65.out));have n3_:=am_ (ho);clear HO_3;clear HB;clear HR57;clear HO60;have HO_3:=n0_;have HB:=n1_;have HR57:=n2_;have HO64:=n3_;clear n0_ n1_ n2_ n3_;clear ho hb hg hat;have q68:(x6_2:Int)≤((x3_1.length:Int):Int):=of_decide_eq_true zq_;obtain ⟨i068,hi068,_,hsz68,_⟩:=info_parts info39;have hroom68:x3_1.length≤co62:=(Kd.R_reads' HO_3.out).2.1;have hC68:Kd.C k39 _ Ao62 x3_1.length x3_1:=(Kd.R_reads' HO_3.out).2.2;have q068:(0:Int)≤(x6_2:Int):=of_decide_eq_true zq_;have hcut68:=cut_from (P:=Try.prog) 22 39 .i64 Try.underlying22 hi068 5 hsz68 Ao62 x3_1.length co62 x6_2 q068 q68;have hr68:=Kd.C_drop (m:=(x6_2:Int).toNat) (c:=co62) hC68 (by omega) hroom68;obtain ⟨A68,hA68⟩: ∃A1,A1=(if co62=(x6_2:Int).toNat then Ao62 else (Ao62:Option Addr).map (·.add ((x6_2:Int).toNat*5))):=⟨_,rfl⟩;obtain ⟨c68,hc68⟩: ∃c1,c1=co62 - (x6_2:Int).toNat:=⟨_,rfl⟩;have hy68:y65.length=x3_1.length - (x6_2:Int).toNat:=(by rw [Ny65.out,List.length_drop]<;>omega);rw [show (x3_1).drop (x6_2:Int).toNat=y65 from Ny65.out.symm] at hr68;replace hr68:Kd.C k39 _ A68 y65.length y65:=(by rw [hA68];exact hr68);rw [←hy68,←hA68,←hc68] at hcut68;have HR68:=Aside0.mk hr68;clear hr68 hC68 hroom68 hi068 hsz68 hc68;have KA68:=Aside0.mk hA68;clear hy68 hA68;have KL68:=am_ (show (x6_2:Int).toNat≤x3_1.length from by omega);replace q68:=eq_true q68)|((with_reducible refine gate_builtin (b:= .append) (xs:=#[.tmp 74, .tmp 77]) rfl ?_);at_builtin;refine Kd.R_append_rows k39 (w0:=w) w.heap.size rfl (.tmp 74) (.tmp 77) 22 39 (.agg #[(.string ⟨#[]⟩),(.string ⟨#[]⟩),(.int .i64 0),(.int .i64 0),(.int .i64 0)]) 56 rfl Try.underlying22 info39 rfl (by decide) (by omega) v63 y62 y65 _ _ _ (fun k_=>some k_≠(.slice Ao62 x3_1.length co62:Value).ownBlock) (fun _=>False) rfl rfl ?aO ?aR (fun _ _ h=>h) (fun _ h=>h.elim) ?aF ?aB ?aS ?aL ?_;(case aR=>repeat (first|exact (by repeat (first|(with_reducible exact HR68.out)|(with_reducible refine Kd.C_alloc ?_ _)|(with_reducible refine Kd.C_drewN ?_ _)|(with_reducible refine Kd.C_drew ?_)|exact HR68.out))|(with_reducible refine Kd.C_alloc ?_ _)|(with_reducible refine Kd.C_drewN ?_ _)|(with_reducible refine Kd.C_drew ?_)));(case aB=>exact (zl0_ HB));(case aF=>exact (fun k_ hk=>Kd.fresh' (Kd.R_lt (zr_ HO_3)) k_ hk));(case aO=>exact (zr_ HO64));(case aS=>exact (below_size (zl0_ HB)));(case aL=>have:=LMc60.out;omega);intro v70 w69 ho hb hg hat;rw [←Ny69.out] at ho;have n0_:=am_ (Kd.R_after (ok:=(fun _=>True)) (zr_ HO_3) hg hat);have n1_:=am_ (hb);have n2_:=am_ ((show Kd.C k39 w69 Ao62 y54.length y54 from by rw [Ny54.out];exact Kd.C_take (m:=(x6_2:Int).toNat) ((Kd.R_reads' (Kd.R_after (ok:=(fun _=>True)) (zr_ HO_3) hg hat)).2.2) KL65.out));have n3_:=am_ ((show Kd.C k39 w69 A68 y65.length y65 from by rw [Ny65.out,KA68.out];exact Kd.C_drop (m:=(x6_2:Int).toNat) (c:=co62) ((Kd.R_reads' (Kd.R_after (ok:=(fun _=>True)) (zr_ HO_3) hg hat)).2.2) KL68.out ((Kd.R_reads' (Kd.R_after (ok:=(fun _=>True)) (zr_ HO_3) hg hat)).2.1)));have n4_:=am_ (ho);clear HO_3;clear HB;clear HR57;clear HR68;clear HO64;have HO_3:=n0_;have HB:=n1_;have HR57:=n2_;have HR68:=n3_;have HO71:=n4_;clear n0_ n1_ n2_ n3_ n4_;clear ho hb hg hat))
      go_roundg k2
      case measure=>have:=HK1.out;have:=HK2.out;omega
      case rel=>exact ⟨(y69),(wrap64 (x4_1+1)),(by first|rfl|(simp;done)|(simp [*];done)),H',⟨by have:=HK1.out;have:=HK2.out;omega⟩,⟨by (with_reducible repeat (first|apply Kd.R_alloc|apply Kd.R_drewN|apply Kd.R_drew));exact Kd.R_mono HO71.out (fun _ hk=>trivial)⟩,⟨zl0_ HB⟩⟩
     rw [if_pos c5] at H
     have c5b0:decide (x6_2<(x3_1.length:Int))=true:=decide_eq_true c5
     clear c5
     by_cases c6:0≤x6_2
     rotate_left
     ·rw [if_neg c6] at H
      exact absurd H (by simp)
     rw [if_pos c6] at H
     have c6b0:decide (0≤x6_2)=true:=decide_eq_true c6
     clear c6
     replace H:=Option.bind_eq_some_iff.mp H
     obtain ⟨t4,A70,H⟩:=H
     try dsimp only at H
     have A7:=Aside0.mk A70
     clear A70
     by_cases c8:t4<t2
     ·rw [if_pos c8] at H
      have c8b0:decide (t4<t2)=true:=decide_eq_true c8
      clear c8
      have H':=Aside0.mk H
      clear H
      try go_wp2
      replace HO_3:=am_ (Kd.R_drew HO_3.out)
      replace HB:=am_ (below_drew1 HB.out)
      obtain ⟨Ao10,co10,eo10⟩:=Kd.R_slice HO_3.out
      (first|subst eo10|(injection eo10 with f1_ f2_ f3_;have f4_:=f1_.symm;have f5_:=f3_.symm;clear f1_ f2_ f3_;subst f4_;subst f5_))
      have p3:0≤(x6_2:Int):=of_decide_eq_true zq_
      have q3:x6_2<(x3_1.length:Int):=of_decide_eq_true zq_
      obtain ⟨ad3,e3,hx3_0,hx3_1,hx3_2,hx3_3,hx3_4⟩:=at_T39 (Kd.R_reads' HO_3.out).2.2 x6_2 p3 q3
      cases e3
      replace p3:=eq_true p3
      replace q3:=eq_true q3
      refine start_ (n:=39) (S:=fun w'=>w'.cell? (ad3.add ((x6_2).toNat*5))=some (.string ((rd_T39 x3_1 x6_2).f0))∧w'.cell? ⟨(ad3.add ((x6_2).toNat*5)).block,(ad3.add ((x6_2).toNat*5)).off+1,none⟩=some (.string ((rd_T39 x3_1 x6_2).f1))∧w'.cell? ⟨(ad3.add ((x6_2).toNat*5)).block,(ad3.add ((x6_2).toNat*5)).off+2,none⟩=some (.int .i64 ((rd_T39 x3_1 x6_2).f2.f0))∧w'.cell? ⟨(ad3.add ((x6_2).toNat*5)).block,(ad3.add ((x6_2).toNat*5)).off+3,none⟩=some (.int .i64 ((rd_T39 x3_1 x6_2).f2.f1))∧w'.cell? ⟨(ad3.add ((x6_2).toNat*5)).block,(ad3.add ((x6_2).toNat*5)).off+4,none⟩=some (.int .i64 ((rd_T39 x3_1 x6_2).f2.f2))) (ds:=[]) (bt_ 39 0) (by kernel_rfl) rfl rfl ⟨hx3_0,hx3_1,hx3_2,hx3_3,hx3_4⟩ (fun hHeld=> ?_);refine with_tabW r10_Top.tab7 r10_Top.bits7 (fun HT_ HW_=> ?_)
      generalize wr.drew=w9 at HO_3 HB hx3_0 hx3_1 hx3_2 hx3_3 hx3_4 hHeld ⊢
      refine pu_ (i:=0) (N:=some 21) (bt_ 39 1) HT_ ?_
      refine pu_ (i:=1) (N:=some 22) (bt_ 39 3) HT_ ?_
      refine pu_ (i:=2) (N:=some 23) (bt_ 39 7) HT_ ?_
      refine pu_ (i:=3) (N:=some 24) (bt_ 39 15) HT_ ?_
      refine pu_ (i:=4) (N:=some 25) (bt_ 39 31) HT_ ?_
      refine pu_ (i:=5) (N:=some 26) (bt_ 39 63) HT_ ?_
      refine pu_ (i:=6) (N:=some 27) (bt_ 39 127) HT_ ?_
      refine pu_ (i:=7) (N:=some 28) (bt_ 39 255) HT_ ?_
      refine pu_ (i:=8) (N:=some 29) (bt_ 39 511) HT_ ?_
      refine pu_ (i:=9) (N:=some 30) (bt_ 39 1023) HT_ ?_
      refine pu_ (i:=12) (N:=some 33) (bt_ 39 5119) HT_ ?_
      refine tk_ (i:=10) (N:=some 31) (bt_ 39 6143) HT_ HW_ hHeld ?_
      refine on_ (i:=11) (N:=some 32) (bt_ 39 8191) HT_ (fun K hK=> ?_)
      refine gs_ Try.func28 #[.slice (some ad1) l0.length c0, .string ((rd_T39 x3_1 x6_2).f0)] ?_
      with_reducible refine (r10_Depth.calls k2 _ _ l0 ((rd_T39 x3_1 x6_2).f0) t4 _ ?side1 ?side2 A7.out).mono ?_
      (case side1=>exact zc_ (Kd.C_below HR0.out HB.out))
      (case side2=>exact HC0.out)
      rintro e w' ⟨rfl,⟨nd,rfl⟩⟩
      refine ⟨_,rfl, ?_⟩
      refine hK.out _ _ ⟨hHeld.1,hHeld.2.1,hHeld.2.2.1,hHeld.2.2.2.1,hHeld.2.2.2.2⟩ (fun hHeld=> ?_)
      clear hK K
      refine no_ (N:=some 32) ?_
      refine pu_ (i:=13) (N:=some 34) (bt_ 39 16383) HT_ ?_
      refine pu_ (i:=14) (N:=some 35) (bt_ 39 32767) HT_ ?_
      refine pn_ (i:=15) (N:=some 36) (bt_ 39 65535) HT_ ?_
      refine pn_ (i:=16) (N:=some 37) (bt_ 39 131071) HT_ ?_
      refine pn_ (i:=17) (N:=some 38) (bt_ 39 262143) HT_ ?_
      refine pn_ (i:=18) (N:=some 39) (bt_ 39 524287) HT_ ?_
      refine pn_ (i:=19) (N:=some 40) (bt_ 39 1048575) HT_ ?_
      refine pn_ (i:=20) (N:=some 41) (bt_ 39 2097151) HT_ ?_
      refine pn_ (i:=21) (N:=some 42) (bt_ 39 4194303) HT_ ?_
      refine pn_ (i:=22) (N:=some 43) (bt_ 39 8388607) HT_ ?_
      refine pn_ (i:=23) (N:=some 44) (bt_ 39 16777215) HT_ ?_
      refine pn_ (i:=24) (N:=some 45) (bt_ 39 33554431) HT_ ?_
      refine pn_ (i:=25) (N:=some 46) (bt_ 39 67108863) HT_ ?_
      refine pn_ (i:=26) (N:=some 47) (bt_ 39 134217727) HT_ ?_
      refine pn_ (i:=27) (N:=some 48) (bt_ 39 268435455) HT_ ?_
      refine pn_ (i:=28) (N:=some 49) (bt_ 39 536870911) HT_ ?_
      refine pn_ (i:=29) (N:=some 50) (bt_ 39 1073741823) HT_ ?_
      refine pn_ (i:=30) (N:=some 51) (bt_ 39 2147483647) HT_ ?_
      refine pn_ (i:=31) (N:=some 52) (bt_ 39 4294967295) HT_ ?_
      refine pn_ (i:=32) (N:=some 53) (bt_ 39 8589934591) HT_ ?_
      refine pn_ (i:=33) (N:=some 54) (bt_ 39 17179869183) HT_ ?_
      refine pn_ (i:=34) (N:=some 55) (bt_ 39 34359738367) HT_ ?_
      refine pn_ (i:=35) (N:=some 56) (bt_ 39 68719476735) HT_ ?_
      refine pn_ (i:=36) (N:=some 57) (bt_ 39 137438953471) HT_ ?_
      refine pu_ (i:=37) (N:=some 58) (bt_ 39 274877906943) HT_ ?_
      refine pu_ (i:=38) (N:=some 59) (bt_ 39 549755813887) HT_ ?_
      refine done_ (done_of HT_.out (by kernel_rfl)) ?_
      try go_wp2
      go_roundg k2
      case measure=>have:=HK1.out;have:=HK2.out;omega
      case rel=>exact ⟨(wrap64 (x6_2+1)),(by first|rfl|(simp;done)|(simp [*];done)),H',⟨by have:=HK1.out;have:=HK2.out;omega⟩,⟨by (with_reducible repeat (first|apply Kd.R_alloc|apply Kd.R_drewN|apply Kd.R_drew));exact HO_3.out⟩,⟨zl0_ HB⟩⟩
     rw [if_neg c8] at H
     have c8b0:decide (t4<t2)=false:=decide_eq_false c8
     clear c8
     replace H:=Option.bind_eq_some_iff.mp H
     obtain ⟨t6,A110,H⟩:=H
     try dsimp only at H
     have A11:=Aside0.mk A110
     clear A110
     obtain rfl:t4=t6:=Option.some.inj (A7.out.symm.trans A11.out)
     by_cases c12:t4=t2
     rotate_left
     ·rw [if_neg c12] at H
      have c12b0:(t4==t2)=false:=beq_eq_false_iff_ne.mpr c12
      obtain ⟨y30,hy30⟩: ∃y_:List (S39),y_=(([]:List (S39))):=⟨_,rfl⟩
      replace H:(if x6_2≤(x3_1.length:Int) then ((some (x3_1.take (x6_2:Int).toNat:List (S39))).bind fun y33=>(if y30.length+y33.length<2513169434916 then ((some (y30++y33:List (S39))).bind fun y37=>(if 0≤x4_1 then (if x4_1<(l0.length:Int) then (if y37.length<2513169434916 then ((some (y37++ [(⟨(rd_T39 l0 x4_1).f0,(rd_T39 l0 x4_1).f1,(⟨(rd_T39 l0 x4_1).f2.f0,(rd_T39 l0 x4_1).f2.f1,(rd_T39 l0 x4_1).f2.f2⟩:S37)⟩:S39)]:List (S39))).bind fun y41=>((some (x3_1.drop (x6_2:Int).toNat:List (S39))).bind fun y44=>(if y41.length+y44.length<2513169434916 then (r10_Top.l0 k2 l0 (y41++y44) (wrap64 (x4_1+1))) else (none)))) else (none)) else (none)) else (none))) else (none))) else (none))=some r:=by first|(rw [hy30];with_reducible exact H)|(have H2_:=(Option.bind_some _ _).symm.trans H;rw [hy30];with_reducible exact H2_)|(have H2_:=(Option.bind_some _ _).symm.trans H;with_reducible exact H2_)|with_reducible exact H|(rw [hy30];exact H)|exact H
      have Ny30:=Aside0.mk hy30
      clear hy30
      have c34b0:=eq_true (of_decide_eq_true zq_:0≤x6_2)
      by_cases c35:x6_2≤(x3_1.length:Int)
      rotate_left
      ·rw [if_neg c35] at H
       exact absurd H (by simp)
      rw [if_pos c35] at H
      have c35b1:decide (x6_2≤(x3_1.length:Int))=true:=decide_eq_true c35
      clear c35
      obtain ⟨y33,hy33⟩: ∃y_:List (S39),y_=(x3_1.take (x6_2:Int).toNat):=⟨_,rfl⟩
      replace H:(if y30.length+y33.length<2513169434916 then ((some (y30++y33:List (S39))).bind fun y37=>(if 0≤x4_1 then (if x4_1<(l0.length:Int) then (if y37.length<2513169434916 then ((some (y37++ [(⟨(rd_T39 l0 x4_1).f0,(rd_T39 l0 x4_1).f1,(⟨(rd_T39 l0 x4_1).f2.f0,(rd_T39 l0 x4_1).f2.f1,(rd_T39 l0 x4_1).f2.f2⟩:S37)⟩:S39)]:List (S39))).bind fun y41=>((some (x3_1.drop (x6_2:Int).toNat:List (S39))).bind fun y44=>(if y41.length+y44.length<2513169434916 then (r10_Top.l0 k2 l0 (y41++y44) (wrap64 (x4_1+1))) else (none)))) else (none)) else (none)) else (none))) else (none))=some r:=by first|(rw [hy33];with_reducible exact H)|(have H2_:=(Option.bind_some _ _).symm.trans H;rw [hy33];with_reducible exact H2_)|(have H2_:=(Option.bind_some _ _).symm.trans H;with_reducible exact H2_)|with_reducible exact H|(rw [hy33];exact H)|exact H
      have Ny33:=Aside0.mk hy33
      clear hy33
      by_cases c36:y30.length+y33.length<2513169434916
      rotate_left
      ·rw [if_neg c36] at H
       exact absurd H (by simp)
      rw [if_pos c36] at H
      have LMc36:=Aside0.mk c36
      clear c36
      obtain ⟨y37,hy37⟩: ∃y_:List (S39),y_=(y30++y33):=⟨_,rfl⟩
      replace H:(if 0≤x4_1 then (if x4_1<(l0.length:Int) then (if y37.length<2513169434916 then ((some (y37++ [(⟨(rd_T39 l0 x4_1).f0,(rd_T39 l0 x4_1).f1,(⟨(rd_T39 l0 x4_1).f2.f0,(rd_T39 l0 x4_1).f2.f1,(rd_T39 l0 x4_1).f2.f2⟩:S37)⟩:S39)]:List (S39))).bind fun y41=>((some (x3_1.drop (x6_2:Int).toNat:List (S39))).bind fun y44=>(if y41.length+y44.length<2513169434916 then (r10_Top.l0 k2 l0 (y41++y44) (wrap64 (x4_1+1))) else (none)))) else (none)) else (none)) else (none))=some r:=by first|(rw [hy37];with_reducible exact H)|(have H2_:=(Option.bind_some _ _).symm.trans H;rw [hy37];with_reducible exact H2_)|(have H2_:=(Option.bind_some _ _).symm.trans H;with_reducible exact H2_)|with_reducible exact H|(rw [hy37];exact H)|exact H
      have Ny37:=Aside0.mk hy37
      clear hy37
      by_cases c37:0≤x4_1
      rotate_left
      ·rw [if_neg c37] at H
       exact absurd H (by simp)
      rw [if_pos c37] at H
      have c37b0:decide (0≤x4_1)=true:=decide_eq_true c37
      clear c37
      by_cases c38:x4_1<(l0.length:Int)
      rotate_left
      ·rw [if_neg c38] at H
       exact absurd H (by simp)
      rw [if_pos c38] at H
      have c38b0:decide (x4_1<(l0.length:Int))=true:=decide_eq_true c38
      clear c38
      by_cases c39:y37.length<2513169434916
      rotate_left
      ·rw [if_neg c39] at H
       exact absurd H (by simp)
      rw [if_pos c39] at H
      have LMc39:=Aside0.mk c39
      clear c39
      obtain ⟨y41,hy41⟩: ∃y_:List (S39),y_=(y37++ [(⟨(rd_T39 l0 x4_1).f0,(rd_T39 l0 x4_1).f1,(⟨(rd_T39 l0 x4_1).f2.f0,(rd_T39 l0 x4_1).f2.f1,(rd_T39 l0 x4_1).f2.f2⟩:S37)⟩:S39)]):=⟨_,rfl⟩
      replace H:((some (x3_1.drop (x6_2:Int).toNat:List (S39))).bind fun y44=>(if y41.length+y44.length<2513169434916 then (r10_Top.l0 k2 l0 (y41++y44) (wrap64 (x4_1+1))) else (none)))=some r:=by first|(rw [hy41];with_reducible exact H)|(have H2_:=(Option.bind_some _ _).symm.trans H;rw [hy41];with_reducible exact H2_)|(have H2_:=(Option.bind_some _ _).symm.trans H;with_reducible exact H2_)|with_reducible exact H|(rw [hy41];exact H)|exact H
      have Ny41:=Aside0.mk hy41
      clear hy41
      obtain ⟨y44,hy44⟩: ∃y_:List (S39),y_=(x3_1.drop (x6_2:Int).toNat):=⟨_,rfl⟩
      replace H:(if y41.length+y44.length<2513169434916 then (r10_Top.l0 k2 l0 (y41++y44) (wrap64 (x4_1+1))) else (none))=some r:=by first|(rw [hy44];with_reducible exact H)|(have H2_:=(Option.bind_some _ _).symm.trans H;rw [hy44];with_reducible exact H2_)|(have H2_:=(Option.bind_some _ _).symm.trans H;with_reducible exact H2_)|with_reducible exact H|(rw [hy44];exact H)|exact H
      have Ny44:=Aside0.mk hy44
      clear hy44
      by_cases c42:y41.length+y44.length<2513169434916
      rotate_left
      ·rw [if_neg c42] at H
       exact absurd H (by simp)
      rw [if_pos c42] at H
      have LMc42:=Aside0.mk c42
      clear c42
      obtain ⟨y48,hy48⟩: ∃y_:List (S39),y_=(y41++y44):=⟨_,rfl⟩
      replace H:(r10_Top.l0 k2 l0 y48 (wrap64 (x4_1+1)))=some r:=by first|(rw [hy48];with_reducible exact H)|(have H2_:=(Option.bind_some _ _).symm.trans H;rw [hy48];with_reducible exact H2_)|(have H2_:=(Option.bind_some _ _).symm.trans H;with_reducible exact H2_)|with_reducible exact H|(rw [hy48];exact H)|exact H
      have Ny48:=Aside0.mk hy48
      clear hy48
      have H':=Aside0.mk H
      clear H
      try go_wp2
      replace HO_3:=am_ (Kd.R_drew HO_3.out)
      replace HB:=am_ (below_drew1 HB.out)
      obtain ⟨Ao44,co44,eo44⟩:=Kd.R_slice HO_3.out
      (first|subst eo44|(injection eo44 with f1_ f2_ f3_;have f4_:=f1_.symm;have f5_:=f3_.symm;clear f1_ f2_ f3_;subst f4_;subst f5_))
      have p3:0≤(x6_2:Int):=of_decide_eq_true zq_
      have q3:x6_2<(x3_1.length:Int):=of_decide_eq_true zq_
      obtain ⟨ad3,e3,hx3_0,hx3_1,hx3_2,hx3_3,hx3_4⟩:=at_T39 (Kd.R_reads' HO_3.out).2.2 x6_2 p3 q3
      cases e3
      replace p3:=eq_true p3
      replace q3:=eq_true q3
      have p5:0≤(x6_2:Int):=of_decide_eq_true zq_
      have q5:x6_2<(x3_1.length:Int):=of_decide_eq_true zq_
      obtain ⟨ad5,e5,hx5_0,hx5_1,hx5_2,hx5_3,hx5_4⟩:=at_T39 (Kd.R_reads' HO_3.out).2.2 x6_2 p5 q5
      obtain rfl:ad3=ad5:=(by injection e5)
      replace p5:=eq_true p5
      replace q5:=eq_true q5
      refine start_ (n:=39) (S:=fun w'=>w'.cell? (ad3.add ((x6_2).toNat*5))=some (.string ((rd_T39 x3_1 x6_2).f0))∧w'.cell? ⟨(ad3.add ((x6_2).toNat*5)).block,(ad3.add ((x6_2).toNat*5)).off+1,none⟩=some (.string ((rd_T39 x3_1 x6_2).f1))∧w'.cell? ⟨(ad3.add ((x6_2).toNat*5)).block,(ad3.add ((x6_2).toNat*5)).off+2,none⟩=some (.int .i64 ((rd_T39 x3_1 x6_2).f2.f0))∧w'.cell? ⟨(ad3.add ((x6_2).toNat*5)).block,(ad3.add ((x6_2).toNat*5)).off+3,none⟩=some (.int .i64 ((rd_T39 x3_1 x6_2).f2.f1))∧w'.cell? ⟨(ad3.add ((x6_2).toNat*5)).block,(ad3.add ((x6_2).toNat*5)).off+4,none⟩=some (.int .i64 ((rd_T39 x3_1 x6_2).f2.f2))∧w'.cell? (ad3.add ((x6_2).toNat*5))=some (.string ((rd_T39 x3_1 x6_2).f0))∧w'.cell? ⟨(ad3.add ((x6_2).toNat*5)).block,(ad3.add ((x6_2).toNat*5)).off+1,none⟩=some (.string ((rd_T39 x3_1 x6_2).f1))∧w'.cell? ⟨(ad3.add ((x6_2).toNat*5)).block,(ad3.add ((x6_2).toNat*5)).off+2,none⟩=some (.int .i64 ((rd_T39 x3_1 x6_2).f2.f0))∧w'.cell? ⟨(ad3.add ((x6_2).toNat*5)).block,(ad3.add ((x6_2).toNat*5)).off+3,none⟩=some (.int .i64 ((rd_T39 x3_1 x6_2).f2.f1))∧w'.cell? ⟨(ad3.add ((x6_2).toNat*5)).block,(ad3.add ((x6_2).toNat*5)).off+4,none⟩=some (.int .i64 ((rd_T39 x3_1 x6_2).f2.f2))) (ds:=[]) (bt_ 39 0) (by kernel_rfl) rfl rfl ⟨hx3_0,hx3_1,hx3_2,hx3_3,hx3_4,hx5_0,hx5_1,hx5_2,hx5_3,hx5_4⟩ (fun hHeld=> ?_);refine with_tabW r10_Top.tab7 r10_Top.bits7 (fun HT_ HW_=> ?_)
      generalize wr.drew=w43 at HO_3 HB hx3_0 hx3_1 hx3_2 hx3_3 hx3_4 hx5_0 hx5_1 hx5_2 hx5_3 hx5_4 hHeld ⊢
      refine pu_ (i:=0) (N:=some 21) (bt_ 39 1) HT_ ?_
      refine pu_ (i:=1) (N:=some 22) (bt_ 39 3) HT_ ?_
      refine pu_ (i:=2) (N:=some 23) (bt_ 39 7) HT_ ?_
      refine pu_ (i:=3) (N:=some 24) (bt_ 39 15) HT_ ?_
      refine pu_ (i:=4) (N:=some 25) (bt_ 39 31) HT_ ?_
      refine pu_ (i:=5) (N:=some 26) (bt_ 39 63) HT_ ?_
      refine pu_ (i:=6) (N:=some 27) (bt_ 39 127) HT_ ?_
      refine pu_ (i:=7) (N:=some 28) (bt_ 39 255) HT_ ?_
      refine pu_ (i:=8) (N:=some 29) (bt_ 39 511) HT_ ?_
      refine pu_ (i:=9) (N:=some 30) (bt_ 39 1023) HT_ ?_
      refine pu_ (i:=12) (N:=some 33) (bt_ 39 5119) HT_ ?_
      refine tk_ (i:=10) (N:=some 31) (bt_ 39 6143) HT_ HW_ hHeld ?_
      refine on_ (i:=11) (N:=some 32) (bt_ 39 8191) HT_ (fun K hK=> ?_)
      refine gs_ Try.func28 #[.slice (some ad1) l0.length c0, .string ((rd_T39 x3_1 x6_2).f0)] ?_
      with_reducible refine (r10_Depth.calls k2 _ _ l0 ((rd_T39 x3_1 x6_2).f0) t4 _ ?side1 ?side2 A7.out).mono ?_
      (case side1=>exact zc_ (Kd.C_below HR0.out HB.out))
      (case side2=>exact HC0.out)
      rintro e w' ⟨rfl,⟨nd,rfl⟩⟩
      refine ⟨_,rfl, ?_⟩
      refine hK.out _ _ ⟨hHeld.1,hHeld.2.1,hHeld.2.2.1,hHeld.2.2.2.1,hHeld.2.2.2.2.1,hHeld.2.2.2.2.2.1,hHeld.2.2.2.2.2.2.1,hHeld.2.2.2.2.2.2.2.1,hHeld.2.2.2.2.2.2.2.2.1,hHeld.2.2.2.2.2.2.2.2.2⟩ (fun hHeld=> ?_)
      clear hK K
      refine no_ (N:=some 32) ?_
      refine pu_ (i:=13) (N:=some 34) (bt_ 39 16383) HT_ ?_
      refine pu_ (i:=14) (N:=some 35) (bt_ 39 32767) HT_ ?_
      refine pu_ (i:=15) (N:=some 36) (bt_ 39 65535) HT_ ?_
      refine pu_ (i:=16) (N:=some 37) (bt_ 39 131071) HT_ ?_
      refine pu_ (i:=17) (N:=some 38) (bt_ 39 262143) HT_ ?_
      refine pu_ (i:=18) (N:=some 39) (bt_ 39 524287) HT_ ?_
      refine pu_ (i:=19) (N:=some 40) (bt_ 39 1048575) HT_ ?_
      refine pu_ (i:=22) (N:=some 43) (bt_ 39 5242879) HT_ ?_
      refine tk_ (i:=20) (N:=some 41) (bt_ 39 6291455) HT_ HW_ hHeld ?_
      refine on_ (i:=21) (N:=some 42) (bt_ 39 8388607) HT_ (fun K hK=> ?_)
      refine gs_ Try.func28 #[.slice (some ad1) l0.length c0, .string ((rd_T39 x3_1 x6_2).f0)] ?_
      with_reducible refine (r10_Depth.calls k2 _ _ l0 ((rd_T39 x3_1 x6_2).f0) t4 _ ?side1 ?side2 A11.out).mono ?_
      (case side1=>repeat (first|exact (Kd.C_below HR0.out (zl0_ HB))|(with_reducible refine Kd.C_alloc ?_ _)|(with_reducible refine Kd.C_drewN ?_ _)|(with_reducible refine Kd.C_drew ?_)))
      (case side2=>exact HC0.out)
      rintro e w' ⟨rfl,⟨nd,rfl⟩⟩
      refine ⟨_,rfl, ?_⟩
      refine hK.out _ _ ⟨hHeld.1,hHeld.2.1,hHeld.2.2.1,hHeld.2.2.2.1,hHeld.2.2.2.2.1,hHeld.2.2.2.2.2.1,hHeld.2.2.2.2.2.2.1,hHeld.2.2.2.2.2.2.2.1,hHeld.2.2.2.2.2.2.2.2.1,hHeld.2.2.2.2.2.2.2.2.2⟩ (fun hHeld=> ?_)
      clear hK K
      refine no_ (N:=some 42) ?_
      refine pu_ (i:=23) (N:=some 44) (bt_ 39 16777215) HT_ ?_
      refine pu_ (i:=24) (N:=some 45) (bt_ 39 33554431) HT_ ?_
      refine pn_ (i:=25) (N:=some 46) (bt_ 39 67108863) HT_ ?_
      refine pn_ (i:=26) (N:=some 47) (bt_ 39 134217727) HT_ ?_
      refine pn_ (i:=27) (N:=some 48) (bt_ 39 268435455) HT_ ?_
      refine pn_ (i:=28) (N:=some 49) (bt_ 39 536870911) HT_ ?_
      refine pn_ (i:=29) (N:=some 50) (bt_ 39 1073741823) HT_ ?_
      refine pn_ (i:=30) (N:=some 51) (bt_ 39 2147483647) HT_ ?_
      refine pn_ (i:=31) (N:=some 52) (bt_ 39 4294967295) HT_ ?_
      refine pn_ (i:=32) (N:=some 53) (bt_ 39 8589934591) HT_ ?_
      refine pn_ (i:=33) (N:=some 54) (bt_ 39 17179869183) HT_ ?_
      refine pn_ (i:=34) (N:=some 55) (bt_ 39 34359738367) HT_ ?_
      refine pn_ (i:=35) (N:=some 56) (bt_ 39 68719476735) HT_ ?_
      refine pu_ (i:=36) (N:=some 57) (bt_ 39 137438953471) HT_ ?_
      refine pu_ (i:=37) (N:=some 58) (bt_ 39 274877906943) HT_ ?_
      refine pu_ (i:=38) (N:=some 59) (bt_ 39 549755813887) HT_ ?_
      refine done_ (done_of HT_.out (by kernel_rfl)) ?_
      try go_wp2_with (first|((with_reducible refine gate_dst (N:=62) rfl ?_);refine Kd.R_lit k39 _ 39 ?hg (N:=62) ?hd (xs:=([]:List (S39))) (inner:=[]) (ok:=fun _=>True) (okp:=fun _=>True) ?hr ?hp (fun _ hk=>hk) trivial (Below.refl _ _) (Nat.le_refl _) (by simp) ?_;(case hd=>rfl);(case hg=>rfl);(case hr=>first|(go_simp;done)|(go_simp;rfl));(case hp=>exact (Reps.none _ _));intro v31 w45 ho46 hb hg_ hnew_;clear hg_ hnew_;(first|rw [←Ny30.out] at ho46|(simp only [Int.reduceToNat] at ho46;rw [←Ny30.out] at ho46));have HO32:=am_ (Kd.R_lower (Kd.R_new' ho46 (Kd.R_lt (zr_ HO_3))) (below_size (zl0_ HB)));replace HO_3:=am_ (Kd.R_elder' (zr_ HO_3) (Kd.R_base ho46) hb);replace HB:=am_ (below_step (zl0_ HB) hb);clear hb ho46;have q47:(x6_2:Int)≤((x3_1.length:Int):Int):=of_decide_eq_true zq_;obtain ⟨i047,hi047,_,hsz47,_⟩:=info_parts info39;have hroom47:x3_1.length≤co44:=(Kd.R_reads' HO_3.out).2.1;have hC47:Kd.C k39 _ (some ad3) x3_1.length x3_1:=(Kd.R_reads' HO_3.out).2.2;have hcut47:=cut_to (P:=Try.prog) 22 39 .i64 Try.underlying22 hi047 (some ad3) x3_1.length co44 x6_2 (of_decide_eq_true zq_) q47 hroom47;have hr47:=Kd.C_take (m:=(x6_2:Int).toNat) hC47 (by omega);have hy47:y33.length=(x6_2:Int).toNat:=(by rw [Ny33.out,List.length_take];omega);rw [←Ny33.out] at hr47;rw [←hy47] at hcut47;have HR36:=Aside0.mk hr47;clear hr47 hC47 hroom47 hi047 hsz47;clear hy47;have KL47:=am_ (show (x6_2:Int).toNat≤x3_1.length from by omega);replace q47:=eq_true q47)|((with_reducible refine gate_builtin (b:= .append) (xs:=#[.tmp 62, .tmp 65]) rfl ?_);at_builtin;refine Kd.R_append_rows k39 (w0:=w) w.heap.size rfl (.tmp 62) (.tmp 65) 22 39 (.agg #[(.string ⟨#[]⟩),(.string ⟨#[]⟩),(.int .i64 0),(.int .i64 0),(.int .i64 0)]) 56 rfl Try.underlying22 info39 rfl (by decide) (by omega) v31 y30 y33 _ _ _ (fun k_=>some k_≠(.slice (some ad3) x3_1.length co44:Value).ownBlock) (fun _=>False) rfl rfl ?aO ?aR (fun _ _ h=>h) (fun _ h=>h.elim) ?aF ?aB ?aS ?aL ?_;(case aR=>repeat (first|exact (by repeat (first|(with_reducible exact HR36.out)|(with_reducible refine Kd.C_alloc ?_ _)|(with_reducible refine Kd.C_drewN ?_ _)|(with_reducible refine Kd.C_drew ?_)|exact HR36.out))|(with_reducible refine Kd.C_alloc ?_ _)|(with_reducible refine Kd.C_drewN ?_ _)|(with_reducible refine Kd.C_drew ?_)));(case aB=>exact (zl0_ HB));(case aF=>exact (fun k_ hk=>Kd.fresh' (Kd.R_lt (zr_ HO_3)) k_ hk));(case aO=>exact (by refine zt_ ?_;exact Kd.R_mono HO32.out (fun _ hk=>hk.2)));(case aS=>exact (below_size (zl0_ HB)));(case aL=>have:=LMc36.out;omega);intro v38 w48 ho hb hg hat;rw [←Ny37.out] at ho;have n0_:=am_ (Kd.R_after (ok:=(fun _=>True)) (zr_ HO_3) hg hat);have n1_:=am_ (hb);have n2_:=am_ ((show Kd.C k39 w48 (some ad3) y33.length y33 from by rw [Ny33.out];exact Kd.C_take (m:=(x6_2:Int).toNat) ((Kd.R_reads' (Kd.R_after (ok:=(fun _=>True)) (zr_ HO_3) hg hat)).2.2) KL47.out));have n3_:=am_ (ho);clear HO_3;clear HB;clear HR36;clear HO32;have HO_3:=n0_;have HB:=n1_;have HR36:=n2_;have HO39:=n3_;clear n0_ n1_ n2_ n3_;clear ho hb hg hat;have p40:0≤(x4_1:Int):=of_decide_eq_true zq_;have q40:x4_1<(l0.length:Int):=of_decide_eq_true zq_;obtain ⟨ad40,e40,hx40_0,hx40_1,hx40_2,hx40_3,hx40_4⟩:=at_T39 HR0.out x4_1 p40 q40;obtain rfl:ad1=ad40:=(by injection e40);replace hx40_0:=zx_ HB hx40_0;replace hx40_1:=zx_ HB hx40_1;replace hx40_2:=zx_ HB hx40_2;replace hx40_3:=zx_ HB hx40_3;replace hx40_4:=zx_ HB hx40_4;replace p40:=eq_true p40;replace q40:=eq_true q40)|((with_reducible refine gate_builtin (b:= .append) (xs:=#[.tmp 67, .tmp 72]) rfl ?_);at_builtin;refine Kd.R_append k39 (w0:=w) w.heap.size rfl (.tmp 67) (.tmp 72) 22 39 (.agg #[(.string ⟨#[]⟩),(.string ⟨#[]⟩),(.int .i64 0),(.int .i64 0),(.int .i64 0)]) 56 rfl Try.underlying22 info39 rfl (by decide) (by omega) v38 y37 (⟨(rd_T39 l0 x4_1).f0,(rd_T39 l0 x4_1).f1,(⟨(rd_T39 l0 x4_1).f2.f0,(rd_T39 l0 x4_1).f2.f1,(rd_T39 l0 x4_1).f2.f2⟩:S37)⟩:S39) [.string ((rd_T39 l0 x4_1).f0), .string ((rd_T39 l0 x4_1).f1), .int .i64 ((rd_T39 l0 x4_1).f2.f0), .int .i64 ((rd_T39 l0 x4_1).f2.f1), .int .i64 ((rd_T39 l0 x4_1).f2.f2)] (fun k_=>some k_≠(.slice (some ad3) x3_1.length co44:Value).ownBlock) (fun _=>False) rfl rfl ?aP (fun _ hk=>hk.elim) ?aF ?aO ?aB ?aS ?aL ?_;(case aP=>exact k39_mkM _ _ _ (⟨(rd_T39 l0 x4_1).f0,(rd_T39 l0 x4_1).f1,(⟨(rd_T39 l0 x4_1).f2.f0,(rd_T39 l0 x4_1).f2.f1,(rd_T39 l0 x4_1).f2.f2⟩:S37)⟩:S39));(case aB=>exact (zl0_ HB));(case aF=>exact (fun k_ hk=>Kd.fresh' (Kd.R_lt (zr_ HO_3)) k_ hk));(case aO=>exact (zr_ HO39));(case aS=>exact (below_size (zl0_ HB)));(case aL=>have:=LMc39.out;omega);intro v42 w49 ho hb hg hat;rw [←Ny41.out] at ho;have n0_:=am_ (Kd.R_after (ok:=(fun _=>True)) (zr_ HO_3) hg hat);have n1_:=am_ (hb);have n2_:=am_ ((show Kd.C k39 w49 (some ad3) y33.length y33 from by rw [Ny33.out];exact Kd.C_take (m:=(x6_2:Int).toNat) ((Kd.R_reads' (Kd.R_after (ok:=(fun _=>True)) (zr_ HO_3) hg hat)).2.2) KL47.out));have n3_:=am_ (ho);clear HO_3;clear HB;clear HR36;clear HO39;have HO_3:=n0_;have HB:=n1_;have HR36:=n2_;have HO43:=n3_;clear n0_ n1_ n2_ n3_;clear ho hb hg hat;have q50:(x6_2:Int)≤((x3_1.length:Int):Int):=of_decide_eq_true zq_;obtain ⟨i050,hi050,_,hsz50,_⟩:=info_parts info39;have hroom50:x3_1.length≤co44:=(Kd.R_reads' HO_3.out).2.1;have hC50:Kd.C k39 _ (some ad3) x3_1.length x3_1:=(Kd.R_reads' HO_3.out).2.2;have q050:(0:Int)≤(x6_2:Int):=of_decide_eq_true zq_;have hcut50:=cut_from (P:=Try.prog) 22 39 .i64 Try.underlying22 hi050 5 hsz50 (some ad3) x3_1.length co44 x6_2 q050 q50;have hr50:=Kd.C_drop (m:=(x6_2:Int).toNat) (c:=co44) hC50 (by omega) hroom50;obtain ⟨A50,hA50⟩: ∃A1,A1=(if co44=(x6_2:Int).toNat then (some ad3) else ((some ad3):Option Addr).map (·.add ((x6_2:Int).toNat*5))):=⟨_,rfl⟩;obtain ⟨c50,hc50⟩: ∃c1,c1=co44 - (x6_2:Int).toNat:=⟨_,rfl⟩;have hy50:y44.length=x3_1.length - (x6_2:Int).toNat:=(by rw [Ny44.out,List.length_drop]<;>omega);rw [show (x3_1).drop (x6_2:Int).toNat=y44 from Ny44.out.symm] at hr50;replace hr50:Kd.C k39 _ A50 y44.length y44:=(by rw [hA50];exact hr50);rw [←hy50,←hA50,←hc50] at hcut50;have HR47:=Aside0.mk hr50;clear hr50 hC50 hroom50 hi050 hsz50 hc50;have KA50:=Aside0.mk hA50;clear hy50 hA50;have KL50:=am_ (show (x6_2:Int).toNat≤x3_1.length from by omega);replace q50:=eq_true q50)|((with_reducible refine gate_builtin (b:= .append) (xs:=#[.tmp 74, .tmp 77]) rfl ?_);at_builtin;refine Kd.R_append_rows k39 (w0:=w) w.heap.size rfl (.tmp 74) (.tmp 77) 22 39 (.agg #[(.string ⟨#[]⟩),(.string ⟨#[]⟩),(.int .i64 0),(.int .i64 0),(.int .i64 0)]) 56 rfl Try.underlying22 info39 rfl (by decide) (by omega) v42 y41 y44 _ _ _ (fun k_=>some k_≠(.slice (some ad3) x3_1.length co44:Value).ownBlock) (fun _=>False) rfl rfl ?aO ?aR (fun _ _ h=>h) (fun _ h=>h.elim) ?aF ?aB ?aS ?aL ?_;(case aR=>repeat (first|exact (by repeat (first|(with_reducible exact HR47.out)|(with_reducible refine Kd.C_alloc ?_ _)|(with_reducible refine Kd.C_drewN ?_ _)|(with_reducible refine Kd.C_drew ?_)|exact HR47.out))|(with_reducible refine Kd.C_alloc ?_ _)|(with_reducible refine Kd.C_drewN ?_ _)|(with_reducible refine Kd.C_drew ?_)));(case aB=>exact (zl0_ HB));(case aF=>exact (fun k_ hk=>Kd.fresh' (Kd.R_lt (zr_ HO_3)) k_ hk));(case aO=>exact (zr_ HO43));(case aS=>exact (below_size (zl0_ HB)));(case aL=>have:=LMc42.out;omega);intro v49 w51 ho hb hg hat;rw [←Ny48.out] at ho;have n0_:=am_ (Kd.R_after (ok:=(fun _=>True)) (zr_ HO_3) hg hat);have n1_:=am_ (hb);have n2_:=am_ ((show Kd.C k39 w51 (some ad3) y33.length y33 from by rw [Ny33.out];exact Kd.C_take (m:=(x6_2:Int).toNat) ((Kd.R_reads' (Kd.R_after (ok:=(fun _=>True)) (zr_ HO_3) hg hat)).2.2) KL47.out));have n3_:=am_ ((show Kd.C k39 w51 A50 y44.length y44 from by rw [Ny44.out,KA50.out];exact Kd.C_drop (m:=(x6_2:Int).toNat) (c:=co44) ((Kd.R_reads' (Kd.R_after (ok:=(fun _=>True)) (zr_ HO_3) hg hat)).2.2) KL50.out ((Kd.R_reads' (Kd.R_after (ok:=(fun _=>True)) (zr_ HO_3) hg hat)).2.1)));have n4_:=am_ (ho);clear HO_3;clear HB;clear HR36;clear HR47;clear HO43;have HO_3:=n0_;have HB:=n1_;have HR36:=n2_;have HR47:=n3_;have HO50:=n4_;clear n0_ n1_ n2_ n3_ n4_;clear ho hb hg hat))
      go_roundg k2
      case measure=>have:=HK1.out;have:=HK2.out;omega
      case rel=>exact ⟨(y48),(wrap64 (x4_1+1)),(by first|rfl|(simp;done)|(simp [*];done)),H',⟨by have:=HK1.out;have:=HK2.out;omega⟩,⟨by (with_reducible repeat (first|apply Kd.R_alloc|apply Kd.R_drewN|apply Kd.R_drew));exact Kd.R_mono HO50.out (fun _ hk=>trivial)⟩,⟨zl0_ HB⟩⟩
     rw [if_pos c12] at H
     have c12b0:(t4==t2)=true:=beq_iff_eq.mpr c12
     clear c12
     by_cases c13:0≤x4_1
     rotate_left
     ·rw [if_neg c13] at H
      exact absurd H (by simp)
     rw [if_pos c13] at H
     have c13b0:decide (0≤x4_1)=true:=decide_eq_true c13
     clear c13
     by_cases c14:x4_1<(l0.length:Int)
     rotate_left
     ·rw [if_neg c14] at H
      exact absurd H (by simp)
     rw [if_pos c14] at H
     have c14b0:decide (x4_1<(l0.length:Int))=true:=decide_eq_true c14
     clear c14
     by_cases c15:(Op.bytesLess (((rd_T39 x3_1 x6_2).f0).toList) (((rd_T39 l0 x4_1).f0).toList))=true
     ·rw [if_pos c15] at H
      have c15b0:(Op.bytesLess (((rd_T39 x3_1 x6_2).f0).toList) (((rd_T39 l0 x4_1).f0).toList))=true:=c15
      clear c15
      have H':=Aside0.mk H
      clear H
      try go_wp2
      replace HO_3:=am_ (Kd.R_drew HO_3.out)
      replace HB:=am_ (below_drew1 HB.out)
      obtain ⟨Ao17,co17,eo17⟩:=Kd.R_slice HO_3.out
      (first|subst eo17|(injection eo17 with f1_ f2_ f3_;have f4_:=f1_.symm;have f5_:=f3_.symm;clear f1_ f2_ f3_;subst f4_;subst f5_))
      have p3:0≤(x6_2:Int):=of_decide_eq_true zq_
      have q3:x6_2<(x3_1.length:Int):=of_decide_eq_true zq_
      obtain ⟨ad3,e3,hx3_0,hx3_1,hx3_2,hx3_3,hx3_4⟩:=at_T39 (Kd.R_reads' HO_3.out).2.2 x6_2 p3 q3
      cases e3
      replace p3:=eq_true p3
      replace q3:=eq_true q3
      have p5:0≤(x6_2:Int):=of_decide_eq_true zq_
      have q5:x6_2<(x3_1.length:Int):=of_decide_eq_true zq_
      obtain ⟨ad5,e5,hx5_0,hx5_1,hx5_2,hx5_3,hx5_4⟩:=at_T39 (Kd.R_reads' HO_3.out).2.2 x6_2 p5 q5
      obtain rfl:ad3=ad5:=(by injection e5)
      replace p5:=eq_true p5
      replace q5:=eq_true q5
      have p7:0≤(x6_2:Int):=of_decide_eq_true zq_
      have q7:x6_2<(x3_1.length:Int):=of_decide_eq_true zq_
      obtain ⟨ad7,e7,hx7_0,hx7_1,hx7_2,hx7_3,hx7_4⟩:=at_T39 (Kd.R_reads' HO_3.out).2.2 x6_2 p7 q7
      obtain rfl:ad3=ad7:=(by injection e7)
      replace p7:=eq_true p7
      replace q7:=eq_true q7
      have p8:0≤(x4_1:Int):=of_decide_eq_true zq_
      have q8:x4_1<(l0.length:Int):=of_decide_eq_true zq_
      obtain ⟨ad8,e8,hx8_0,hx8_1,hx8_2,hx8_3,hx8_4⟩:=at_T39 HR0.out x4_1 p8 q8
      have hw8_4:=hx8_4
      have hw8_3:=hx8_3
      have hw8_2:=hx8_2
      have hw8_1:=hx8_1
      have hw8_0:=hx8_0
      obtain rfl:ad1=ad8:=(by injection e8)
      replace hx8_0:=zx_ HB hx8_0
      replace hx8_1:=zx_ HB hx8_1
      replace hx8_2:=zx_ HB hx8_2
      replace hx8_3:=zx_ HB hx8_3
      replace hx8_4:=zx_ HB hx8_4
      replace p8:=eq_true p8
      replace q8:=eq_true q8
      refine start_ (n:=39) (S:=fun w'=>w'.cell? (ad3.add ((x6_2).toNat*5))=some (.string ((rd_T39 x3_1 x6_2).f0))∧w'.cell? ⟨(ad3.add ((x6_2).toNat*5)).block,(ad3.add ((x6_2).toNat*5)).off+1,none⟩=some (.string ((rd_T39 x3_1 x6_2).f1))∧w'.cell? ⟨(ad3.add ((x6_2).toNat*5)).block,(ad3.add ((x6_2).toNat*5)).off+2,none⟩=some (.int .i64 ((rd_T39 x3_1 x6_2).f2.f0))∧w'.cell? ⟨(ad3.add ((x6_2).toNat*5)).block,(ad3.add ((x6_2).toNat*5)).off+3,none⟩=some (.int .i64 ((rd_T39 x3_1 x6_2).f2.f1))∧w'.cell? ⟨(ad3.add ((x6_2).toNat*5)).block,(ad3.add ((x6_2).toNat*5)).off+4,none⟩=some (.int .i64 ((rd_T39 x3_1 x6_2).f2.f2))∧w'.cell? (ad3.add ((x6_2).toNat*5))=some (.string ((rd_T39 x3_1 x6_2).f0))∧w'.cell? ⟨(ad3.add ((x6_2).toNat*5)).block,(ad3.add ((x6_2).toNat*5)).off+1,none⟩=some (.string ((rd_T39 x3_1 x6_2).f1))∧w'.cell? ⟨(ad3.add ((x6_2).toNat*5)).block,(ad3.add ((x6_2).toNat*5)).off+2,none⟩=some (.int .i64 ((rd_T39 x3_1 x6_2).f2.f0))∧w'.cell? ⟨(ad3.add ((x6_2).toNat*5)).block,(ad3.add ((x6_2).toNat*5)).off+3,none⟩=some (.int .i64 ((rd_T39 x3_1 x6_2).f2.f1))∧w'.cell? ⟨(ad3.add ((x6_2).toNat*5)).block,(ad3.add ((x6_2).toNat*5)).off+4,none⟩=some (.int .i64 ((rd_T39 x3_1 x6_2).f2.f2))∧w'.cell? (ad3.add ((x6_2).toNat*5))=some (.string ((rd_T39 x3_1 x6_2).f0))∧w'.cell? ⟨(ad3.add ((x6_2).toNat*5)).block,(ad3.add ((x6_2).toNat*5)).off+1,none⟩=some (.string ((rd_T39 x3_1 x6_2).f1))∧w'.cell? ⟨(ad3.add ((x6_2).toNat*5)).block,(ad3.add ((x6_2).toNat*5)).off+2,none⟩=some (.int .i64 ((rd_T39 x3_1 x6_2).f2.f0))∧w'.cell? ⟨(ad3.add ((x6_2).toNat*5)).block,(ad3.add ((x6_2).toNat*5)).off+3,none⟩=some (.int .i64 ((rd_T39 x3_1 x6_2).f2.f1))∧w'.cell? ⟨(ad3.add ((x6_2).toNat*5)).block,(ad3.add ((x6_2).toNat*5)).off+4,none⟩=some (.int .i64 ((rd_T39 x3_1 x6_2).f2.f2))∧w'.cell? (ad1.add ((x4_1).toNat*5))=some (.string ((rd_T39 l0 x4_1).f0))∧w'.cell? ⟨(ad1.add ((x4_1).toNat*5)).block,(ad1.add ((x4_1).toNat*5)).off+1,none⟩=some (.string ((rd_T39 l0 x4_1).f1))∧w'.cell? ⟨(ad1.add ((x4_1).toNat*5)).block,(ad1.add ((x4_1).toNat*5)).off+2,none⟩=some (.int .i64 ((rd_T39 l0 x4_1).f2.f0))∧w'.cell? ⟨(ad1.add ((x4_1).toNat*5)).block,(ad1.add ((x4_1).toNat*5)).off+3,none⟩=some (.int .i64 ((rd_T39 l0 x4_1).f2.f1))∧w'.cell? ⟨(ad1.add ((x4_1).toNat*5)).block,(ad1.add ((x4_1).toNat*5)).off+4,none⟩=some (.int .i64 ((rd_T39 l0 x4_1).f2.f2))) (ds:=[]) (bt_ 39 0) (by kernel_rfl) rfl rfl ⟨hx3_0,hx3_1,hx3_2,hx3_3,hx3_4,hx5_0,hx5_1,hx5_2,hx5_3,hx5_4,hx7_0,hx7_1,hx7_2,hx7_3,hx7_4,(zx_ HB hw8_0:),(zx_ HB hw8_1:),(zx_ HB hw8_2:),(zx_ HB hw8_3:),(zx_ HB hw8_4:)⟩ (fun hHeld=> ?_);refine with_tabW r10_Top.tab7 r10_Top.bits7 (fun HT_ HW_=> ?_)
      generalize wr.drew=w16 at HO_3 HB hx3_0 hx3_1 hx3_2 hx3_3 hx3_4 hx5_0 hx5_1 hx5_2 hx5_3 hx5_4 hx7_0 hx7_1 hx7_2 hx7_3 hx7_4 hx8_0 hx8_1 hx8_2 hx8_3 hx8_4 hHeld ⊢
      refine pu_ (i:=0) (N:=some 21) (bt_ 39 1) HT_ ?_
      refine pu_ (i:=1) (N:=some 22) (bt_ 39 3) HT_ ?_
      refine pu_ (i:=2) (N:=some 23) (bt_ 39 7) HT_ ?_
      refine pu_ (i:=3) (N:=some 24) (bt_ 39 15) HT_ ?_
      refine pu_ (i:=4) (N:=some 25) (bt_ 39 31) HT_ ?_
      refine pu_ (i:=5) (N:=some 26) (bt_ 39 63) HT_ ?_
      refine pu_ (i:=6) (N:=some 27) (bt_ 39 127) HT_ ?_
      refine pu_ (i:=7) (N:=some 28) (bt_ 39 255) HT_ ?_
      refine pu_ (i:=8) (N:=some 29) (bt_ 39 511) HT_ ?_
      refine pu_ (i:=9) (N:=some 30) (bt_ 39 1023) HT_ ?_
      refine pu_ (i:=12) (N:=some 33) (bt_ 39 5119) HT_ ?_
      refine tk_ (i:=10) (N:=some 31) (bt_ 39 6143) HT_ HW_ hHeld ?_
      refine on_ (i:=11) (N:=some 32) (bt_ 39 8191) HT_ (fun K hK=> ?_)
      refine gs_ Try.func28 #[.slice (some ad1) l0.length c0, .string ((rd_T39 x3_1 x6_2).f0)] ?_
      with_reducible refine (r10_Depth.calls k2 _ _ l0 ((rd_T39 x3_1 x6_2).f0) t4 _ ?side1 ?side2 A7.out).mono ?_
      (case side1=>exact zc_ (Kd.C_below HR0.out HB.out))
      (case side2=>exact HC0.out)
      rintro e w' ⟨rfl,⟨nd,rfl⟩⟩
      refine ⟨_,rfl, ?_⟩
      refine hK.out _ _ ⟨hHeld.1,hHeld.2.1,hHeld.2.2.1,hHeld.2.2.2.1,hHeld.2.2.2.2.1,hHeld.2.2.2.2.2.1,hHeld.2.2.2.2.2.2.1,hHeld.2.2.2.2.2.2.2.1,hHeld.2.2.2.2.2.2.2.2.1,hHeld.2.2.2.2.2.2.2.2.2.1,hHeld.2.2.2.2.2.2.2.2.2.2.1,hHeld.2.2.2.2.2.2.2.2.2.2.2.1,hHeld.2.2.2.2.2.2.2.2.2.2.2.2.1,hHeld.2.2.2.2.2.2.2.2.2.2.2.2.2.1,hHeld.2.2.2.2.2.2.2.2.2.2.2.2.2.2.1,(zx_ HB hw8_0:),(zx_ HB hw8_1:),(zx_ HB hw8_2:),(zx_ HB hw8_3:),(zx_ HB hw8_4:)⟩ (fun hHeld=> ?_)
      clear hK K
      refine no_ (N:=some 32) ?_
      refine pu_ (i:=13) (N:=some 34) (bt_ 39 16383) HT_ ?_
      refine pu_ (i:=14) (N:=some 35) (bt_ 39 32767) HT_ ?_
      refine pu_ (i:=15) (N:=some 36) (bt_ 39 65535) HT_ ?_
      refine pu_ (i:=16) (N:=some 37) (bt_ 39 131071) HT_ ?_
      refine pu_ (i:=17) (N:=some 38) (bt_ 39 262143) HT_ ?_
      refine pu_ (i:=18) (N:=some 39) (bt_ 39 524287) HT_ ?_
      refine pu_ (i:=19) (N:=some 40) (bt_ 39 1048575) HT_ ?_
      refine pu_ (i:=22) (N:=some 43) (bt_ 39 5242879) HT_ ?_
      refine tk_ (i:=20) (N:=some 41) (bt_ 39 6291455) HT_ HW_ hHeld ?_
      refine on_ (i:=21) (N:=some 42) (bt_ 39 8388607) HT_ (fun K hK=> ?_)
      refine gs_ Try.func28 #[.slice (some ad1) l0.length c0, .string ((rd_T39 x3_1 x6_2).f0)] ?_
      with_reducible refine (r10_Depth.calls k2 _ _ l0 ((rd_T39 x3_1 x6_2).f0) t4 _ ?side1 ?side2 A11.out).mono ?_
      (case side1=>repeat (first|exact (Kd.C_below HR0.out (zl0_ HB))|(with_reducible refine Kd.C_alloc ?_ _)|(with_reducible refine Kd.C_drewN ?_ _)|(with_reducible refine Kd.C_drew ?_)))
      (case side2=>exact HC0.out)
      rintro e w' ⟨rfl,⟨nd,rfl⟩⟩
      refine ⟨_,rfl, ?_⟩
      refine hK.out _ _ ⟨hHeld.1,hHeld.2.1,hHeld.2.2.1,hHeld.2.2.2.1,hHeld.2.2.2.2.1,hHeld.2.2.2.2.2.1,hHeld.2.2.2.2.2.2.1,hHeld.2.2.2.2.2.2.2.1,hHeld.2.2.2.2.2.2.2.2.1,hHeld.2.2.2.2.2.2.2.2.2.1,hHeld.2.2.2.2.2.2.2.2.2.2.1,hHeld.2.2.2.2.2.2.2.2.2.2.2.1,hHeld.2.2.2.2.2.2.2.2.2.2.2.2.1,hHeld.2.2.2.2.2.2.2.2.2.2.2.2.2.1,hHeld.2.2.2.2.2.2.2.2.2.2.2.2.2.2.1,(zx_ HB hw8_0:),(zx_ HB hw8_1:),(zx_ HB hw8_2:),(zx_ HB hw8_3:),(zx_ HB hw8_4:)⟩ (fun hHeld=> ?_)
      clear hK K
      refine no_ (N:=some 42) ?_
      refine pu_ (i:=23) (N:=some 44) (bt_ 39 16777215) HT_ ?_
      refine pu_ (i:=24) (N:=some 45) (bt_ 39 33554431) HT_ ?_
      refine pu_ (i:=25) (N:=some 46) (bt_ 39 67108863) HT_ ?_
      refine pu_ (i:=26) (N:=some 47) (bt_ 39 134217727) HT_ ?_
      refine pu_ (i:=27) (N:=some 48) (bt_ 39 268435455) HT_ ?_
      refine pu_ (i:=28) (N:=some 49) (bt_ 39 536870911) HT_ ?_
      refine pu_ (i:=30) (N:=some 51) (bt_ 39 1610612735) HT_ ?_
      refine pu_ (i:=31) (N:=some 52) (bt_ 39 3758096383) HT_ ?_
      refine pu_ (i:=32) (N:=some 53) (bt_ 39 8053063679) HT_ ?_
      refine pu_ (i:=33) (N:=some 54) (bt_ 39 16642998271) HT_ ?_
      refine tk_ (i:=29) (N:=some 50) (bt_ 39 17179869183) HT_ HW_ hHeld ?_
      refine tk_ (i:=34) (N:=some 55) (bt_ 39 34359738367) HT_ HW_ hHeld ?_
      refine pu_ (i:=35) (N:=some 56) (bt_ 39 68719476735) HT_ ?_
      refine pu_ (i:=36) (N:=some 57) (bt_ 39 137438953471) HT_ ?_
      refine pu_ (i:=37) (N:=some 58) (bt_ 39 274877906943) HT_ ?_
      refine pu_ (i:=38) (N:=some 59) (bt_ 39 549755813887) HT_ ?_
      refine done_ (done_of HT_.out (by kernel_rfl)) ?_
      try go_wp2
      go_roundg k2
      case measure=>have:=HK1.out;have:=HK2.out;omega
      case rel=>exact ⟨(wrap64 (x6_2+1)),(by first|rfl|(simp;done)|(simp [*];done)),H',⟨by have:=HK1.out;have:=HK2.out;omega⟩,⟨by (with_reducible repeat (first|apply Kd.R_alloc|apply Kd.R_drewN|apply Kd.R_drew));exact HO_3.out⟩,⟨zl0_ HB⟩⟩
     rw [if_neg c15] at H
     have c15b0:(Op.bytesLess (((rd_T39 x3_1 x6_2).f0).toList) (((rd_T39 l0 x4_1).f0).toList))=false:=by simpa using c15
     clear c15
     obtain ⟨y9,hy9⟩: ∃y_:List (S39),y_=(([]:List (S39))):=⟨_,rfl⟩
     replace H:(if x6_2≤(x3_1.length:Int) then ((some (x3_1.take (x6_2:Int).toNat:List (S39))).bind fun y12=>(if y9.length+y12.length<2513169434916 then ((some (y9++y12:List (S39))).bind fun y16=>(if y16.length<2513169434916 then ((some (y16++ [(⟨(rd_T39 l0 x4_1).f0,(rd_T39 l0 x4_1).f1,(⟨(rd_T39 l0 x4_1).f2.f0,(rd_T39 l0 x4_1).f2.f1,(rd_T39 l0 x4_1).f2.f2⟩:S37)⟩:S39)]:List (S39))).bind fun y20=>((some (x3_1.drop (x6_2:Int).toNat:List (S39))).bind fun y23=>(if y20.length+y23.length<2513169434916 then (r10_Top.l0 k2 l0 (y20++y23) (wrap64 (x4_1+1))) else (none)))) else (none))) else (none))) else (none))=some r:=by first|(rw [hy9];with_reducible exact H)|(have H2_:=(Option.bind_some _ _).symm.trans H;rw [hy9];with_reducible exact H2_)|(have H2_:=(Option.bind_some _ _).symm.trans H;with_reducible exact H2_)|with_reducible exact H|(rw [hy9];exact H)|exact H
     have Ny9:=Aside0.mk hy9
     clear hy9
     have c18b0:=eq_true (of_decide_eq_true zq_:0≤x6_2)
     by_cases c19:x6_2≤(x3_1.length:Int)
     rotate_left
     ·rw [if_neg c19] at H
      exact absurd H (by simp)
     rw [if_pos c19] at H
     have c19b1:decide (x6_2≤(x3_1.length:Int))=true:=decide_eq_true c19
     clear c19
     obtain ⟨y12,hy12⟩: ∃y_:List (S39),y_=(x3_1.take (x6_2:Int).toNat):=⟨_,rfl⟩
     replace H:(if y9.length+y12.length<2513169434916 then ((some (y9++y12:List (S39))).bind fun y16=>(if y16.length<2513169434916 then ((some (y16++ [(⟨(rd_T39 l0 x4_1).f0,(rd_T39 l0 x4_1).f1,(⟨(rd_T39 l0 x4_1).f2.f0,(rd_T39 l0 x4_1).f2.f1,(rd_T39 l0 x4_1).f2.f2⟩:S37)⟩:S39)]:List (S39))).bind fun y20=>((some (x3_1.drop (x6_2:Int).toNat:List (S39))).bind fun y23=>(if y20.length+y23.length<2513169434916 then (r10_Top.l0 k2 l0 (y20++y23) (wrap64 (x4_1+1))) else (none)))) else (none))) else (none))=some r:=by first|(rw [hy12];with_reducible exact H)|(have H2_:=(Option.bind_some _ _).symm.trans H;rw [hy12];with_reducible exact H2_)|(have H2_:=(Option.bind_some _ _).symm.trans H;with_reducible exact H2_)|with_reducible exact H|(rw [hy12];exact H)|exact H
     have Ny12:=Aside0.mk hy12
     clear hy12
     by_cases c20:y9.length+y12.length<2513169434916
     rotate_left
     ·rw [if_neg c20] at H
      exact absurd H (by simp)
     rw [if_pos c20] at H
     have LMc20:=Aside0.mk c20
     clear c20
     obtain ⟨y16,hy16⟩: ∃y_:List (S39),y_=(y9++y12):=⟨_,rfl⟩
     replace H:(if y16.length<2513169434916 then ((some (y16++ [(⟨(rd_T39 l0 x4_1).f0,(rd_T39 l0 x4_1).f1,(⟨(rd_T39 l0 x4_1).f2.f0,(rd_T39 l0 x4_1).f2.f1,(rd_T39 l0 x4_1).f2.f2⟩:S37)⟩:S39)]:List (S39))).bind fun y20=>((some (x3_1.drop (x6_2:Int).toNat:List (S39))).bind fun y23=>(if y20.length+y23.length<2513169434916 then (r10_Top.l0 k2 l0 (y20++y23) (wrap64 (x4_1+1))) else (none)))) else (none))=some r:=by first|(rw [hy16];with_reducible exact H)|(have H2_:=(Option.bind_some _ _).symm.trans H;rw [hy16];with_reducible exact H2_)|(have H2_:=(Option.bind_some _ _).symm.trans H;with_reducible exact H2_)|with_reducible exact H|(rw [hy16];exact H)|exact H
     have Ny16:=Aside0.mk hy16
     clear hy16
     by_cases c21:y16.length<2513169434916
     rotate_left
     ·rw [if_neg c21] at H
      exact absurd H (by simp)
     rw [if_pos c21] at H
     have LMc21:=Aside0.mk c21
     clear c21
     obtain ⟨y20,hy20⟩: ∃y_:List (S39),y_=(y16++ [(⟨(rd_T39 l0 x4_1).f0,(rd_T39 l0 x4_1).f1,(⟨(rd_T39 l0 x4_1).f2.f0,(rd_T39 l0 x4_1).f2.f1,(rd_T39 l0 x4_1).f2.f2⟩:S37)⟩:S39)]):=⟨_,rfl⟩
     replace H:((some (x3_1.drop (x6_2:Int).toNat:List (S39))).bind fun y23=>(if y20.length+y23.length<2513169434916 then (r10_Top.l0 k2 l0 (y20++y23) (wrap64 (x4_1+1))) else (none)))=some r:=by first|(rw [hy20];with_reducible exact H)|(have H2_:=(Option.bind_some _ _).symm.trans H;rw [hy20];with_reducible exact H2_)|(have H2_:=(Option.bind_some _ _).symm.trans H;with_reducible exact H2_)|with_reducible exact H|(rw [hy20];exact H)|exact H
     have Ny20:=Aside0.mk hy20
     clear hy20
     obtain ⟨y23,hy23⟩: ∃y_:List (S39),y_=(x3_1.drop (x6_2:Int).toNat):=⟨_,rfl⟩
     replace H:(if y20.length+y23.length<2513169434916 then (r10_Top.l0 k2 l0 (y20++y23) (wrap64 (x4_1+1))) else (none))=some r:=by first|(rw [hy23];with_reducible exact H)|(have H2_:=(Option.bind_some _ _).symm.trans H;rw [hy23];with_reducible exact H2_)|(have H2_:=(Option.bind_some _ _).symm.trans H;with_reducible exact H2_)|with_reducible exact H|(rw [hy23];exact H)|exact H
     have Ny23:=Aside0.mk hy23
     clear hy23
     by_cases c24:y20.length+y23.length<2513169434916
     rotate_left
     ·rw [if_neg c24] at H
      exact absurd H (by simp)
     rw [if_pos c24] at H
     have LMc24:=Aside0.mk c24
     clear c24
     obtain ⟨y27,hy27⟩: ∃y_:List (S39),y_=(y20++y23):=⟨_,rfl⟩
     replace H:(r10_Top.l0 k2 l0 y27 (wrap64 (x4_1+1)))=some r:=by first|(rw [hy27];with_reducible exact H)|(have H2_:=(Option.bind_some _ _).symm.trans H;rw [hy27];with_reducible exact H2_)|(have H2_:=(Option.bind_some _ _).symm.trans H;with_reducible exact H2_)|with_reducible exact H|(rw [hy27];exact H)|exact H
     have Ny27:=Aside0.mk hy27
     clear hy27
     have H':=Aside0.mk H
     clear H
     try go_wp2
     replace HO_3:=am_ (Kd.R_drew HO_3.out)
     replace HB:=am_ (below_drew1 HB.out)
     obtain ⟨Ao26,co26,eo26⟩:=Kd.R_slice HO_3.out
     (first|subst eo26|(injection eo26 with f1_ f2_ f3_;have f4_:=f1_.symm;have f5_:=f3_.symm;clear f1_ f2_ f3_;subst f4_;subst f5_))
     have p3:0≤(x6_2:Int):=of_decide_eq_true zq_
     have q3:x6_2<(x3_1.length:Int):=of_decide_eq_true zq_
     obtain ⟨ad3,e3,hx3_0,hx3_1,hx3_2,hx3_3,hx3_4⟩:=at_T39 (Kd.R_reads' HO_3.out).2.2 x6_2 p3 q3
     cases e3
     replace p3:=eq_true p3
     replace q3:=eq_true q3
     have p5:0≤(x6_2:Int):=of_decide_eq_true zq_
     have q5:x6_2<(x3_1.length:Int):=of_decide_eq_true zq_
     obtain ⟨ad5,e5,hx5_0,hx5_1,hx5_2,hx5_3,hx5_4⟩:=at_T39 (Kd.R_reads' HO_3.out).2.2 x6_2 p5 q5
     obtain rfl:ad3=ad5:=(by injection e5)
     replace p5:=eq_true p5
     replace q5:=eq_true q5
     have p7:0≤(x6_2:Int):=of_decide_eq_true zq_
     have q7:x6_2<(x3_1.length:Int):=of_decide_eq_true zq_
     obtain ⟨ad7,e7,hx7_0,hx7_1,hx7_2,hx7_3,hx7_4⟩:=at_T39 (Kd.R_reads' HO_3.out).2.2 x6_2 p7 q7
     obtain rfl:ad3=ad7:=(by injection e7)
     replace p7:=eq_true p7
     replace q7:=eq_true q7
     have p8:0≤(x4_1:Int):=of_decide_eq_true zq_
     have q8:x4_1<(l0.length:Int):=of_decide_eq_true zq_
     obtain ⟨ad8,e8,hx8_0,hx8_1,hx8_2,hx8_3,hx8_4⟩:=at_T39 HR0.out x4_1 p8 q8
     have hw8_4:=hx8_4
     have hw8_3:=hx8_3
     have hw8_2:=hx8_2
     have hw8_1:=hx8_1
     have hw8_0:=hx8_0
     obtain rfl:ad1=ad8:=(by injection e8)
     replace hx8_0:=zx_ HB hx8_0
     replace hx8_1:=zx_ HB hx8_1
     replace hx8_2:=zx_ HB hx8_2
     replace hx8_3:=zx_ HB hx8_3
     replace hx8_4:=zx_ HB hx8_4
     replace p8:=eq_true p8
     replace q8:=eq_true q8
     refine start_ (n:=39) (S:=fun w'=>w'.cell? (ad3.add ((x6_2).toNat*5))=some (.string ((rd_T39 x3_1 x6_2).f0))∧w'.cell? ⟨(ad3.add ((x6_2).toNat*5)).block,(ad3.add ((x6_2).toNat*5)).off+1,none⟩=some (.string ((rd_T39 x3_1 x6_2).f1))∧w'.cell? ⟨(ad3.add ((x6_2).toNat*5)).block,(ad3.add ((x6_2).toNat*5)).off+2,none⟩=some (.int .i64 ((rd_T39 x3_1 x6_2).f2.f0))∧w'.cell? ⟨(ad3.add ((x6_2).toNat*5)).block,(ad3.add ((x6_2).toNat*5)).off+3,none⟩=some (.int .i64 ((rd_T39 x3_1 x6_2).f2.f1))∧w'.cell? ⟨(ad3.add ((x6_2).toNat*5)).block,(ad3.add ((x6_2).toNat*5)).off+4,none⟩=some (.int .i64 ((rd_T39 x3_1 x6_2).f2.f2))∧w'.cell? (ad3.add ((x6_2).toNat*5))=some (.string ((rd_T39 x3_1 x6_2).f0))∧w'.cell? ⟨(ad3.add ((x6_2).toNat*5)).block,(ad3.add ((x6_2).toNat*5)).off+1,none⟩=some (.string ((rd_T39 x3_1 x6_2).f1))∧w'.cell? ⟨(ad3.add ((x6_2).toNat*5)).block,(ad3.add ((x6_2).toNat*5)).off+2,none⟩=some (.int .i64 ((rd_T39 x3_1 x6_2).f2.f0))∧w'.cell? ⟨(ad3.add ((x6_2).toNat*5)).block,(ad3.add ((x6_2).toNat*5)).off+3,none⟩=some (.int .i64 ((rd_T39 x3_1 x6_2).f2.f1))∧w'.cell? ⟨(ad3.add ((x6_2).toNat*5)).block,(ad3.add ((x6_2).toNat*5)).off+4,none⟩=some (.int .i64 ((rd_T39 x3_1 x6_2).f2.f2))∧w'.cell? (ad3.add ((x6_2).toNat*5))=some (.string ((rd_T39 x3_1 x6_2).f0))∧w'.cell? ⟨(ad3.add ((x6_2).toNat*5)).block,(ad3.add ((x6_2).toNat*5)).off+1,none⟩=some (.string ((rd_T39 x3_1 x6_2).f1))∧w'.cell? ⟨(ad3.add ((x6_2).toNat*5)).block,(ad3.add ((x6_2).toNat*5)).off+2,none⟩=some (.int .i64 ((rd_T39 x3_1 x6_2).f2.f0))∧w'.cell? ⟨(ad3.add ((x6_2).toNat*5)).block,(ad3.add ((x6_2).toNat*5)).off+3,none⟩=some (.int .i64 ((rd_T39 x3_1 x6_2).f2.f1))∧w'.cell? ⟨(ad3.add ((x6_2).toNat*5)).block,(ad3.add ((x6_2).toNat*5)).off+4,none⟩=some (.int .i64 ((rd_T39 x3_1 x6_2).f2.f2))∧w'.cell? (ad1.add ((x4_1).toNat*5))=some (.string ((rd_T39 l0 x4_1).f0))∧w'.cell? ⟨(ad1.add ((x4_1).toNat*5)).block,(ad1.add ((x4_1).toNat*5)).off+1,none⟩=some (.string ((rd_T39 l0 x4_1).f1))∧w'.cell? ⟨(ad1.add ((x4_1).toNat*5)).block,(ad1.add ((x4_1).toNat*5)).off+2,none⟩=some (.int .i64 ((rd_T39 l0 x4_1).f2.f0))∧w'.cell? ⟨(ad1.add ((x4_1).toNat*5)).block,(ad1.add ((x4_1).toNat*5)).off+3,none⟩=some (.int .i64 ((rd_T39 l0 x4_1).f2.f1))∧w'.cell? ⟨(ad1.add ((x4_1).toNat*5)).block,(ad1.add ((x4_1).toNat*5)).off+4,none⟩=some (.int .i64 ((rd_T39 l0 x4_1).f2.f2))) (ds:=[]) (bt_ 39 0) (by kernel_rfl) rfl rfl ⟨hx3_0,hx3_1,hx3_2,hx3_3,hx3_4,hx5_0,hx5_1,hx5_2,hx5_3,hx5_4,hx7_0,hx7_1,hx7_2,hx7_3,hx7_4,(zx_ HB hw8_0:),(zx_ HB hw8_1:),(zx_ HB hw8_2:),(zx_ HB hw8_3:),(zx_ HB hw8_4:)⟩ (fun hHeld=> ?_);refine with_tabW r10_Top.tab7 r10_Top.bits7 (fun HT_ HW_=> ?_)
     generalize wr.drew=w25 at HO_3 HB hx3_0 hx3_1 hx3_2 hx3_3 hx3_4 hx5_0 hx5_1 hx5_2 hx5_3 hx5_4 hx7_0 hx7_1 hx7_2 hx7_3 hx7_4 hx8_0 hx8_1 hx8_2 hx8_3 hx8_4 hHeld ⊢
     refine pu_ (i:=0) (N:=some 21) (bt_ 39 1) HT_ ?_
     refine pu_ (i:=1) (N:=some 22) (bt_ 39 3) HT_ ?_
     refine pu_ (i:=2) (N:=some 23) (bt_ 39 7) HT_ ?_
     refine pu_ (i:=3) (N:=some 24) (bt_ 39 15) HT_ ?_
     refine pu_ (i:=4) (N:=some 25) (bt_ 39 31) HT_ ?_
     refine pu_ (i:=5) (N:=some 26) (bt_ 39 63) HT_ ?_
     refine pu_ (i:=6) (N:=some 27) (bt_ 39 127) HT_ ?_
     refine pu_ (i:=7) (N:=some 28) (bt_ 39 255) HT_ ?_
     refine pu_ (i:=8) (N:=some 29) (bt_ 39 511) HT_ ?_
     refine pu_ (i:=9) (N:=some 30) (bt_ 39 1023) HT_ ?_
     refine pu_ (i:=12) (N:=some 33) (bt_ 39 5119) HT_ ?_
     refine tk_ (i:=10) (N:=some 31) (bt_ 39 6143) HT_ HW_ hHeld ?_
     refine on_ (i:=11) (N:=some 32) (bt_ 39 8191) HT_ (fun K hK=> ?_)
     refine gs_ Try.func28 #[.slice (some ad1) l0.length c0, .string ((rd_T39 x3_1 x6_2).f0)] ?_
     with_reducible refine (r10_Depth.calls k2 _ _ l0 ((rd_T39 x3_1 x6_2).f0) t4 _ ?side1 ?side2 A7.out).mono ?_
     (case side1=>exact zc_ (Kd.C_below HR0.out HB.out))
     (case side2=>exact HC0.out)
     rintro e w' ⟨rfl,⟨nd,rfl⟩⟩
     refine ⟨_,rfl, ?_⟩
     refine hK.out _ _ ⟨hHeld.1,hHeld.2.1,hHeld.2.2.1,hHeld.2.2.2.1,hHeld.2.2.2.2.1,hHeld.2.2.2.2.2.1,hHeld.2.2.2.2.2.2.1,hHeld.2.2.2.2.2.2.2.1,hHeld.2.2.2.2.2.2.2.2.1,hHeld.2.2.2.2.2.2.2.2.2.1,hHeld.2.2.2.2.2.2.2.2.2.2.1,hHeld.2.2.2.2.2.2.2.2.2.2.2.1,hHeld.2.2.2.2.2.2.2.2.2.2.2.2.1,hHeld.2.2.2.2.2.2.2.2.2.2.2.2.2.1,hHeld.2.2.2.2.2.2.2.2.2.2.2.2.2.2.1,(zx_ HB hw8_0:),(zx_ HB hw8_1:),(zx_ HB hw8_2:),(zx_ HB hw8_3:),(zx_ HB hw8_4:)⟩ (fun hHeld=> ?_)
     clear hK K
     refine no_ (N:=some 32) ?_
     refine pu_ (i:=13) (N:=some 34) (bt_ 39 16383) HT_ ?_
     refine pu_ (i:=14) (N:=some 35) (bt_ 39 32767) HT_ ?_
     refine pu_ (i:=15) (N:=some 36) (bt_ 39 65535) HT_ ?_
     refine pu_ (i:=16) (N:=some 37) (bt_ 39 131071) HT_ ?_
     refine pu_ (i:=17) (N:=some 38) (bt_ 39 262143) HT_ ?_
     refine pu_ (i:=18) (N:=some 39) (bt_ 39 524287) HT_ ?_
     refine pu_ (i:=19) (N:=some 40) (bt_ 39 1048575) HT_ ?_
     refine pu_ (i:=22) (N:=some 43) (bt_ 39 5242879) HT_ ?_
     refine tk_ (i:=20) (N:=some 41) (bt_ 39 6291455) HT_ HW_ hHeld ?_
     refine on_ (i:=21) (N:=some 42) (bt_ 39 8388607) HT_ (fun K hK=> ?_)
     refine gs_ Try.func28 #[.slice (some ad1) l0.length c0, .string ((rd_T39 x3_1 x6_2).f0)] ?_
     with_reducible refine (r10_Depth.calls k2 _ _ l0 ((rd_T39 x3_1 x6_2).f0) t4 _ ?side1 ?side2 A11.out).mono ?_
     (case side1=>repeat (first|exact (Kd.C_below HR0.out (zl0_ HB))|(with_reducible refine Kd.C_alloc ?_ _)|(with_reducible refine Kd.C_drewN ?_ _)|(with_reducible refine Kd.C_drew ?_)))
     (case side2=>exact HC0.out)
     rintro e w' ⟨rfl,⟨nd,rfl⟩⟩
     refine ⟨_,rfl, ?_⟩
     refine hK.out _ _ ⟨hHeld.1,hHeld.2.1,hHeld.2.2.1,hHeld.2.2.2.1,hHeld.2.2.2.2.1,hHeld.2.2.2.2.2.1,hHeld.2.2.2.2.2.2.1,hHeld.2.2.2.2.2.2.2.1,hHeld.2.2.2.2.2.2.2.2.1,hHeld.2.2.2.2.2.2.2.2.2.1,hHeld.2.2.2.2.2.2.2.2.2.2.1,hHeld.2.2.2.2.2.2.2.2.2.2.2.1,hHeld.2.2.2.2.2.2.2.2.2.2.2.2.1,hHeld.2.2.2.2.2.2.2.2.2.2.2.2.2.1,hHeld.2.2.2.2.2.2.2.2.2.2.2.2.2.2.1,(zx_ HB hw8_0:),(zx_ HB hw8_1:),(zx_ HB hw8_2:),(zx_ HB hw8_3:),(zx_ HB hw8_4:)⟩ (fun hHeld=> ?_)
     clear hK K
     refine no_ (N:=some 42) ?_
     refine pu_ (i:=23) (N:=some 44) (bt_ 39 16777215) HT_ ?_
     refine pu_ (i:=24) (N:=some 45) (bt_ 39 33554431) HT_ ?_
     refine pu_ (i:=25) (N:=some 46) (bt_ 39 67108863) HT_ ?_
     refine pu_ (i:=26) (N:=some 47) (bt_ 39 134217727) HT_ ?_
     refine pu_ (i:=27) (N:=some 48) (bt_ 39 268435455) HT_ ?_
     refine pu_ (i:=28) (N:=some 49) (bt_ 39 536870911) HT_ ?_
     refine pu_ (i:=30) (N:=some 51) (bt_ 39 1610612735) HT_ ?_
     refine pu_ (i:=31) (N:=some 52) (bt_ 39 3758096383) HT_ ?_
     refine pu_ (i:=32) (N:=some 53) (bt_ 39 8053063679) HT_ ?_
     refine pu_ (i:=33) (N:=some 54) (bt_ 39 16642998271) HT_ ?_
     refine tk_ (i:=29) (N:=some 50) (bt_ 39 17179869183) HT_ HW_ hHeld ?_
     refine tk_ (i:=34) (N:=some 55) (bt_ 39 34359738367) HT_ HW_ hHeld ?_
     refine pu_ (i:=35) (N:=some 56) (bt_ 39 68719476735) HT_ ?_
     refine pu_ (i:=36) (N:=some 57) (bt_ 39 137438953471) HT_ ?_
     refine pu_ (i:=37) (N:=some 58) (bt_ 39 274877906943) HT_ ?_
     refine pu_ (i:=38) (N:=some 59) (bt_ 39 549755813887) HT_ ?_
     refine done_ (done_of HT_.out (by kernel_rfl)) ?_
     try go_wp2_with (first|((with_reducible refine gate_dst (N:=62) rfl ?_);refine Kd.R_lit k39 _ 39 ?hg (N:=62) ?hd (xs:=([]:List (S39))) (inner:=[]) (ok:=fun _=>True) (okp:=fun _=>True) ?hr ?hp (fun _ hk=>hk) trivial (Below.refl _ _) (Nat.le_refl _) (by simp) ?_;(case hd=>rfl);(case hg=>rfl);(case hr=>first|(go_simp;done)|(go_simp;rfl));(case hp=>exact (Reps.none _ _));intro v10 w27 ho28 hb hg_ hnew_;clear hg_ hnew_;(first|rw [←Ny9.out] at ho28|(simp only [Int.reduceToNat] at ho28;rw [←Ny9.out] at ho28));have HO11:=am_ (Kd.R_lower (Kd.R_new' ho28 (Kd.R_lt (zr_ HO_3))) (below_size (zl0_ HB)));replace HO_3:=am_ (Kd.R_elder' (zr_ HO_3) (Kd.R_base ho28) hb);replace HB:=am_ (below_step (zl0_ HB) hb);clear hb ho28;have q29:(x6_2:Int)≤((x3_1.length:Int):Int):=of_decide_eq_true zq_;obtain ⟨i029,hi029,_,hsz29,_⟩:=info_parts info39;have hroom29:x3_1.length≤co26:=(Kd.R_reads' HO_3.out).2.1;have hC29:Kd.C k39 _ (some ad3) x3_1.length x3_1:=(Kd.R_reads' HO_3.out).2.2;have hcut29:=cut_to (P:=Try.prog) 22 39 .i64 Try.underlying22 hi029 (some ad3) x3_1.length co26 x6_2 (of_decide_eq_true zq_) q29 hroom29;have hr29:=Kd.C_take (m:=(x6_2:Int).toNat) hC29 (by omega);have hy29:y12.length=(x6_2:Int).toNat:=(by rw [Ny12.out,List.length_take];omega);rw [←Ny12.out] at hr29;rw [←hy29] at hcut29;have HR15:=Aside0.mk hr29;clear hr29 hC29 hroom29 hi029 hsz29;clear hy29;have KL29:=am_ (show (x6_2:Int).toNat≤x3_1.length from by omega);replace q29:=eq_true q29)|((with_reducible refine gate_builtin (b:= .append) (xs:=#[.tmp 62, .tmp 65]) rfl ?_);at_builtin;refine Kd.R_append_rows k39 (w0:=w) w.heap.size rfl (.tmp 62) (.tmp 65) 22 39 (.agg #[(.string ⟨#[]⟩),(.string ⟨#[]⟩),(.int .i64 0),(.int .i64 0),(.int .i64 0)]) 56 rfl Try.underlying22 info39 rfl (by decide) (by omega) v10 y9 y12 _ _ _ (fun k_=>some k_≠(.slice (some ad3) x3_1.length co26:Value).ownBlock) (fun _=>False) rfl rfl ?aO ?aR (fun _ _ h=>h) (fun _ h=>h.elim) ?aF ?aB ?aS ?aL ?_;(case aR=>repeat (first|exact (by repeat (first|(with_reducible exact HR15.out)|(with_reducible refine Kd.C_alloc ?_ _)|(with_reducible refine Kd.C_drewN ?_ _)|(with_reducible refine Kd.C_drew ?_)|exact HR15.out))|(with_reducible refine Kd.C_alloc ?_ _)|(with_reducible refine Kd.C_drewN ?_ _)|(with_reducible refine Kd.C_drew ?_)));(case aB=>exact (zl0_ HB));(case aF=>exact (fun k_ hk=>Kd.fresh' (Kd.R_lt (zr_ HO_3)) k_ hk));(case aO=>exact (by refine zt_ ?_;exact Kd.R_mono HO11.out (fun _ hk=>hk.2)));(case aS=>exact (below_size (zl0_ HB)));(case aL=>have:=LMc20.out;omega);intro v17 w30 ho hb hg hat;rw [←Ny16.out] at ho;have n0_:=am_ (Kd.R_after (ok:=(fun _=>True)) (zr_ HO_3) hg hat);have n1_:=am_ (hb);have n2_:=am_ ((show Kd.C k39 w30 (some ad3) y12.length y12 from by rw [Ny12.out];exact Kd.C_take (m:=(x6_2:Int).toNat) ((Kd.R_reads' (Kd.R_after (ok:=(fun _=>True)) (zr_ HO_3) hg hat)).2.2) KL29.out));have n3_:=am_ (ho);clear HO_3;clear HB;clear HR15;clear HO11;have HO_3:=n0_;have HB:=n1_;have HR15:=n2_;have HO18:=n3_;clear n0_ n1_ n2_ n3_;clear ho hb hg hat;have p19:0≤(x4_1:Int):=of_decide_eq_true zq_;have q19:x4_1<(l0.length:Int):=of_decide_eq_true zq_;obtain ⟨ad19,e19,hx19_0,hx19_1,hx19_2,hx19_3,hx19_4⟩:=at_T39 HR0.out x4_1 p19 q19;obtain rfl:ad1=ad19:=(by injection e19);replace hx19_0:=zx_ HB hx19_0;replace hx19_1:=zx_ HB hx19_1;replace hx19_2:=zx_ HB hx19_2;replace hx19_3:=zx_ HB hx19_3;replace hx19_4:=zx_ HB hx19_4;replace p19:=eq_true p19;replace q19:=eq_true q19)|((with_reducible refine gate_builtin (b:= .append) (xs:=#[.tmp 67, .tmp 72]) rfl ?_);at_builtin;refine Kd.R_append k39 (w0:=w) w.heap.size rfl (.tmp 67) (.tmp 72) 22 39 (.agg #[(.string ⟨#[]⟩),(.string ⟨#[]⟩),(.int .i64 0),(.int .i64 0),(.int .i64 0)]) 56 rfl Try.underlying22 info39 rfl (by decide) (by omega) v17 y16 (⟨(rd_T39 l0 x4_1).f0,(rd_T39 l0 x4_1).f1,(⟨(rd_T39 l0 x4_1).f2.f0,(rd_T39 l0 x4_1).f2.f1,(rd_T39 l0 x4_1).f2.f2⟩:S37)⟩:S39) [.string ((rd_T39 l0 x4_1).f0), .string ((rd_T39 l0 x4_1).f1), .int .i64 ((rd_T39 l0 x4_1).f2.f0), .int .i64 ((rd_T39 l0 x4_1).f2.f1), .int .i64 ((rd_T39 l0 x4_1).f2.f2)] (fun k_=>some k_≠(.slice (some ad3) x3_1.length co26:Value).ownBlock) (fun _=>False) rfl rfl ?aP (fun _ hk=>hk.elim) ?aF ?aO ?aB ?aS ?aL ?_;(case aP=>exact k39_mkM _ _ _ (⟨(rd_T39 l0 x4_1).f0,(rd_T39 l0 x4_1).f1,(⟨(rd_T39 l0 x4_1).f2.f0,(rd_T39 l0 x4_1).f2.f1,(rd_T39 l0 x4_1).f2.f2⟩:S37)⟩:S39));(case aB=>exact (zl0_ HB));(case aF=>exact (fun k_ hk=>Kd.fresh' (Kd.R_lt (zr_ HO_3)) k_ hk));(case aO=>exact (zr_ HO18));(case aS=>exact (below_size (zl0_ HB)));(case aL=>have:=LMc21.out;omega);intro v21 w31 ho hb hg hat;rw [←Ny20.out] at ho;have n0_:=am_ (Kd.R_after (ok:=(fun _=>True)) (zr_ HO_3) hg hat);have n1_:=am_ (hb);have n2_:=am_ ((show Kd.C k39 w31 (some ad3) y12.length y12 from by rw [Ny12.out];exact Kd.C_take (m:=(x6_2:Int).toNat) ((Kd.R_reads' (Kd.R_after (ok:=(fun _=>True)) (zr_ HO_3) hg hat)).2.2) KL29.out));have n3_:=am_ (ho);clear HO_3;clear HB;clear HR15;clear HO18;have HO_3:=n0_;have HB:=n1_;have HR15:=n2_;have HO22:=n3_;clear n0_ n1_ n2_ n3_;clear ho hb hg hat;have q32:(x6_2:Int)≤((x3_1.length:Int):Int):=of_decide_eq_true zq_;obtain ⟨i032,hi032,_,hsz32,_⟩:=info_parts info39;have hroom32:x3_1.length≤co26:=(Kd.R_reads' HO_3.out).2.1;have hC32:Kd.C k39 _ (some ad3) x3_1.length x3_1:=(Kd.R_reads' HO_3.out).2.2;have q032:(0:Int)≤(x6_2:Int):=of_decide_eq_true zq_;have hcut32:=cut_from (P:=Try.prog) 22 39 .i64 Try.underlying22 hi032 5 hsz32 (some ad3) x3_1.length co26 x6_2 q032 q32;have hr32:=Kd.C_drop (m:=(x6_2:Int).toNat) (c:=co26) hC32 (by omega) hroom32;obtain ⟨A32,hA32⟩: ∃A1,A1=(if co26=(x6_2:Int).toNat then (some ad3) else ((some ad3):Option Addr).map (·.add ((x6_2:Int).toNat*5))):=⟨_,rfl⟩;obtain ⟨c32,hc32⟩: ∃c1,c1=co26 - (x6_2:Int).toNat:=⟨_,rfl⟩;have hy32:y23.length=x3_1.length - (x6_2:Int).toNat:=(by rw [Ny23.out,List.length_drop]<;>omega);rw [show (x3_1).drop (x6_2:Int).toNat=y23 from Ny23.out.symm] at hr32;replace hr32:Kd.C k39 _ A32 y23.length y23:=(by rw [hA32];exact hr32);rw [←hy32,←hA32,←hc32] at hcut32;have HR26:=Aside0.mk hr32;clear hr32 hC32 hroom32 hi032 hsz32 hc32;have KA32:=Aside0.mk hA32;clear hy32 hA32;have KL32:=am_ (show (x6_2:Int).toNat≤x3_1.length from by omega);replace q32:=eq_true q32)|((with_reducible refine gate_builtin (b:= .append) (xs:=#[.tmp 74, .tmp 77]) rfl ?_);at_builtin;refine Kd.R_append_rows k39 (w0:=w) w.heap.size rfl (.tmp 74) (.tmp 77) 22 39 (.agg #[(.string ⟨#[]⟩),(.string ⟨#[]⟩),(.int .i64 0),(.int .i64 0),(.int .i64 0)]) 56 rfl Try.underlying22 info39 rfl (by decide) (by omega) v21 y20 y23 _ _ _ (fun k_=>some k_≠(.slice (some ad3) x3_1.length co26:Value).ownBlock) (fun _=>False) rfl rfl ?aO ?aR (fun _ _ h=>h) (fun _ h=>h.elim) ?aF ?aB ?aS ?aL ?_;(case aR=>repeat (first|exact (by repeat (first|(with_reducible exact HR26.out)|(with_reducible refine Kd.C_alloc ?_ _)|(with_reducible refine Kd.C_drewN ?_ _)|(with_reducible refine Kd.C_drew ?_)|exact HR26.out))|(with_reducible refine Kd.C_alloc ?_ _)|(with_reducible refine Kd.C_drewN ?_ _)|(with_reducible refine Kd.C_drew ?_)));(case aB=>exact (zl0_ HB));(case aF=>exact (fun k_ hk=>Kd.fresh' (Kd.R_lt (zr_ HO_3)) k_ hk));(case aO=>exact (zr_ HO22));(case aS=>exact (below_size (zl0_ HB)));(case aL=>have:=LMc24.out;omega);intro v28 w33 ho hb hg hat;rw [←Ny27.out] at ho;have n0_:=am_ (Kd.R_after (ok:=(fun _=>True)) (zr_ HO_3) hg hat);have n1_:=am_ (hb);have n2_:=am_ ((show Kd.C k39 w33 (some ad3) y12.length y12 from by rw [Ny12.out];exact Kd.C_take (m:=(x6_2:Int).toNat) ((Kd.R_reads' (Kd.R_after (ok:=(fun _=>True)) (zr_ HO_3) hg hat)).2.2) KL29.out));have n3_:=am_ ((show Kd.C k39 w33 A32 y23.length y23 from by rw [Ny23.out,KA32.out];exact Kd.C_drop (m:=(x6_2:Int).toNat) (c:=co26) ((Kd.R_reads' (Kd.R_after (ok:=(fun _=>True)) (zr_ HO_3) hg hat)).2.2) KL32.out ((Kd.R_reads' (Kd.R_after (ok:=(fun _=>True)) (zr_ HO_3) hg hat)).2.1)));have n4_:=am_ (ho);clear HO_3;clear HB;clear HR15;clear HR26;clear HO22;have HO_3:=n0_;have HB:=n1_;have HR15:=n2_;have HR26:=n3_;have HO29:=n4_;clear n0_ n1_ n2_ n3_ n4_;clear ho hb hg hat))
     go_roundg k2
     case measure=>have:=HK1.out;have:=HK2.out;omega
     case rel=>exact ⟨(y27),(wrap64 (x4_1+1)),(by first|rfl|(simp;done)|(simp [*];done)),H',⟨by have:=HK1.out;have:=HK2.out;omega⟩,⟨by (with_reducible repeat (first|apply Kd.R_alloc|apply Kd.R_drewN|apply Kd.R_drew));exact Kd.R_mono HO29.out (fun _ hk=>trivial)⟩,⟨zl0_ HB⟩⟩
def fidx {α:Type} (p:α→Bool):List α→Int→Int
 |[],_=> -1
 |x::l,i=>if p x=true then i else fidx p l (i+1)
theorem fidx_drop {α:Type} (p:α→Bool) (z:α) (l:List α) (i:Nat) (h:i<l.length):fidx p (l.drop i) i=if p (l.getD i z)=true then (i:Int) else fidx p (l.drop (i+1)) ((i+1:Nat):Int):=by
 rw [List.drop_eq_getElem_cons h,List.getD_eq_getElem?_getD,List.getElem?_eq_getElem h]
 rfl
def itemCells (x:S79):Array Value:=#[.string x.f0, .string x.f1, .int .i64 x.f2.f0, .int .i64 x.f2.f1, .int .i64 x.f2.f2, .int .i64 x.f3.f0, .int .i64 x.f3.f1, .int .i64 x.f3.f2, .int .i64 x.f4.f0, .int .i64 x.f4.f1, .int .i64 x.f4.f2, .int .i64 x.f5]
set_option maxHeartbeats 1000000 in
set_option maxRecDepth 100000 in
theorem idxItem_calls (g:Nat) (lb:Array Value) (p:S79→Bool) (eg: ∀args w,(callFunc g args).run Try.prog w= .ok (.enter g args) w) (w:World)
    (hp: ∀W x,Below w.heap.size w W→Calls Try.prog g (#[.agg (itemCells x)]++lb) W fun e w'=>e= .returned (.bool (p x))∧Below W.heap.size W w')
    (A:Option Addr) (c:Nat) (l:List S79) (hr0:Kd.C k79 w A l.length l) (hc0:l.length≤c):
    Calls Try.prog 121 #[.slice A l.length c, .func (.func g) #[] lb] w fun e w'=>e= .returned (.int .i64 (fidx p l 0))∧Below w.heap.size w w':=by
  have hu79:=Try.underlying79
  have HR0:=Aside0.mk hr0
  have HP:=Aside0.mk hp
  have HEG:=Aside0.mk eg
  have hm:l.length≤9223372036854775807:=hr0.2.1
  clear hr0 hp eg
  go_enter Try.func121,Try.ntmps121
  go_wp2
  go_loopg [5,8] l.length (fun kq s5 s8 wr=> ∃i:Nat,i≤l.length∧l.length - i≤kq∧s8= .int .i64 i∧Aside0 (Below w.heap.size w wr)∧Aside0 (fidx p l 0=fidx p (l.drop i) i))
  case atStart=>exact ⟨0,by omega,by omega,rfl,⟨Below.refl _ _⟩,⟨rfl⟩⟩
  case round=>
    obtain ⟨i,hi,hg,rfl,HB,HF⟩:=hrel
    by_cases hlt:i<l.length
    rotate_left
    · obtain rfl : i = l.length := by omega
      go_wp2
      go_ret
      refine ⟨?_,HB.out⟩
      rw [HF.out,List.drop_length]
      rfl


    have hltz:(i:Int)<(l.length:Int):=by omega
    obtain ⟨ad,e1,h0,h1,h2,h3,h4,h5,h6,h7,h8,h9,h10,h11⟩:=at_T79 HR0.out (i:Int) (by omega) (by omega)
    cases e1
    simp only [Int.toNat_natCast] at h0 h1 h2 h3 h4 h5 h6 h7 h8 h9 h10 h11
    replace h0:=zx_ HB h0
    replace h1:=zx_ HB h1
    replace h2:=zx_ HB h2
    replace h3:=zx_ HB h3
    replace h4:=zx_ HB h4
    replace h5:=zx_ HB h5
    replace h6:=zx_ HB h6
    replace h7:=zx_ HB h7
    replace h8:=zx_ HB h8
    replace h9:=zx_ HB h9
    replace h10:=zx_ HB h10
    replace h11:=zx_ HB h11
    have hd:Aside0 _:=⟨fidx_drop p z79 l i hlt⟩
    have HC:=am_ (HP.out wr (rd_T79 l i) HB.out)
    generalize hy:rd_T79 l i=y at h0 h1 h2 h3 h4 h5 h6 h7 h8 h9 h10 h11 HC
    have hq:p (l.getD i z79)=p y:=by rw [←hy];simp [rd_T79]
    have HQ:=Aside0.mk hq
    clear hy hq
    have eg:=HEG.out
    cases hb:p y with
    | true =>
      rw [hb] at HC HQ
      clear hb
      go_wp2_with (go_at_fn g;refine HC.out.mono ?_;rintro e w' ⟨rfl,hb'⟩;have HB':=am_ (below_step HB.out hb');clear hb')
      go_ret
      refine ⟨?_,HB'.out⟩
      rw [HF.out,hd.out,HQ.out]
      rfl
    | false =>
      rw [hb] at HC HQ
      clear hb
      go_wp2_with (go_at_fn g;refine HC.out.mono ?_;rintro e w' ⟨rfl,hb'⟩;have HB':=am_ (below_step HB.out hb');clear hb')
      go_roundg (l.length - (i+1))
      case measure=>omega
      case rel=>exact ⟨i+1,by omega,by omega,by go_num,HB',⟨by rw [HF.out,hd.out,HQ.out];rfl⟩⟩
def wantCells (x:S39):Array Value:=#[.string x.f0, .string x.f1, .int .i64 x.f2.f0, .int .i64 x.f2.f1, .int .i64 x.f2.f2]
set_option maxHeartbeats 1000000 in
set_option maxRecDepth 100000 in
theorem idxWant_calls (g:Nat) (lb:Array Value) (p:S39→Bool) (eg: ∀args w,(callFunc g args).run Try.prog w= .ok (.enter g args) w) (w:World)
    (hp: ∀W x,Below w.heap.size w W→Calls Try.prog g (#[.agg (wantCells x)]++lb) W fun e w'=>e= .returned (.bool (p x))∧Below W.heap.size W w')
    (A:Option Addr) (c:Nat) (l:List S39) (hr0:Kd.C k39 w A l.length l) (hc0:l.length≤c):
    Calls Try.prog 112 #[.slice A l.length c, .func (.func g) #[] lb] w fun e w'=>e= .returned (.int .i64 (fidx p l 0))∧Below w.heap.size w w':=by
  have hu39:=Try.underlying39
  have HR0:=Aside0.mk hr0
  have HP:=Aside0.mk hp
  have HEG:=Aside0.mk eg
  have hm:l.length≤9223372036854775807:=hr0.2.1
  clear hr0 hp eg
  go_enter Try.func112,Try.ntmps112
  go_wp2
  go_loopg [5,8] l.length (fun kq s5 s8 wr=> ∃i:Nat,i≤l.length∧l.length - i≤kq∧s8= .int .i64 i∧Aside0 (Below w.heap.size w wr)∧Aside0 (fidx p l 0=fidx p (l.drop i) i))
  case atStart=>exact ⟨0,by omega,by omega,rfl,⟨Below.refl _ _⟩,⟨rfl⟩⟩
  case round=>
    obtain ⟨i,hi,hg,rfl,HB,HF⟩:=hrel
    by_cases hlt:i<l.length
    rotate_left
    · obtain rfl : i = l.length := by omega
      go_wp2
      go_ret
      refine ⟨?_,HB.out⟩
      rw [HF.out,List.drop_length]
      rfl


    have hltz:(i:Int)<(l.length:Int):=by omega
    obtain ⟨ad,e1,h0,h1,h2,h3,h4⟩:=at_T39 HR0.out (i:Int) (by omega) (by omega)
    cases e1
    simp only [Int.toNat_natCast] at h0 h1 h2 h3 h4
    replace h0:=zx_ HB h0
    replace h1:=zx_ HB h1
    replace h2:=zx_ HB h2
    replace h3:=zx_ HB h3
    replace h4:=zx_ HB h4
    have hd:Aside0 _:=⟨fidx_drop p z39 l i hlt⟩
    have HC:=am_ (HP.out wr (rd_T39 l i) HB.out)
    generalize hy:rd_T39 l i=y at h0 h1 h2 h3 h4 HC
    have hq:p (l.getD i z39)=p y:=by rw [←hy];simp [rd_T39]
    have HQ:=Aside0.mk hq
    clear hy hq
    have eg:=HEG.out
    cases hb:p y with
    | true =>
      rw [hb] at HC HQ
      clear hb
      go_wp2_with (go_at_fn g;refine HC.out.mono ?_;rintro e w' ⟨rfl,hb'⟩;have HB':=am_ (below_step HB.out hb');clear hb')
      go_ret
      refine ⟨?_,HB'.out⟩
      rw [HF.out,hd.out,HQ.out]
      rfl
    | false =>
      rw [hb] at HC HQ
      clear hb
      go_wp2_with (go_at_fn g;refine HC.out.mono ?_;rintro e w' ⟨rfl,hb'⟩;have HB':=am_ (below_step HB.out hb');clear hb')
      go_roundg (l.length - (i+1))
      case measure=>omega
      case rel=>exact ⟨i+1,by omega,by omega,by go_num,HB',⟨by rw [HF.out,hd.out,HQ.out];rfl⟩⟩
set_option maxHeartbeats 1000000 in
set_option maxRecDepth 100000 in
theorem wantFind1_calls (W:World) (b:Nat) (nm:ByteArray) (hb:W.heap[b]?=some (.cells #[.string nm] 9 (0,0))) (x:S39):
  Calls Try.prog 113 #[.agg (wantCells x), .pointer (some ⟨b,0,none⟩)] W fun e w'=>e= .returned (.bool (x.f0.toList==nm.toList))∧Below W.heap.size W w':=by
 unfold wantCells
 have hu39:=Try.underlying39
 have h0:=(blk_cell hb 0).trans rfl
 have hl:b<W.heap.size:=blk_lt hb
 clear hb
 go_enter Try.func113,Try.ntmps113
 go_wp2
 go_ret
 exact ⟨rfl,by repeat (first|(with_reducible first|exact Below.refl _ _|apply below_alloc|apply pw_below_drewN|apply below_drew1))⟩
def wplace (l:List (S39)) (a1:ByteArray):Int:=fidx (fun x=>x.f0.toList==a1.toList) l 0
set_option maxHeartbeats 1000000 in
set_option maxRecDepth 100000 in
theorem wantFind_calls (A0:Option Addr) (c0:Nat) (l0:List (S39)) (a1:ByteArray) (w:World) (hr0:Kd.C k39 w A0 l0.length l0) (hc0:l0.length≤c0):
  Calls Try.prog 73 #[.agg #[.slice A0 l0.length c0], .string a1] w fun e w'=>e= .returned (.int .i64 (wplace l0 a1))∧Below w.heap.size w w':=by
 have hu110:=Try.underlying110
 obtain ⟨W1,hW1⟩: ∃W1,W1=(w.alloc (.cells #[.slice A0 l0.length c0] 110)).alloc (.cells #[.string a1] 9):=⟨_,rfl⟩
 have hs1:(w.alloc (.cells #[.slice A0 l0.length c0] 110)).heap.size=w.heap.size+1:=by simp
 have hn:W1.heap[w.heap.size+1]?=some (.cells #[.string a1] 9 (0,0)):=by rw [hW1,←hs1];exact blk_new _ _
 have hB:Below w.heap.size w W1:=by rw [hW1];exact below_alloc (below_alloc (Below.refl _ _) _) _
 have hr:fidx (fun x:S39=>x.f0.toList==a1.toList) l0 0=wplace l0 a1:=rfl
 have HC:=am_ (idxWant_calls 113 #[.pointer (some ⟨w.heap.size+1,0,none⟩)] (fun x=>x.f0.toList==a1.toList) (enters_of Try.func113 (by kernel_rfl) rfl) W1 (fun W x hb=>wantFind1_calls W (w.heap.size+1) a1 (blk_below hn hb) x) A0 c0 l0 (Kd.C_below hr0 hB) hc0)
 rw [hr] at HC
 generalize wplace l0 a1=r at HC ⊢
 have HW:=Aside0.mk hW1
 have HB:=Aside0.mk hB
 clear hr0 hr hW1 hn hB hs1
 go_enter Try.func73,Try.ntmps73
 go_wp2_with fail
 rw [←HW.out]
 refine HC.out.mono ?_
 rintro e w' ⟨rfl,hb⟩
 have HB':=am_ (below_step HB.out hb)
 clear hb
 go_wp2
 go_ret
 exact ⟨rfl,HB'.out⟩


def vec_Le.f (a0_0:Int) (a0_1:Int) (a0_2:Int) (a1_0:Int) (a1_1:Int) (a1_2:Int):Option (Bool):=if a0_0≤a1_0 then (if a0_1≤a1_1 then (some (decide (a0_2≤a1_2))) else (some false)) else (some false)
set_option maxHeartbeats 8000000 in
set_option maxRecDepth 100000 in
theorem vec_Le.calls (a0_0:Int) (a0_1:Int) (a0_2:Int) (a1_0:Int) (a1_1:Int) (a1_2:Int) (r:Bool) (w:World) (h:vec_Le.f a0_0 a0_1 a0_2 a1_0 a1_1 a1_2=some r):
  Calls Try.prog 114 #[.agg #[.int .i64 a0_0, .int .i64 a0_1, .int .i64 a0_2], .agg #[.int .i64 a1_0, .int .i64 a1_1, .int .i64 a1_2]] w fun e w'=>e= .returned (.bool r)∧Below w.heap.size w w':=by
 have hu37:=Try.underlying37
 have HB:=am_ (Below.refl w.heap.size w)
 have H:(if a0_0≤a1_0 then (if a0_1≤a1_1 then (some (decide (a0_2≤a1_2))) else (some false)) else (some false))=some r:=h
 clear h
 by_cases c3:a0_0≤a1_0
 rotate_left
 ·rw [if_neg c3] at H
  have c3b0:decide (a0_0≤a1_0)=false:=decide_eq_false c3
  clear c3
  obtain rfl:=Option.some.inj H
  go_enter Try.func114,Try.ntmps114
  go_wp2_with (first|((with_reducible refine gate_dst (N:=2) rfl ?_);refine bx_ (N:=2) (cs:=#[.int .i64 a0_0, .int .i64 a0_1, .int .i64 a0_2]) (t:=37) ?_;intro gb1 hg w15 hbox hb;have BK1:=am_ (hbox);have GW1:=am_ ((zg0_ HB hg:w.heap.size≤gb1));have GE1:=am_ ((zg0_ HB hg:w.heap.size≤gb1));replace HB:=am_ (below_step (zl0_ HB) hb);clear hb hbox hg)|((with_reducible refine gate_dst (N:=3) rfl ?_);refine bx_ (N:=3) (cs:=#[.int .i64 a1_0, .int .i64 a1_1, .int .i64 a1_2]) (t:=37) ?_;intro gb2 hg w16 hbox hb;have BK2:=am_ (hbox);have GW2:=am_ ((zg1_ HB GE1 hg:w.heap.size≤gb2));have GE2:=am_ ((zg1_ HB GE1 hg:w.heap.size≤gb2));replace HB:=am_ (below_step (zl1_ HB GE1) hb);have NB1_2:=am_ ((zn_ BK1 hg:gb1≠gb2));have NB2_1:=am_ ((zm_ BK1 hg:gb2≠gb1));replace BK1:=am_ (blk_below (zb_ BK1) hb);clear hb hbox hg;have hnb17:=NB1_2.out;have hnc17:=NB2_1.out;obtain ⟨hcz18_0,hcz18_1,hcz18_2,hfz18_0,hfz18_1,hfz18_2⟩:=y3_ BK1;obtain ⟨hcz19_0,hcz19_1,hcz19_2⟩:=x3_ BK2;have hfz19_0:=blk_frozen BK2.out 0;have hfz19_1:=blk_frozen BK2.out 1;have hfz19_2:=blk_frozen BK2.out 2))
  go_ret
  exact ⟨by first|rfl|(simp [errW_none,errW_some]<;>rfl)|(simp [*,errW_none,errW_some]<;>rfl),zl2_ HB GE1 GE2⟩

 rw [if_pos c3] at H
 have c3b0:decide (a0_0≤a1_0)=true:=decide_eq_true c3
 clear c3
 by_cases c4:a0_1≤a1_1
 ·rw [if_pos c4] at H
  have c4b0:decide (a0_1≤a1_1)=true:=decide_eq_true c4
  clear c4
  obtain rfl:=Option.some.inj H
  go_enter Try.func114,Try.ntmps114
  go_wp2_with (first|((with_reducible refine gate_dst (N:=2) rfl ?_);refine bx_ (N:=2) (cs:=#[.int .i64 a0_0, .int .i64 a0_1, .int .i64 a0_2]) (t:=37) ?_;intro gb1 hg w5 hbox hb;have BK1:=am_ (hbox);have GW1:=am_ ((zg0_ HB hg:w.heap.size≤gb1));have GE1:=am_ ((zg0_ HB hg:w.heap.size≤gb1));replace HB:=am_ (below_step (zl0_ HB) hb);clear hb hbox hg)|((with_reducible refine gate_dst (N:=3) rfl ?_);refine bx_ (N:=3) (cs:=#[.int .i64 a1_0, .int .i64 a1_1, .int .i64 a1_2]) (t:=37) ?_;intro gb2 hg w6 hbox hb;have BK2:=am_ (hbox);have GW2:=am_ ((zg1_ HB GE1 hg:w.heap.size≤gb2));have GE2:=am_ ((zg1_ HB GE1 hg:w.heap.size≤gb2));replace HB:=am_ (below_step (zl1_ HB GE1) hb);have NB1_2:=am_ ((zn_ BK1 hg:gb1≠gb2));have NB2_1:=am_ ((zm_ BK1 hg:gb2≠gb1));replace BK1:=am_ (blk_below (zb_ BK1) hb);clear hb hbox hg;have hnb7:=NB1_2.out;have hnc7:=NB2_1.out;obtain ⟨hcz8_0,hcz8_1,hcz8_2,hfz8_0,hfz8_1,hfz8_2⟩:=y3_ BK1;obtain ⟨hcz9_0,hcz9_1,hcz9_2⟩:=x3_ BK2;have hfz9_0:=blk_frozen BK2.out 0;have hfz9_1:=blk_frozen BK2.out 1;have hfz9_2:=blk_frozen BK2.out 2))
  go_ret
  exact ⟨by first|rfl|(simp [errW_none,errW_some]<;>rfl)|(simp [*,errW_none,errW_some]<;>rfl),zl2_ HB GE1 GE2⟩
 rw [if_neg c4] at H
 have c4b0:decide (a0_1≤a1_1)=false:=decide_eq_false c4
 clear c4
 obtain rfl:=Option.some.inj H
 go_enter Try.func114,Try.ntmps114
 go_wp2_with (first|((with_reducible refine gate_dst (N:=2) rfl ?_);refine bx_ (N:=2) (cs:=#[.int .i64 a0_0, .int .i64 a0_1, .int .i64 a0_2]) (t:=37) ?_;intro gb1 hg w10 hbox hb;have BK1:=am_ (hbox);have GW1:=am_ ((zg0_ HB hg:w.heap.size≤gb1));have GE1:=am_ ((zg0_ HB hg:w.heap.size≤gb1));replace HB:=am_ (below_step (zl0_ HB) hb);clear hb hbox hg)|((with_reducible refine gate_dst (N:=3) rfl ?_);refine bx_ (N:=3) (cs:=#[.int .i64 a1_0, .int .i64 a1_1, .int .i64 a1_2]) (t:=37) ?_;intro gb2 hg w11 hbox hb;have BK2:=am_ (hbox);have GW2:=am_ ((zg1_ HB GE1 hg:w.heap.size≤gb2));have GE2:=am_ ((zg1_ HB GE1 hg:w.heap.size≤gb2));replace HB:=am_ (below_step (zl1_ HB GE1) hb);have NB1_2:=am_ ((zn_ BK1 hg:gb1≠gb2));have NB2_1:=am_ ((zm_ BK1 hg:gb2≠gb1));replace BK1:=am_ (blk_below (zb_ BK1) hb);clear hb hbox hg;have hnb12:=NB1_2.out;have hnc12:=NB2_1.out;obtain ⟨hcz13_0,hcz13_1,hcz13_2,hfz13_0,hfz13_1,hfz13_2⟩:=y3_ BK1;obtain ⟨hcz14_0,hcz14_1,hcz14_2⟩:=x3_ BK2;have hfz14_0:=blk_frozen BK2.out 0;have hfz14_1:=blk_frozen BK2.out 1;have hfz14_2:=blk_frozen BK2.out 2))
 go_ret
 exact ⟨by first|rfl|(simp [errW_none,errW_some]<;>rfl)|(simp [*,errW_none,errW_some]<;>rfl),zl2_ HB GE1 GE2⟩
def vec_Most.f:Option (Int×Int×Int):=some (1099511627776,1099511627776,1099511627776)
set_option maxHeartbeats 8000000 in
set_option maxRecDepth 100000 in
theorem vec_Most.calls (r1:Int) (r2:Int) (r3:Int) (w:World) (h:vec_Most.f=some (r1,r2,r3)):
  Calls Try.prog 125 #[] w fun e w'=>e= .returned (.agg #[.int .i64 r1, .int .i64 r2, .int .i64 r3])∧Below w.heap.size w w':=by
 have hu37:=Try.underlying37
 have HB:=am_ (Below.refl w.heap.size w)
 have H:(some (1099511627776,1099511627776,1099511627776))=some (r1,r2,r3):=h
 clear h
 simp only [Option.some.injEq,Prod.mk.injEq] at H
 obtain ⟨rfl,rfl,rfl⟩:=H
 go_enter Try.func125,Try.ntmps125
 go_wp2_with (first|((with_reducible refine gate_dst (N:=0) rfl ?_);refine bx_ (N:=0) (cs:=#[.int .i64 0, .int .i64 0, .int .i64 0]) (t:=37) ?_;intro gb1 hg w1 hbox hb;have BK1:=am_ (hbox);have GW1:=am_ ((zg0_ HB hg:w.heap.size≤gb1));have GE1:=am_ ((zg0_ HB hg:w.heap.size≤gb1));replace HB:=am_ (below_step (zl0_ HB) hb);clear hb hbox hg;obtain ⟨hcz2_0,hcz2_1,hcz2_2⟩:=x3_ BK1;have hfz2_0:=blk_frozen BK1.out 0;have hfz2_1:=blk_frozen BK1.out 1;have hfz2_2:=blk_frozen BK1.out 2))
 refine bodyPost_ret (results_cell_row rfl _ _ gb1 37 #[.int .i64 1099511627776, .int .i64 1099511627776, .int .i64 1099511627776] (0,0) _ rfl (zw_ BK1) Try.underlying37 rfl (by kernel_rfl)) rfl ?_
 exact ⟨by first|rfl|(simp [errW_none,errW_some]<;>rfl)|(simp [*,errW_none,errW_some]<;>rfl),zl1_ HB GE1⟩

def vec_May.f (a0_0:Int) (a0_1:Int) (a0_2:Int):Option (Bool):=(vec_Le.f 0 0 0 a0_0 a0_1 a0_2).bind fun t2=>(if t2=true then ((vec_Most.f).bind fun bt3=>((vec_Le.f a0_0 a0_1 a0_2 bt3.1 bt3.2.1 bt3.2.2).bind fun t6=>(some t6))) else (some false))
def vec_May.T1:Bool×List (List Nat×List Nat):=(true,[([],[]),([],[]),([0,1],[0,1]),([2,2],[2]),([3],[3]),([3,3],[3]),([4,5,5,3],[3,4,5]),([3,6],[3,6]),([7,6,0,1,2,3,4,5,6,7],[7])])
def vec_May.B1:List Nat:=[0,0,3,7,15,15,63,127,255]
theorem vec_May.tab1:rtab .any (opsOf Try.f111 1)=vec_May.T1:=by kernel_rfl
theorem vec_May.bits1:waitsOk vec_May.T1.2 vec_May.B1=true:=by kernel_rfl
set_option maxHeartbeats 8000000 in
set_option maxRecDepth 100000 in
theorem vec_May.calls (a0_0:Int) (a0_1:Int) (a0_2:Int) (r:Bool) (w:World) (h:vec_May.f a0_0 a0_1 a0_2=some r):
  Calls Try.prog 111 #[.agg #[.int .i64 a0_0, .int .i64 a0_1, .int .i64 a0_2]] w fun e w'=>e= .returned (.bool r)∧Below w.heap.size w w':=by
 have hu37:=Try.underlying37
 have HB:=am_ (Below.refl w.heap.size w)
 have H:((vec_Le.f 0 0 0 a0_0 a0_1 a0_2).bind fun t2=>(if t2=true then ((vec_Most.f).bind fun bt3=>((vec_Le.f a0_0 a0_1 a0_2 bt3.1 bt3.2.1 bt3.2.2).bind fun t6=>(some t6))) else (some false)))=some r:=h
 clear h
 replace H:=Option.bind_eq_some_iff.mp H
 obtain ⟨t2,A20,H⟩:=H
 try dsimp only at H
 have A2:=Aside0.mk A20
 clear A20
 by_cases c3:t2=true
 rotate_left
 ·replace c3:=Bool.eq_false_iff.mpr c3
  subst c3
  have H1:(some false)=some r:=by rw [if_neg (show¬(false=true) by decide)] at H;exact H
  clear H
  have H:=H1
  clear H1
  obtain rfl:=Option.some.inj H
  go_enter Try.func111,Try.ntmps111
  try go_wp2_with (first|((with_reducible refine gate_dst (N:=1) rfl ?_);refine bx_ (N:=1) (cs:=#[.int .i64 a0_0, .int .i64 a0_1, .int .i64 a0_2]) (t:=37) ?_;intro gb1 hg w11 hbox hb;have BK1:=am_ (hbox);have GW1:=am_ ((zg0_ HB hg:w.heap.size≤gb1));have GE1:=am_ ((zg0_ HB hg:w.heap.size≤gb1));replace HB:=am_ (below_step (zl0_ HB) hb);clear hb hbox hg))
  replace BK1:=am_ (blk_drew BK1.out)
  replace HB:=am_ (below_drew1 HB.out)
  refine start_ (n:=9) (S:=fun w'=>w'.cell? ⟨gb1,0,none⟩=some (.int .i64 a0_0)∧w'.cell? ⟨gb1,1,none⟩=some (.int .i64 a0_1)∧w'.cell? ⟨gb1,2,none⟩=some (.int .i64 a0_2)) (ds:=[]) (bt_ 9 0) (by kernel_rfl) rfl rfl ⟨(blk_cell BK1.out 0).trans rfl,(blk_cell BK1.out 1).trans rfl,(blk_cell BK1.out 2).trans rfl⟩ (fun hHeld=> ?_);refine with_tabW vec_May.tab1 vec_May.bits1 (fun HT_ HW_=> ?_)
  generalize w11.drew=w12 at BK1 HB hHeld ⊢
  refine pu_ (i:=0) (N:=some 3) (bt_ 9 1) HT_ ?_
  refine tk_ (i:=1) (N:=some 4) (bt_ 9 3) HT_ HW_ hHeld ?_
  refine on_ (i:=2) (N:=some 5) (bt_ 9 7) HT_ (fun K hK=> ?_)
  refine gs_ Try.func114 #[.agg #[.int .i64 0, .int .i64 0, .int .i64 0], .agg #[.int .i64 a0_0, .int .i64 a0_1, .int .i64 a0_2]] ?_
  with_reducible refine (vec_Le.calls 0 0 0 a0_0 a0_1 a0_2 false _ A2.out).mono ?_
  rintro e w13 ⟨rfl,hb⟩
  refine ⟨_,rfl, ?_⟩
  replace BK1:=am_ (blk_below (zb_ BK1) hb)
  replace HB:=am_ (below_step (zl1_ HB GE1) hb)
  (try clear hb)
  (try clear hb2)
  (try clear hk)
  (try clear hi)
  refine hK.out _ _ ⟨(blk_cell BK1.out 0).trans rfl,(blk_cell BK1.out 1).trans rfl,(blk_cell BK1.out 2).trans rfl⟩ (fun hHeld=> ?_)
  clear hK K
  refine no_ (N:=some 5) ?_
  refine pu_ (i:=3) (N:=some 6) (bt_ 9 15) HT_ ?_
  refine pn_ (i:=4) (N:=some 7) (bt_ 9 31) HT_ ?_
  refine pn_ (i:=5) (N:=some 8) (bt_ 9 63) HT_ ?_
  refine pn_ (i:=6) (N:=some 9) (bt_ 9 127) HT_ ?_
  refine pu_ (i:=7) (N:=some 10) (bt_ 9 255) HT_ ?_
  refine pu_ (i:=8) (N:=some 2) (bt_ 9 511) HT_ ?_
  refine done_ (done_of HT_.out (by kernel_rfl)) ?_
  try go_wp2
  go_ret
  exact ⟨by first|rfl|(simp [errW_none,errW_some]<;>rfl)|(simp [*,errW_none,errW_some]<;>rfl),zl1_ HB GE1⟩

 subst c3
 have H1:((vec_Most.f).bind fun bt3=>((vec_Le.f a0_0 a0_1 a0_2 bt3.1 bt3.2.1 bt3.2.2).bind fun t6=>(some t6)))=some r:=by rw [if_pos rfl] at H;exact H
 clear H
 have H:=H1
 clear H1
 replace H:=Option.bind_eq_some_iff.mp H
 obtain ⟨⟨t3,t4,t5⟩,A40,H⟩:=H
 try dsimp only at H
 have A4:=Aside0.mk A40
 clear A40
 replace H:=Option.bind_eq_some_iff.mp H
 obtain ⟨t6,A50,H⟩:=H
 try dsimp only at H
 have A5:=Aside0.mk A50
 clear A50
 obtain rfl:=Option.some.inj H
 go_enter Try.func111,Try.ntmps111
 try go_wp2_with (first|((with_reducible refine gate_dst (N:=1) rfl ?_);refine bx_ (N:=1) (cs:=#[.int .i64 a0_0, .int .i64 a0_1, .int .i64 a0_2]) (t:=37) ?_;intro gb1 hg w6 hbox hb;have BK1:=am_ (hbox);have GW1:=am_ ((zg0_ HB hg:w.heap.size≤gb1));have GE1:=am_ ((zg0_ HB hg:w.heap.size≤gb1));replace HB:=am_ (below_step (zl0_ HB) hb);clear hb hbox hg))
 replace BK1:=am_ (blk_drew BK1.out)
 replace HB:=am_ (below_drew1 HB.out)
 refine start_ (n:=9) (S:=fun w'=>w'.cell? ⟨gb1,0,none⟩=some (.int .i64 a0_0)∧w'.cell? ⟨gb1,1,none⟩=some (.int .i64 a0_1)∧w'.cell? ⟨gb1,2,none⟩=some (.int .i64 a0_2)) (ds:=[]) (bt_ 9 0) (by kernel_rfl) rfl rfl ⟨(blk_cell BK1.out 0).trans rfl,(blk_cell BK1.out 1).trans rfl,(blk_cell BK1.out 2).trans rfl⟩ (fun hHeld=> ?_);refine with_tabW vec_May.tab1 vec_May.bits1 (fun HT_ HW_=> ?_)
 generalize w6.drew=w7 at BK1 HB hHeld ⊢
 refine pu_ (i:=0) (N:=some 3) (bt_ 9 1) HT_ ?_
 refine tk_ (i:=1) (N:=some 4) (bt_ 9 3) HT_ HW_ hHeld ?_
 refine on_ (i:=2) (N:=some 5) (bt_ 9 7) HT_ (fun K hK=> ?_)
 refine gs_ Try.func114 #[.agg #[.int .i64 0, .int .i64 0, .int .i64 0], .agg #[.int .i64 a0_0, .int .i64 a0_1, .int .i64 a0_2]] ?_
 with_reducible refine (vec_Le.calls 0 0 0 a0_0 a0_1 a0_2 true _ A2.out).mono ?_
 rintro e w8 ⟨rfl,hb⟩
 refine ⟨_,rfl, ?_⟩
 replace BK1:=am_ (blk_below (zb_ BK1) hb)
 replace HB:=am_ (below_step (zl1_ HB GE1) hb)
 (try clear hb)
 (try clear hb2)
 (try clear hk)
 (try clear hi)
 refine hK.out _ _ ⟨(blk_cell BK1.out 0).trans rfl,(blk_cell BK1.out 1).trans rfl,(blk_cell BK1.out 2).trans rfl⟩ (fun hHeld=> ?_)
 clear hK K
 refine no_ (N:=some 5) ?_
 refine pu_ (i:=3) (N:=some 6) (bt_ 9 15) HT_ ?_
 refine tk_ (i:=4) (N:=some 7) (bt_ 9 31) HT_ HW_ hHeld ?_
 refine on_ (i:=5) (N:=some 8) (bt_ 9 63) HT_ (fun K hK=> ?_)
 refine gs_ Try.func125 #[] ?_
 with_reducible refine (vec_Most.calls t3 t4 t5 _ A4.out).mono ?_
 rintro e w9 ⟨rfl,hb⟩
 refine ⟨_,rfl, ?_⟩
 replace BK1:=am_ (blk_below (zb_ BK1) hb)
 replace HB:=am_ (below_step (zl1_ HB GE1) hb)
 (try clear hb)
 (try clear hb2)
 (try clear hk)
 (try clear hi)
 refine hK.out _ _ ⟨(blk_cell BK1.out 0).trans rfl,(blk_cell BK1.out 1).trans rfl,(blk_cell BK1.out 2).trans rfl⟩ (fun hHeld=> ?_)
 clear hK K
 refine no_ (N:=some 8) ?_
 refine on_ (i:=6) (N:=some 9) (bt_ 9 127) HT_ (fun K hK=> ?_)
 refine gs_ Try.func114 #[.agg #[.int .i64 a0_0, .int .i64 a0_1, .int .i64 a0_2], .agg #[.int .i64 t3, .int .i64 t4, .int .i64 t5]] ?_
 with_reducible refine (vec_Le.calls a0_0 a0_1 a0_2 t3 t4 t5 t6 _ A5.out).mono ?_
 rintro e w10 ⟨rfl,hb⟩
 refine ⟨_,rfl, ?_⟩
 replace BK1:=am_ (blk_below (zb_ BK1) hb)
 replace HB:=am_ (below_step (zl1_ HB GE1) hb)
 (try clear hb)
 (try clear hb2)
 (try clear hk)
 (try clear hi)
 refine hK.out _ _ ⟨(blk_cell BK1.out 0).trans rfl,(blk_cell BK1.out 1).trans rfl,(blk_cell BK1.out 2).trans rfl⟩ (fun hHeld=> ?_)
 clear hK K
 refine no_ (N:=some 9) ?_
 refine pu_ (i:=7) (N:=some 10) (bt_ 9 255) HT_ ?_
 refine pu_ (i:=8) (N:=some 2) (bt_ 9 511) HT_ ?_
 refine done_ (done_of HT_.out (by kernel_rfl)) ?_
 try go_wp2
 go_ret
 exact ⟨by first|rfl|(simp [errW_none,errW_some]<;>rfl)|(simp [*,errW_none,errW_some]<;>rfl),zl1_ HB GE1⟩
end Go.Proofs.Ytahidkjncljkaaa.Print

namespace Go.Proofs.Ytahidkjncljkaaa.Print
open Go.RowKit Go.Proofs.YtahidkjncljkaaaW.PrintWords Go.Proofs.YtahidkjncljkaaaW.PrintLast Go.Proofs.YtahidkjncljkaaaW.PrintMore
section
variable {P:Program} {ops:Array Oper} {rest:List Oper} {o:Oper} {a:Act} {Q:Exit→Act→World→Prop} {Kc:Act→World→Prop} {W:World}
theorem put_run {gb e:Nat} {zs:Array Value} (hh:W.heap[gb]?=some (.cells zs e (0,0))) (t:TypeId) (u:Value) (off:Nat) (seg:List Value) (hu:u.cells.toList=seg) (ht:(P.info? t).map (·.size)=some seg.length) (hfit:off+seg.length≤zs.size) (h1: ∀q∈seg,q.oneCell'=true):
  ∃w' cur,(Instr.storeAt t (.pointer (some ⟨gb,off,none⟩)) u).run P W= .ok () w'∧w'.heap[gb]?=some (.cells cur e (0,0))∧cur.size=zs.size∧cur.toList=zs.toList.take off++seg++zs.toList.drop (off+seg.length)∧W.grownBy w' (some gb):=by
 have hrun:=run_store_run (P:=P) t u seg hh hu ht (o:=off) hfit h1
 obtain ⟨cur,hc,hs,hl⟩:=setCells_row seg off W zs hh hfit
 obtain ⟨s1,s2,s3,s4⟩:=setCells_same gb seg off W
 exact ⟨_,cur,hrun,hc,hs,hl,⟨s1,s2,s3,by rw [s4];exact Nat.le_refl _,fun k hk hne=>setCells_far seg off k (by rintro rfl;exact hne rfl)⟩⟩
theorem store_all {gb e:Nat} {zs:Array Value} (hh:W.heap[gb]?=some (.cells zs e (0,0))) (t:TypeId) (p x:Operand) (ho:o.op= .store t p x) (hN:o.dst=none) (hgd:o.guard=none) (u:Value) (seg:List Value)
  (hp:a.eval p= .pointer (some ⟨gb,0,none⟩)) (hx:a.eval x=u) (hu:u.cells.toList=seg) (ht:(P.info? t).map (·.size)=some seg.length) (hz:zs.size=seg.length) (h1: ∀q∈seg,q.oneCell'=true)
  (h: ∀w',w'.heap[gb]?=some (.cells seg.toArray e (0,0))→W.grownBy w' (some gb)→wpList P ops Q rest a w'):wpList P ops Q (o::rest) a W:=by
 obtain ⟨w',cur,hrun,hc,hs,hl,hg⟩:=put_run (P:=P) hh t u 0 seg hu ht (by omega) h1
 have e1:cur=seg.toArray:=by
  apply Array.ext'
  rw [hl,List.take_zero,List.nil_append,Nat.zero_add,List.drop_of_length_le (by simp [Array.length_toList];omega),List.append_nil]
 subst e1
 refine wpList_plain hgd fun K hK=> ?_
 unfold Oper.wp execOp
 simp only [ho,hp,hx,Sem.run_bind,Sem.run_pure,Result.andThen_ok,hrun]
 show K (a.put o.dst undef) _
 rw [hN]
 exact hK a _ (h _ hc hg)
theorem store_part {gb e:Nat} {zs:Array Value} (hh:W.heap[gb]?=some (.cells zs e (0,0))) (t:TypeId) (p x:Operand) (ho:o.op= .store t p x) (hN:o.dst=none) (hgd:o.guard=none) (off:Nat) (u:Value) (seg new:List Value)
  (hp:a.eval p= .pointer (some ⟨gb,off,none⟩)) (hx:a.eval x=u) (hu:u.cells.toList=seg) (ht:(P.info? t).map (·.size)=some seg.length) (hz:off+seg.length≤zs.size) (h1: ∀q∈seg,q.oneCell'=true) (hnew:zs.toList.take off++seg++zs.toList.drop (off+seg.length)=new)
  (h: ∀w',w'.heap[gb]?=some (.cells new.toArray e (0,0))→W.grownBy w' (some gb)→wpList P ops Q rest a w'):wpList P ops Q (o::rest) a W:=by
 obtain ⟨w',cur,hrun,hc,hs,hl,hg⟩:=put_run (P:=P) hh t u off seg hu ht hz h1
 have e1:cur=new.toArray:=by
  apply Array.ext'
  rw [hl,hnew]
 subst e1
 refine wpList_plain hgd fun K hK=> ?_
 unfold Oper.wp execOp
 simp only [ho,hp,hx,Sem.run_bind,Sem.run_pure,Result.andThen_ok,hrun]
 show K (a.put o.dst undef) _
 rw [hN]
 exact hK a _ (h _ hc hg)
end
theorem R_put {α:Type} {d:Kd α} {e base:Nat} {w w1:World} {v:Value} {xs:List α} (h:d.R e w base (fun _=>True) v xs) {g t:Nat} {cells:Array Value} (hb:w.heap[g]?=some (.cells cells t (0,0))) (ht: ∀q,q∈e::d.E→q≠t) (hg:w.grownBy w1 (some g)):d.R e w1 base (fun _=>True) v xs:=
 Kd.R_mono (Kd.R_grown (Kd.R_types h hb ht) hg (fun _ hk e=>hk.2 (Option.some.inj e))) (fun _ _=>trivial)
theorem below_put {a w w1:World} {base g:Nat} (h:Below base a w) (hb:base≤w.heap.size) (hg:w.grownBy w1 (some g)) (hge:base≤g):Below base a w1:=pw_below_grown h (some g) hb hg (fun k e=>by cases e;exact hge)
theorem blk_put_other {w w1:World} {g k:Nat} {ob:Obj} (h:w.heap[k]?=some ob) (hg:w.grownBy w1 (some g)) (hne:k≠g):w1.heap[k]?=some ob:=by
  rw [hg.block k (by
    rcases Nat.lt_or_ge k w.heap.size with hl|hl
    · exact hl
    rw [Array.getElem?_eq_none hl] at h;cases h) (by intro e;cases e;exact hne rfl)]
  exact h
end Go.Proofs.Ytahidkjncljkaaa.Print

namespace Go.Proofs.Ytahidkjncljkaaa.Print
open Go.RowKit Go.Proofs.YtahidkjncljkaaaW.PrintWords Go.Proofs.YtahidkjncljkaaaW.PrintLast Go.Proofs.YtahidkjncljkaaaW.PrintMore
attribute [local go_sem] max2_int min2_int max_two min_two max_three min_three max_four min_four

set_option maxHeartbeats 1000000 in
set_option maxRecDepth 100000 in
theorem treeFind1_calls (W:World) (b:Nat) (nm:ByteArray) (hb:W.heap[b]?=some (.cells #[.string nm] 9 (0,0))) (x:S79):
  Calls Try.prog 122 #[.agg (itemCells x), .pointer (some ⟨b,0,none⟩)] W fun e w'=>e= .returned (.bool (x.f0.toList==nm.toList))∧Below W.heap.size W w':=by
 unfold itemCells
 have hu79:=Try.underlying79
 have h0:=(blk_cell hb 0).trans rfl
 have hl:b<W.heap.size:=blk_lt hb
 clear hb
 go_enter Try.func122,Try.ntmps122
 go_wp2
 go_ret
 exact ⟨rfl,by repeat (first|(with_reducible first|exact Below.refl _ _|apply below_alloc|apply pw_below_drewN|apply below_drew1))⟩
def tree_Find.f (l0:List (S79)) (a1:ByteArray):Option Int:=some (fidx (fun x=>x.f0.toList==a1.toList) l0 0)
set_option maxHeartbeats 1000000 in
set_option maxRecDepth 100000 in
theorem tree_Find.calls (A0:Option Addr) (c0:Nat) (l0:List (S79)) (a1:ByteArray) (r:Int) (w:World) (hr0:Kd.C k79 w A0 l0.length l0) (hc0:l0.length≤c0) (h:tree_Find.f l0 a1=some r):
  Calls Try.prog 91 #[.slice A0 l0.length c0, .string a1] w fun e w'=>e= .returned (.int .i64 r)∧Below w.heap.size w w':=by
 have hr:fidx (fun x=>x.f0.toList==a1.toList) l0 0=r:=Option.some.inj h
 obtain ⟨W1,hW1⟩: ∃W1,W1=w.alloc (.cells #[.string a1] 9):=⟨_,rfl⟩
 have hn:W1.heap[w.heap.size]?=some (.cells #[.string a1] 9 (0,0)):=by rw [hW1];exact blk_new _ _
 have hB:Below w.heap.size w W1:=by rw [hW1];exact below_alloc (Below.refl _ _) _
 have HC:=am_ (idxItem_calls 122 #[.pointer (some ⟨w.heap.size,0,none⟩)] (fun x=>x.f0.toList==a1.toList) (enters_of Try.func122 (by kernel_rfl) rfl) W1 (fun W x hb=>treeFind1_calls W w.heap.size a1 (blk_below hn hb) x) A0 c0 l0 (Kd.C_below hr0 hB) hc0)
 rw [hr] at HC
 have HW:=Aside0.mk hW1
 have HB:=Aside0.mk hB
 clear hr0 hr hW1 hn hB h
 go_enter Try.func91,Try.ntmps91
 go_wp2_with fail
 rw [←HW.out]
 refine HC.out.mono ?_
 rintro e w' ⟨rfl,hb⟩
 have HB':=am_ (below_step HB.out hb)
 clear hb
 go_wp2
 go_ret
 exact ⟨rfl,HB'.out⟩


end Go.Proofs.Ytahidkjncljkaaa.Print

namespace Go.Proofs.Ytahidkjncljkaaa.Print
open Go.RowKit Go.Proofs.YtahidkjncljkaaaW.PrintWords Go.Proofs.YtahidkjncljkaaaW.PrintLast
abbrev Item:=S79
abbrev Vec:=S37
abbrev zItem:Item:=z79
theorem rd_item (l:List Item) (i:Int):rd_T79 l i=l.getD i.toNat zItem:=rfl
instance baLawful:LawfulBEq ByteArray where
 eq_of_beq {a b} h:=by
  obtain ⟨a⟩:=a
  obtain ⟨b⟩:=b
  have:(a==b)=true:=h
  rw [eq_of_beq this]
 rfl {a}:=by
  obtain ⟨a⟩:=a
  show (a==a)=true
  exact beq_self_eq_true a
theorem nm_inj {a b:ByteArray}:a.toList=b.toList↔a=b:=by
  constructor
  rotate_left
  · rintro rfl;rfl
  intro h
  rw [ByteArray.toList_eq,ByteArray.toList_eq] at h
  exact ByteArray.ext (Array.toList_inj.1 h)
theorem nm_beq (a b:ByteArray):(a.toList==b.toList)=decide (a=b):=by
 rw [Bool.eq_iff_iff,beq_iff_eq,nm_inj,decide_eq_true_iff]
theorem nm_ne {a b:ByteArray}:a.toList≠b.toList↔a≠b:=not_congr nm_inj
theorem nm_empty {a:ByteArray}:a.toList=([]:List UInt8)↔a=⟨#[]⟩:=by
 rw [←nm_inj];rw [show (ByteArray.mk #[]).toList=[] from by rw [ByteArray.toList_eq]]
theorem Ev.const {α:Type} {g:Option α} {r:α} (h:g=some r):Ev (fun _=>g) r:=⟨0,fun _ _=>h⟩
theorem w64 {n:Int} (h0: -9223372036854775808≤n) (h1:n≤9223372036854775807):wrap64 n=n:=by unfold wrap64;omega
def look (l:List Item) (n:ByteArray):Option Item:=l.find? (fun x=>x.f0=n)
def fnd (l:List Item) (n:ByteArray):Int:=fidx (fun x:Item=>x.f0.toList==n.toList) l 0
theorem fidx_none {α:Type} {p:α→Bool}: ∀{l:List α} {i:Int},(∀x∈l,p x=false)→fidx p l i= -1
  |[],_,_=>rfl
  | x :: l, i, h => by
    unfold fidx
    rw [if_neg (by rw [h x (by simp)];simp)]
    exact fidx_none (fun y hy=>h y (by simp [hy]))
theorem fidx_some {α:Type} {p:α→Bool} (z:α): ∀{l:List α} {i:Int} {x:α},l.find? p=some x→ ∃j:Nat,j<l.length∧fidx p l i=i+j∧l.getD j z=x∧p x=true∧ ∀m,m<j→p (l.getD m z)=false
  |[],_,_,h=>by simp at h
  | y :: l, i, x, h => by
    unfold fidx
    by_cases hy:p y=true
    · rw [if_pos hy]
      simp only [List.find?_cons,hy] at h
      obtain rfl:=Option.some.inj h
      exact ⟨0,by simp,by simp,by simp,hy,fun m hm=>by omega⟩
    rw [if_neg hy]
    have hy':p y=false:=by simpa using hy
    simp only [List.find?_cons,hy'] at h
    obtain ⟨j,hj,h1,h2,h3,h4⟩:=fidx_some z (i:=i+1) h
    refine ⟨j+1,by simp;omega,by rw [h1];omega,by simpa using h2,h3,fun m hm=> ?_⟩
    cases m with
    |zero=>simpa using hy'
    |succ m=>simpa using h4 m (by omega)
theorem look_pred (n:ByteArray):(fun x:Item=>x.f0.toList==n.toList)=(fun x:Item=>decide (x.f0=n)):=by
 funext x;exact nm_beq _ _
theorem look_mem {l:List Item} {n:ByteArray} {x:Item} (h:look l n=some x):x∈l∧x.f0=n:=by
 unfold look at h
 exact ⟨List.mem_of_find?_eq_some h,by simpa using List.find?_some h⟩
theorem look_none {l:List Item} {n:ByteArray}:look l n=none↔ ∀x∈l,x.f0≠n:=by
 unfold look
 simp
theorem fnd_none {l:List Item} {n:ByteArray} (h:look l n=none):fnd l n= -1:=by
 unfold fnd
 refine fidx_none fun x hx=> ?_
 rw [nm_beq]
 simpa using look_none.1 h x hx
theorem fnd_some {l:List Item} {n:ByteArray} {x:Item} (h:look l n=some x): ∃j:Nat,j<l.length∧fnd l n=j∧l.getD j zItem=x∧x.f0=n∧ ∀m,m<j→(l.getD m zItem).f0≠n:=by
 have h':l.find? (fun x:Item=>x.f0.toList==n.toList)=some x:=by rw [look_pred];exact h
 obtain ⟨j,h1,h2,h3,h4,h5⟩:=fidx_some zItem (i:=0) h'
 refine ⟨j,h1,by unfold fnd;rw [h2];omega,h3,by simpa [nm_beq] using h4,fun m hm=> ?_⟩
 simpa [nm_beq] using h5 m hm
theorem fnd_lt (l:List Item) (n:ByteArray):fnd l n<l.length:=by
 cases h:look l n with
 |none=>rw [fnd_none h];omega
 |some x=>obtain ⟨j,h1,h2,_⟩:=fnd_some h;omega
theorem fnd_neg {l:List Item} {n:ByteArray}:fnd l n<0↔look l n=none:=by
 cases h:look l n with
 |none=>rw [fnd_none h];simp
 |some x=>obtain ⟨j,h1,h2,_⟩:=fnd_some h;simp;omega
theorem fnd_ge {l:List Item} {n:ByteArray}:0≤fnd l n↔ ∃x,look l n=some x:=by
 cases h:look l n with
 |none=>rw [fnd_none h];simp
 |some x=>obtain ⟨j,h1,h2,_⟩:=fnd_some h;simp;omega
theorem fnd_rd {l:List Item} {n:ByteArray} {x:Item} (h:look l n=some x):rd_T79 l (fnd l n)=x:=by
 obtain ⟨j,h1,h2,h3,_⟩:=fnd_some h
 rw [rd_item,h2,Int.toNat_natCast];exact h3
theorem tree_Find_eq (l:List Item) (n:ByteArray):tree_Find.f l n=some (fnd l n):=rfl
inductive Chain (l:List Item):ByteArray→List ByteArray→Prop where
 |nil {n:ByteArray}:look l n=none→Chain l n []
 |cons {n:ByteArray} {x:Item} {us:List ByteArray}:look l n=some x→Chain l x.f1 us→Chain l n (n::us)
def upGo (l:List Item):Nat→ByteArray→List ByteArray
  |0,_=> []
  | m + 1, n => match look l n with
    |none=> []
    |some x=>n::upGo l m x.f1
def up (l:List Item) (n:ByteArray):List ByteArray:=upGo l (l.length+1) n
theorem upGo_none {l:List Item} {n:ByteArray} (h:look l n=none) (m:Nat):upGo l m n=[]:=by
 cases m with
 |zero=>rfl
 |succ m=>unfold upGo;rw [h]
theorem upGo_some {l:List Item} {n:ByteArray} {x:Item} (h:look l n=some x) (m:Nat):upGo l (m+1) n=n::upGo l m x.f1:=by
 rw [upGo.eq_2,h]
theorem Chain.det {l:List Item} {n:ByteArray} {us:List ByteArray} (h:Chain l n us): ∀{vs:List ByteArray},Chain l n vs→us=vs:=by
  induction h with
  | nil h =>
    intro vs k
    cases k with
    |nil _=>rfl
    |cons k _=>rw [h] at k;cases k
  | cons h _ ih =>
    intro vs k
    cases k with
    |nil k=>rw [h] at k;cases k
    | cons k k2 =>
      rw [h] at k
      cases k
      rw [ih k2]
theorem Chain.upGo {l:List Item} {n:ByteArray} {us:List ByteArray} (h:Chain l n us): ∀m,us.length≤m→upGo l m n=us:=by
  induction h with
  |nil h=>intro m _;exact upGo_none h m
  | cons h _ ih =>
    intro m hm
    cases m with
    |zero=>simp at hm
    | succ m =>
      rw [upGo_some h,ih m (by simpa using hm)]
theorem Chain.suffix {l:List Item} {n:ByteArray} {us:List ByteArray} (h:Chain l n us): ∀{m:ByteArray},m∈us→ ∃vs ws,us=ws++vs∧Chain l m vs∧ ∃vt,vs=m::vt:=by
  induction h with
  |nil _=>intro m hm;cases hm
  | @cons n x us h k ih =>
    intro m hm
    rcases List.mem_cons.1 hm with rfl|hm
    · exact ⟨_,[],rfl, .cons h k,_,rfl⟩
    obtain ⟨vs,ws,e,hc,he⟩:=ih hm
    exact ⟨vs,n::ws,by rw [e];rfl,hc,he⟩
theorem Chain.mem_look {l:List Item} {n:ByteArray} {us:List ByteArray} (h:Chain l n us) {m:ByteArray} (hm:m∈us): ∃x,look l m=some x:=by
 obtain ⟨vs,ws,_,hc,vt,rfl⟩:=h.suffix hm
 cases hc with
 |cons h _=>exact ⟨_,h⟩
theorem Chain.nodup {l:List Item} {n:ByteArray} {us:List ByteArray} (h:Chain l n us):us.Nodup:=by
  induction h with
  |nil _=>simp
  | @cons n x us h k ih =>
    rw [List.nodup_cons]
    refine ⟨fun hm=> ?_,ih⟩
    obtain ⟨vs,ws,e,hc,_⟩:=k.suffix hm
    have:=hc.det (.cons h k)
    rw [this] at e
    have:=congrArg List.length e
    simp at this
    omega
theorem Chain.len {l:List Item} {n:ByteArray} {us:List ByteArray} (h:Chain l n us):us.length≤l.length:=by
 have:=h.nodup.length_le_of_subset (l₂:=l.map (·.f0)) (fun m hm=>by
  obtain ⟨x,hx⟩:=h.mem_look hm
  obtain ⟨h1,rfl⟩:=look_mem hx
  exact List.mem_map_of_mem h1)
 simpa using this
theorem Chain.up {l:List Item} {n:ByteArray} {us:List ByteArray} (h:Chain l n us):up l n=us:=h.upGo _ (by have:=h.len;omega)
def lt (a b:ByteArray):Bool:=Op.bytesLess a.toList b.toList
theorem bl_irrefl: ∀a:List UInt8,Op.bytesLess a a=false
 |[]=>rfl
 |x::a=>by unfold Op.bytesLess;simp [bl_irrefl a]
theorem bl_trans: ∀{a b c:List UInt8},Op.bytesLess a b=true→Op.bytesLess b c=true→Op.bytesLess a c=true
  |[],[],_,h,_=>by simp [Op.bytesLess] at h
  |[],_::_,[],_,k=>by simp [Op.bytesLess] at k
  |[],_::_,_::_,_,_=>by simp [Op.bytesLess]
  |_::_,[],_,h,_=>by simp [Op.bytesLess] at h
  |_::_,_::_,[],_,k=>by simp [Op.bytesLess] at k
  | x :: a, y :: b, z :: c, h, k => by
    simp only [Op.bytesLess,Bool.or_eq_true,Bool.and_eq_true,decide_eq_true_eq,beq_iff_eq] at h k ⊢
    rcases h with h|⟨rfl,h⟩
    · rcases k with k | ⟨rfl, k⟩
      · exact .inl (UInt8.lt_trans h k)
      exact .inl h
    rcases k with k|⟨rfl,k⟩
    · exact .inl k
    exact .inr ⟨rfl,bl_trans h k⟩
theorem bl_total: ∀{a b:List UInt8},Op.bytesLess a b=false→a≠b→Op.bytesLess b a=true
  |[],[],_,h=>absurd rfl h
  |[],_::_,h,_=>by simp [Op.bytesLess] at h
  |_::_,[],_,_=>by simp [Op.bytesLess]
  | x :: a, y :: b, h, k => by
    simp only [Op.bytesLess,Bool.or_eq_true,Bool.or_eq_false_iff,Bool.and_eq_false_iff,Bool.and_eq_true,decide_eq_true_eq,decide_eq_false_iff_not,beq_iff_eq,beq_eq_false_iff_ne] at h ⊢
    obtain ⟨h1,h2⟩:=h
    by_cases e:x=y
    · subst e
      rcases h2 with h2|h2
      · exact absurd rfl h2
      exact .inr ⟨rfl,bl_total h2 (fun e=>k (by rw [e]))⟩
    left
    have h3: ¬x.toNat<y.toNat:=by rwa [←UInt8.lt_iff_toNat_lt]
    have h4:x.toNat≠y.toNat:=fun q=>e (UInt8.toNat_inj.1 q)
    rw [UInt8.lt_iff_toNat_lt];omega
theorem lt_irrefl (a:ByteArray):lt a a=false:=bl_irrefl _
theorem lt_trans {a b c:ByteArray} (h:lt a b=true) (k:lt b c=true):lt a c=true:=bl_trans h k
theorem lt_total {a b:ByteArray} (h:lt a b=false) (k:a≠b):lt b a=true:=bl_total h (fun e=>k (nm_inj.1 e))
theorem lt_ne {a b:ByteArray} (h:lt a b=true):a≠b:=by rintro rfl;rw [lt_irrefl] at h;cases h
inductive Comp where|cpu|mem|pods
def Comp.of:Comp→Vec→Int| .cpu,v=>v.f0| .mem,v=>v.f1| .pods,v=>v.f2
def vadd (a b:Vec):Vec:=⟨a.f0+b.f0,a.f1+b.f1,a.f2+b.f2⟩
theorem of_vadd (c:Comp) (a b:Vec):c.of (vadd a b)=c.of a+c.of b:=by cases c<;>rfl
def MayP (v:Vec):Prop:= ∀c:Comp,0≤c.of v∧c.of v≤1099511627776
def LeP (a b:Vec):Prop:= ∀c:Comp,c.of a≤c.of b
theorem comp_all {p:Comp→Prop}:(∀c,p c)↔p .cpu∧p .mem∧p .pods:=
 ⟨fun h=>⟨h _,h _,h _⟩,fun ⟨a,b,d⟩ c=>by cases c<;>assumption⟩
instance (v:Vec):Decidable (MayP v):=decidable_of_iff _ comp_all.symm
instance (a b:Vec):Decidable (LeP a b):=decidable_of_iff _ comp_all.symm
theorem mayP_iff {a b d:Int}:MayP ⟨a,b,d⟩↔(0≤a∧a≤1099511627776)∧(0≤b∧b≤1099511627776)∧(0≤d∧d≤1099511627776):=comp_all
theorem leP_iff {a b d a' b' d':Int}:LeP ⟨a,b,d⟩ ⟨a',b',d'⟩↔a≤a'∧b≤b'∧d≤d':=comp_all
def sumBy (g:Item→Int) (l:List Item):Int:=(l.map g).sum
def csum (c:Comp) (l:List Item) (n:ByteArray):Int:=sumBy (fun y=>if y.f1=n then c.of y.f4 else 0) l
structure ItemOK (x:Item):Prop where
 name:x.f0≠⟨#[]⟩
 size:x.f0.size≤24
 lim:MayP x.f2
 own:MayP x.f3
 sub:MayP x.f4
 fit:LeP x.f4 x.f2
 ver:1≤x.f5∧x.f5≤9007199254740992
structure RightP (l:List Item):Prop where
 len:l.length≤120
 ok: ∀x∈l,ItemOK x
 sorted:l.Pairwise (fun x y=>lt x.f0 y.f0=true)
 par: ∀x∈l,x.f1=⟨#[]⟩∨ ∃y,look l x.f1=some y
 sum: ∀c:Comp,∀x∈l,c.of x.f4=c.of x.f3+csum c l x.f0
 chain: ∀x∈l,∃us,Chain l x.f0 us
theorem sorted_nodup {l:List Item} (h:l.Pairwise (fun x y=>lt x.f0 y.f0=true)):(l.map (·.f0)).Nodup:=by
 rw [List.Nodup,List.pairwise_map]
 exact h.imp (fun hxy=>lt_ne hxy)
theorem RightP.nodup {l:List Item} (h:RightP l):(l.map (·.f0)).Nodup:=sorted_nodup h.sorted
theorem look_of_mem {l:List Item} (hn:(l.map (·.f0)).Nodup) {x:Item} (hx:x∈l):look l x.f0=some x:=by
  induction l with
  |nil=>cases hx
  | cons y l ih =>
    rw [List.map_cons,List.nodup_cons] at hn
    unfold look
    rw [List.find?_cons]
    rcases List.mem_cons.1 hx with rfl|hx
    · simp
    have:y.f0≠x.f0:=fun e=>hn.1 (by rw [e];exact List.mem_map_of_mem hx)
    simp only [this,decide_false]
    exact ih hn.2 hx
theorem RightP.look {l:List Item} (h:RightP l) {x:Item} (hx:x∈l):look l x.f0=some x:=look_of_mem h.nodup hx
end Go.Proofs.Ytahidkjncljkaaa.Print

namespace Go.Proofs.Ytahidkjncljkaaa.Print
open Go.RowKit Go.Proofs.YtahidkjncljkaaaW.PrintWords Go.Proofs.YtahidkjncljkaaaW.PrintLast Go.Proofs.YtahidkjncljkaaaW.PrintMore
theorem vec_Le_eq (a b d a' b' d':Int):vec_Le.f a b d a' b' d'=some (decide (LeP ⟨a,b,d⟩ ⟨a',b',d'⟩)):=by
 unfold vec_Le.f
 by_cases h0:a≤a'<;>by_cases h1:b≤b'<;>simp [h0,h1,leP_iff]
theorem vec_May_eq (a b d:Int):vec_May.f a b d=some (decide (MayP ⟨a,b,d⟩)):=by
  unfold vec_May.f vec_Most.f
  simp only [vec_Le_eq,Option.bind_some]
  by_cases h:LeP ⟨0,0,0⟩ ⟨a,b,d⟩
  · rw [if_pos (by exact decide_eq_true h)]
    congr 1
    rw [Bool.eq_iff_iff,decide_eq_true_iff,decide_eq_true_iff,mayP_iff,leP_iff]
    rw [leP_iff] at h
    constructor<;>intro k<;>omega
  rw [if_neg (by simpa using h)]
  congr 1
  symm
  rw [decide_eq_false_iff_not,mayP_iff]
  rw [leP_iff] at h
  omega
end Go.Proofs.Ytahidkjncljkaaa.Print

namespace Go.Proofs.Ytahidkjncljkaaa.Print
open Go.RowKit Go.Proofs.YtahidkjncljkaaaW.PrintWords Go.Proofs.YtahidkjncljkaaaW.PrintLast Go.Proofs.YtahidkjncljkaaaW.PrintMore
attribute [local go_sem] max2_int min2_int max_two min_two max_three min_three max_four min_four

theorem wnx {i:Nat} (h:i<100000000):wrap64 ((i:Int)+1)=((i+1:Nat):Int):=by unfold wrap64;omega
def wmay (w:S39):Bool:=decide (w.f0≠⟨#[]⟩∧w.f0.size≤24∧MayP w.f2)
def wnames (l:List S39):List S39→Int→Int
 |[],_=>0
 |w::ws,i=>if wmay w=true then (if wplace l w.f0=i then wnames l ws (i+1) else 3) else 1
theorem wnames_drop {l:List S39} {i:Nat} (h:i<l.length):wnames l (l.drop i) i=if wmay (rd_T39 l i)=true then (if wplace l (rd_T39 l i).f0=i then wnames l (l.drop (i+1)) ((i+1:Nat):Int) else 3) else 1:=by
 rw [List.drop_eq_getElem_cons h]
 have e:rd_T39 l (i:Int)=l[i]:=by
  show l.getD (i:Int).toNat _=_
  rw [Int.toNat_natCast,List.getD_eq_getElem?_getD,List.getElem?_eq_getElem h,Option.getD_some]
 rw [e]
 rfl
set_option maxHeartbeats 8000000 in
set_option maxRecDepth 100000 in
theorem wantNames_calls (A:Option Addr) (c:Nat) (l:List S39) (w:World) (hr:Kd.C k39 w A l.length l) (hc:l.length≤c) (hl:l.length≤1000000):
    Calls Try.prog 72 #[.agg #[.slice A l.length c]] w fun e w'=>e= .returned (.int .i64 (wnames l l 0))∧Below w.heap.size w w':=by
  have hu110:=Try.underlying110
  have hu39:=Try.underlying39
  have HR:=Aside0.mk hr
  have HC:=Aside0.mk hc
  have HB:=am_ (Below.refl w.heap.size w)
  clear hr hc
  go_enter Try.func72,Try.ntmps72
  go_wp2_with (first|((with_reducible refine gate_dst (N:=1) rfl ?_);refine bx_ (N:=1) (cs:=#[.slice A l.length c]) (t:=110) ?_;intro gb1 hg w1 hbox hb;have BK1:=am_ (hbox);have GE1:=am_ ((by rw [hg];exact below_size HB.out:w.heap.size≤gb1));replace HB:=am_ (below_step HB.out hb);have EQ1:=am_ (hg);clear hb hbox hg;have cgb1_0:=(blk_cell BK1.out 0).trans rfl))
  go_loopg [8] l.length (fun kq v8 w'=> ∃i:Nat,v8= .int .i64 i∧i≤l.length∧l.length - i≤kq∧Aside0 (Below w.heap.size w w')∧Aside0 (w'.heap[gb1]?=some (.cells #[.slice A l.length c] 110 (0,0)))∧Aside0 (wnames l l 0=wnames l (l.drop i) i))
  case atStart=>exact ⟨0,rfl,by omega,by omega,HB,BK1,⟨rfl⟩⟩
  case round=>
    clear HB BK1 cgb1_0
    obtain ⟨i,rfl,hil,hkq,HB,BK1,HF⟩:=hrel
    by_cases hlt:i<l.length
    rotate_left
    · obtain rfl : i = l.length := by omega
      go_wp2
      go_ret
      refine ⟨?_,HB.out⟩
      rw [HF.out,List.drop_length]
      rfl


    have hltz:(i:Int)<(l.length:Int):=by omega
    obtain ⟨x,hx⟩: ∃x:Int,x=(i:Int):=⟨_,rfl⟩
    have HX0:=am_ (show 0≤x by omega)
    have HX1:=am_ (show x<(l.length:Int) by omega)
    have HD:=am_ (wnames_drop hlt)
    rw [←hx] at HD
    have HXI:=Aside0.mk hx
    rw [←hx]
    have hltx:x<(l.length:Int):=HX1.out
    clear hltz hx
    have p6:0≤x:=HX0.out
    have q6:x<(l.length:Int):=HX1.out
    obtain ⟨ad,e6,k0,k1,k2,k3,k4⟩:=at_T39 HR.out x p6 q6
    cases e6
    have k0:=zx_ HB k0
    have k1:=zx_ HB k1
    have k2:=zx_ HB k2
    have k3:=zx_ HB k3
    have k4:=zx_ HB k4
    replace p6:=eq_true p6
    replace q6:=eq_true q6
    have BK1_:=BK1
    by_cases hm:wmay (rd_T39 l x)=true
    rotate_left
    · have HM := hm
      unfold wmay at HM
      rw [decide_eq_true_iff] at HM
      rw [if_neg hm] at HD
      clear hm
      have HMM:=Aside0.mk HM
      clear HM
      by_cases e1:(rd_T39 l x).f0.toList.isEmpty=true
      · go_wp2_with (first | ((with_reducible refine gate_dst (N := 4) rfl ?_); refine bx_ (N := 4) (cs := #[.string ⟨#[]⟩, .string ⟨#[]⟩, .int .i64 0, .int .i64 0, .int .i64 0]) (t := 39) ?_; intro gb4 hg w4 hbox hb; replace BK1 := am_ (blk_below BK1.out hb); have BK4 := am_ (hbox); have GE4 := am_ ((by rw [hg]; exact below_size HB.out : w.heap.size ≤ gb4)); replace HB := am_ (below_step HB.out hb); have EQ4 := am_ (hg); have NE := am_ (show gb1 ≠ gb4 from by have := blk_lt BK1_.out; rw [hg]; exact Nat.ne_of_lt this); clear hb hbox hg; have cgb4_0 := (blk_cell BK4.out 0).trans rfl; have cgb4_1 := (blk_cell BK4.out 1).trans rfl; have cgb4_2 := (blk_cell BK4.out 2).trans rfl; have cgb4_3 := (blk_cell BK4.out 3).trans rfl; have cgb4_4 := (blk_cell BK4.out 4).trans rfl) | ((with_reducible refine gate_store (t := 39) (p := 4) (v := .tmp 12) rfl ?_); refine store_all BK4.out 39 (.tmp 4) (.tmp 12) rfl rfl rfl (.agg #[.string (rd_T39 l x).f0, .string (rd_T39 l x).f1, .int .i64 (rd_T39 l x).f2.f0, .int .i64 (rd_T39 l x).f2.f1, .int .i64 (rd_T39 l x).f2.f2]) [.string (rd_T39 l x).f0, .string (rd_T39 l x).f1, .int .i64 (rd_T39 l x).f2.f0, .int .i64 (rd_T39 l x).f2.f1, .int .i64 (rd_T39 l x).f2.f2] rfl rfl rfl (by kernel_rfl) rfl (by intro q hq; simp only [List.mem_cons, List.not_mem_nil, or_false] at hq; rcases hq with rfl | rfl | rfl | rfl | rfl <;> rfl) ?_; intro w5 hbk hg; clear cgb4_0 cgb4_1 cgb4_2 cgb4_3 cgb4_4; replace BK1 := am_ (blk_put_other BK1.out hg (NE.out)); replace HB := am_ (below_put HB.out (below_size HB.out) hg GE4.out); replace BK4 := am_ (hbk); clear hbk hg; have cgb4_0 := (blk_cell BK4.out 0).trans rfl; have cgb4_1 := (blk_cell BK4.out 1).trans rfl; have cgb4_2 := (blk_cell BK4.out 2).trans rfl; have cgb4_3 := (blk_cell BK4.out 3).trans rfl; have cgb4_4 := (blk_cell BK4.out 4).trans rfl))
        go_ret
        exact ⟨by rw [HF.out,←HXI.out,HD.out];rfl,HB.out⟩
      replace e1:=Bool.eq_false_iff.mpr e1
      by_cases e2:(24:Int)<((rd_T39 l x).f0.size:Int)
      · go_wp2_with (first | ((with_reducible refine gate_dst (N := 4) rfl ?_); refine bx_ (N := 4) (cs := #[.string ⟨#[]⟩, .string ⟨#[]⟩, .int .i64 0, .int .i64 0, .int .i64 0]) (t := 39) ?_; intro gb4 hg w4 hbox hb; replace BK1 := am_ (blk_below BK1.out hb); have BK4 := am_ (hbox); have GE4 := am_ ((by rw [hg]; exact below_size HB.out : w.heap.size ≤ gb4)); replace HB := am_ (below_step HB.out hb); have EQ4 := am_ (hg); have NE := am_ (show gb1 ≠ gb4 from by have := blk_lt BK1_.out; rw [hg]; exact Nat.ne_of_lt this); clear hb hbox hg; have cgb4_0 := (blk_cell BK4.out 0).trans rfl; have cgb4_1 := (blk_cell BK4.out 1).trans rfl; have cgb4_2 := (blk_cell BK4.out 2).trans rfl; have cgb4_3 := (blk_cell BK4.out 3).trans rfl; have cgb4_4 := (blk_cell BK4.out 4).trans rfl) | ((with_reducible refine gate_store (t := 39) (p := 4) (v := .tmp 12) rfl ?_); refine store_all BK4.out 39 (.tmp 4) (.tmp 12) rfl rfl rfl (.agg #[.string (rd_T39 l x).f0, .string (rd_T39 l x).f1, .int .i64 (rd_T39 l x).f2.f0, .int .i64 (rd_T39 l x).f2.f1, .int .i64 (rd_T39 l x).f2.f2]) [.string (rd_T39 l x).f0, .string (rd_T39 l x).f1, .int .i64 (rd_T39 l x).f2.f0, .int .i64 (rd_T39 l x).f2.f1, .int .i64 (rd_T39 l x).f2.f2] rfl rfl rfl (by kernel_rfl) rfl (by intro q hq; simp only [List.mem_cons, List.not_mem_nil, or_false] at hq; rcases hq with rfl | rfl | rfl | rfl | rfl <;> rfl) ?_; intro w5 hbk hg; clear cgb4_0 cgb4_1 cgb4_2 cgb4_3 cgb4_4; replace BK1 := am_ (blk_put_other BK1.out hg (NE.out)); replace HB := am_ (below_put HB.out (below_size HB.out) hg GE4.out); replace BK4 := am_ (hbk); clear hbk hg; have cgb4_0 := (blk_cell BK4.out 0).trans rfl; have cgb4_1 := (blk_cell BK4.out 1).trans rfl; have cgb4_2 := (blk_cell BK4.out 2).trans rfl; have cgb4_3 := (blk_cell BK4.out 3).trans rfl; have cgb4_4 := (blk_cell BK4.out 4).trans rfl))
        go_ret
        exact ⟨by rw [HF.out,←HXI.out,HD.out];rfl,HB.out⟩
      have HV:vec_May.f (rd_T39 l x).f2.f0 (rd_T39 l x).f2.f1 (rd_T39 l x).f2.f2=some false:=by
        rw [vec_May_eq]
        refine congrArg some (decide_eq_false fun q=>HMM.out ⟨fun h=> ?_,by omega,q⟩)
        rw [h] at e1
        rw [ByteArray.toList_eq] at e1
        exact absurd e1 (by simp)
      have HV:=Aside0.mk HV
      go_wp2_with (first|((with_reducible refine gate_dst (N:=4) rfl ?_);refine bx_ (N:=4) (cs:=#[.string ⟨#[]⟩, .string ⟨#[]⟩, .int .i64 0, .int .i64 0, .int .i64 0]) (t:=39) ?_;intro gb4 hg w4 hbox hb;replace BK1:=am_ (blk_below BK1.out hb);have BK4:=am_ (hbox);have GE4:=am_ ((by rw [hg];exact below_size HB.out:w.heap.size≤gb4));replace HB:=am_ (below_step HB.out hb);have EQ4:=am_ (hg);have NE:=am_ (show gb1≠gb4 from by have:=blk_lt BK1_.out;rw [hg];exact Nat.ne_of_lt this);clear hb hbox hg;have cgb4_0:=(blk_cell BK4.out 0).trans rfl;have cgb4_1:=(blk_cell BK4.out 1).trans rfl;have cgb4_2:=(blk_cell BK4.out 2).trans rfl;have cgb4_3:=(blk_cell BK4.out 3).trans rfl;have cgb4_4:=(blk_cell BK4.out 4).trans rfl)|((with_reducible refine gate_store (t:=39) (p:=4) (v:= .tmp 12) rfl ?_);refine store_all BK4.out 39 (.tmp 4) (.tmp 12) rfl rfl rfl (.agg #[.string (rd_T39 l x).f0, .string (rd_T39 l x).f1, .int .i64 (rd_T39 l x).f2.f0, .int .i64 (rd_T39 l x).f2.f1, .int .i64 (rd_T39 l x).f2.f2]) [.string (rd_T39 l x).f0, .string (rd_T39 l x).f1, .int .i64 (rd_T39 l x).f2.f0, .int .i64 (rd_T39 l x).f2.f1, .int .i64 (rd_T39 l x).f2.f2] rfl rfl rfl (by kernel_rfl) rfl (by intro q hq;simp only [List.mem_cons,List.not_mem_nil,or_false] at hq;rcases hq with rfl|rfl|rfl|rfl|rfl<;>rfl) ?_;intro w5 hbk hg;clear cgb4_0 cgb4_1 cgb4_2 cgb4_3 cgb4_4;replace BK1:=am_ (blk_put_other BK1.out hg (NE.out));replace HB:=am_ (below_put HB.out (below_size HB.out) hg GE4.out);replace BK4:=am_ (hbk);clear hbk hg;have cgb4_0:=(blk_cell BK4.out 0).trans rfl;have cgb4_1:=(blk_cell BK4.out 1).trans rfl;have cgb4_2:=(blk_cell BK4.out 2).trans rfl;have cgb4_3:=(blk_cell BK4.out 3).trans rfl;have cgb4_4:=(blk_cell BK4.out 4).trans rfl))
      clear k0 k1 k2 k3 k4 p6 q6
      go_wp2_with (go_at_call 111;refine (vec_May.calls _ _ _ _ _ HV.out).mono ?_;rintro e w6 ⟨rfl,hb⟩;have n0_:=am_ (blk_below BK1.out hb);have n1_:=am_ (blk_below BK4.out hb);have n2_:=am_ (below_step HB.out hb);clear BK1 BK4 HB hb cgb4_0 cgb4_1 cgb4_2 cgb4_3 cgb4_4;have BK1:=n0_;have BK4:=n1_;have HB:=n2_;clear n0_ n1_ n2_;have cgb4_0:=(blk_cell BK4.out 0).trans rfl;have cgb1_0:=(blk_cell BK1.out 0).trans rfl)
      go_ret
      exact ⟨by rw [HF.out,←HXI.out,HD.out];rfl,HB.out⟩
    have HM:=hm
    unfold wmay at HM
    rw [decide_eq_true_iff] at HM
    rw [if_pos hm] at HD
    clear hm
    have hE:(rd_T39 l x).f0.toList.isEmpty=false:=by
      cases q:(rd_T39 l x).f0.toList with
      |nil=>exact absurd (ByteArray.ext (Array.toList_inj.1 (by rw [←ByteArray.toList_eq,q]))) HM.1
      |cons _ _=>rfl
    have hS: ¬((rd_T39 l x).f0.size:Int)>24:=by have:=HM.2.1;omega
    have hS': ¬(24:Int)<((rd_T39 l x).f0.size:Int):=by have:=HM.2.1;omega
    have HV:vec_May.f (rd_T39 l x).f2.f0 (rd_T39 l x).f2.f1 (rd_T39 l x).f2.f2=some true:=by rw [vec_May_eq];exact congrArg some (decide_eq_true HM.2.2)
    have HV:=Aside0.mk HV
    clear HM
    go_wp2_with (first|((with_reducible refine gate_dst (N:=4) rfl ?_);refine bx_ (N:=4) (cs:=#[.string ⟨#[]⟩, .string ⟨#[]⟩, .int .i64 0, .int .i64 0, .int .i64 0]) (t:=39) ?_;intro gb4 hg w4 hbox hb;replace BK1:=am_ (blk_below BK1.out hb);have BK4:=am_ (hbox);have GE4:=am_ ((by rw [hg];exact below_size HB.out:w.heap.size≤gb4));replace HB:=am_ (below_step HB.out hb);have EQ4:=am_ (hg);have NE:=am_ (show gb1≠gb4 from by have:=blk_lt BK1_.out;rw [hg];exact Nat.ne_of_lt this);clear hb hbox hg;have cgb4_0:=(blk_cell BK4.out 0).trans rfl;have cgb4_1:=(blk_cell BK4.out 1).trans rfl;have cgb4_2:=(blk_cell BK4.out 2).trans rfl;have cgb4_3:=(blk_cell BK4.out 3).trans rfl;have cgb4_4:=(blk_cell BK4.out 4).trans rfl)|((with_reducible refine gate_store (t:=39) (p:=4) (v:= .tmp 12) rfl ?_);refine store_all BK4.out 39 (.tmp 4) (.tmp 12) rfl rfl rfl (.agg #[.string (rd_T39 l x).f0, .string (rd_T39 l x).f1, .int .i64 (rd_T39 l x).f2.f0, .int .i64 (rd_T39 l x).f2.f1, .int .i64 (rd_T39 l x).f2.f2]) [.string (rd_T39 l x).f0, .string (rd_T39 l x).f1, .int .i64 (rd_T39 l x).f2.f0, .int .i64 (rd_T39 l x).f2.f1, .int .i64 (rd_T39 l x).f2.f2] rfl rfl rfl (by kernel_rfl) rfl (by intro q hq;simp only [List.mem_cons,List.not_mem_nil,or_false] at hq;rcases hq with rfl|rfl|rfl|rfl|rfl<;>rfl) ?_;intro w5 hbk hg;clear cgb4_0 cgb4_1 cgb4_2 cgb4_3 cgb4_4;replace BK1:=am_ (blk_put_other BK1.out hg (NE.out));replace HB:=am_ (below_put HB.out (below_size HB.out) hg GE4.out);replace BK4:=am_ (hbk);clear hbk hg;have cgb4_0:=(blk_cell BK4.out 0).trans rfl;have cgb4_1:=(blk_cell BK4.out 1).trans rfl;have cgb4_2:=(blk_cell BK4.out 2).trans rfl;have cgb4_3:=(blk_cell BK4.out 3).trans rfl;have cgb4_4:=(blk_cell BK4.out 4).trans rfl))
    clear k0 k1 k2 k3 k4 p6 q6
    by_cases hq:wplace l (rd_T39 l x).f0=x
    · rw [if_pos hq] at HD
      have hqb:(wplace l (rd_T39 l x).f0 !=x)=false:=by rw [hq];simp
      clear hq
      go_wp2_with (first|(go_at_call 111;refine (vec_May.calls _ _ _ _ _ HV.out).mono ?_;rintro e w6 ⟨rfl,hb⟩;have n0_:=am_ (blk_below BK1.out hb);have n1_:=am_ (blk_below BK4.out hb);have n2_:=am_ (below_step HB.out hb);clear BK1 BK4 HB hb cgb4_0 cgb4_1 cgb4_2 cgb4_3 cgb4_4;have BK1:=n0_;have BK4:=n1_;have HB:=n2_;clear n0_ n1_ n2_;have cgb4_0:=(blk_cell BK4.out 0).trans rfl;have cgb1_0:=(blk_cell BK1.out 0).trans rfl)|(go_at_call 73;refine (wantFind_calls (some ad) c l (rd_T39 l x).f0 _ (Kd.C_below HR.out HB.out) HC.out).mono ?_;rintro e w7 ⟨rfl,hb⟩;have n0_:=am_ (blk_below BK1.out hb);have n2_:=am_ (below_step HB.out hb);clear BK1 BK4 HB hb;have BK1:=n0_;have HB:=n2_;clear n0_ n2_))
      go_roundg (l.length - (i+1))
      case measure=>omega
      case rel=>exact ⟨i+1,by rw [HXI.out,wnx (by omega)],by omega,by omega,HB,BK1,⟨by rw [HF.out,←HXI.out,HD.out]⟩⟩
    rw [if_neg hq] at HD
    have hqb:(wplace l (rd_T39 l x).f0 !=x)=true:=bne_iff_ne.mpr hq
    clear hq
    go_wp2_with (first|(go_at_call 111;refine (vec_May.calls _ _ _ _ _ HV.out).mono ?_;rintro e w6 ⟨rfl,hb⟩;have n0_:=am_ (blk_below BK1.out hb);have n1_:=am_ (blk_below BK4.out hb);have n2_:=am_ (below_step HB.out hb);clear BK1 BK4 HB hb cgb4_0 cgb4_1 cgb4_2 cgb4_3 cgb4_4;have BK1:=n0_;have BK4:=n1_;have HB:=n2_;clear n0_ n1_ n2_;have cgb4_0:=(blk_cell BK4.out 0).trans rfl;have cgb1_0:=(blk_cell BK1.out 0).trans rfl)|(go_at_call 73;refine (wantFind_calls (some ad) c l (rd_T39 l x).f0 _ (Kd.C_below HR.out HB.out) HC.out).mono ?_;rintro e w7 ⟨rfl,hb⟩;have n0_:=am_ (blk_below BK1.out hb);have n2_:=am_ (below_step HB.out hb);clear BK1 BK4 HB hb;have BK1:=n0_;have HB:=n2_;clear n0_ n2_))
    go_ret
    exact ⟨by rw [HF.out,←HXI.out,HD.out];rfl,HB.out⟩
end Go.Proofs.Ytahidkjncljkaaa.Print

namespace Go.Proofs.Ytahidkjncljkaaa.Print
open Go.RowKit Go.Proofs.YtahidkjncljkaaaW.PrintWords Go.Proofs.YtahidkjncljkaaaW.PrintLast Go.Proofs.YtahidkjncljkaaaW.PrintMore
open Go.Maps (Keyed)
open Go.WideMaps
theorem keyStr:Keyed Try.prog 9:=Maps.string_keyed Try.underlying9
theorem zeroInt (w:World):(zeroValue 3).run Try.prog w= .ok (.int .i64 0) w:=Try.zeroValue3 w
def MapAt (w:World) (b n:Nat) (f:ByteArray→Int):Prop:= ∃D:DataW Unit,w.ownsMap Try.prog 9 (plainElem Try.prog 3) b n D∧Maps.IsMap D∧ ∀s:ByteArray,s.size≤maxLen→D.atKey (.string s.data.toList) (.lit (.int .i64 0))= .lit (.int .i64 (f s))
theorem MapAt.made (w:World):MapAt (w.alloc (.map #[] 0)) w.heap.size 0 (fun _=>0):=⟨.map [],World.ownsMap_made _ _ _ _,Maps.isMap_empty,fun s _=>rfl⟩
theorem MapAt.lt {w:World} {b n:Nat} {f:ByteArray→Int} (h:MapAt w b n f):b<w.heap.size:=by obtain ⟨D,h,_⟩:=h;exact h.lt
theorem MapAt.kept {w w':World} {b n:Nat} {f:ByteArray→Int} (h:MapAt w b n f) (hb:w'.heap[b]?=w.heap[b]?):MapAt w' b n f:=by
 obtain ⟨D,⟨es,clock,h1,h2⟩,h3⟩:=h
 exact ⟨D,⟨es,clock,hb.trans h1,h2⟩,h3⟩
theorem MapAt.below {w w':World} {b n:Nat} {f:ByteArray→Int} (h:MapAt w b n f) (hb:Below w.heap.size w w'):MapAt w' b n f:=h.kept (hb.block b h.lt)
theorem MapAt.other {w w':World} {b n g:Nat} {f:ByteArray→Int} (h:MapAt w b n f) (hg:w.grownBy w' (some g)) (hne:b≠g):MapAt w' b n f:=h.kept (hg.block b h.lt (by intro e;cases e;exact hne rfl))
theorem MapAt.mono {w:World} {b n m:Nat} {f:ByteArray→Int} (h:MapAt w b n f) (hn:n≤m):MapAt w b m f:=by obtain ⟨D,h,q⟩:=h;exact ⟨D,h.mono hn,q⟩
theorem MapAt.look {w:World} {b n:Nat} {f:ByteArray→Int} (h:MapAt w b n f) {t:TypeId} (ht:Try.prog.underlying t=some (.map 9 3)) {s:ByteArray} (hs:s.size≤maxLen) (wq:World) (hq:wq.heap=w.heap):(Instr.lookup t (.map (some b)) (.string s) false).run Try.prog wq= .ok (.int .i64 (f s)) wq:=by
 obtain ⟨D,h,_,hf⟩:=h.kept (w':=wq) (by rw [hq])
 obtain ⟨c,hrun,hat,_⟩:=h.lookup_int keyStr ht Try.underlying3 (zeroInt _) (keyOf_string_mk Try.underlying9 hs)
 rw [hf s hs] at hat
 rw [hrun]
 simp only [DataW.lit.injEq,Lit.int.injEq,true_and] at hat
 rw [hat]
theorem str_key {s t:ByteArray}:(Lit.string s.data.toList)=(Lit.string t.data.toList)↔s=t:=by
  constructor
  rotate_left
  · rintro rfl;rfl
  intro h
  simp only [Lit.string.injEq] at h
  exact ByteArray.ext (Array.toList_inj.1 h)
def updM (f:ByteArray→Int) (s:ByteArray) (v:Int):ByteArray→Int:=fun x=>if x=s then v else f x
theorem MapAt.upd {w:World} {b n:Nat} {f:ByteArray→Int} (h:MapAt w b n f) {t:TypeId} (ht:Try.prog.underlying t=some (.map 9 3)) (hn:n<maxLen) {s:ByteArray} (hs:s.size≤maxLen) {v:Int} (hv:(Lit.int .i64 v).wf=true):
    ∃w',(Instr.mapUpdate t (.map (some b)) (.string s) (.int .i64 v)).run Try.prog w= .ok () w'∧MapAt w' b (n+1) (updM f s v)∧w.grownBy w' (some b):=by
  obtain ⟨D,h,hm,hf⟩:=h
  obtain ⟨w',hrun,ho,hg⟩:=h.update keyStr ht hn (keyOf_string_mk Try.underlying9 hs) (plainElem_int Try.underlying3 hv)
  refine ⟨w',hrun,⟨_,ho,hm.put _ _,fun x hx=> ?_⟩,hg⟩
  unfold updM
  by_cases e:x=s
  · rw [if_pos e,e,Maps.atKey_put_same hm (by trivial)]
  rw [if_neg e,Maps.atKey_put_other (fun q=>e (str_key.1 q)),hf x hx]
section
variable {ops:Array Oper} {rest:List Oper} {o:Oper} {a:Act} {Q:Exit→Act→World→Prop} {Kc:Act→World→Prop} {W:World}
theorem map_step {b n:Nat} {f:ByteArray→Int} (hm:MapAt W b n f) (hw:Region.wanted o (yielded ops a.tmps)=true) (t:TypeId) (ht:Try.prog.underlying t=some (.map 9 3)) (m x y:Operand) (ho:o.op= .mapUpdate t m x y) (hN:o.dst=none) (s:ByteArray) (v:Int)
  (h1:a.eval m= .map (some b)) (h2:a.eval x= .string s) (h3:a.eval y= .int .i64 v) (hn:n<maxLen) (hs:s.size≤maxLen) (hv:(Lit.int .i64 v).wf=true)
  (h: ∀w',MapAt w' b (n+1) (updM f s v)→W.grownBy w' (some b)→Kc a w'):if Region.wanted o (yielded ops a.tmps)=true then Oper.wp Try.prog o a W Kc Q else Kc (a.put none undef) W:=by
 obtain ⟨w',hrun,hc,hg⟩:=hm.upd ht hn hs hv
 rw [if_pos hw]
 unfold Oper.wp execOp
 simp only [ho,h1,h2,h3,Sem.run_bind,Sem.run_pure,Result.andThen_ok,hrun]
 show Kc (a.put o.dst undef) _
 rw [hN]
 exact h _ hc hg
end
end Go.Proofs.Ytahidkjncljkaaa.Print

namespace Go.Proofs.Ytahidkjncljkaaa.Print
open Go.RowKit Go.Proofs.YtahidkjncljkaaaW.PrintWords Go.Proofs.YtahidkjncljkaaaW.PrintLast Go.Proofs.YtahidkjncljkaaaW.PrintMore
def KeptB (b:Nat) (W w:World):Prop:=(∀g ob,g≠b→W.heap[g]?=some ob→w.heap[g]?=some ob)∧W.heap.size≤w.heap.size
theorem keptB_refl (b:Nat) (W:World):KeptB b W W:=⟨fun _ _ _ h=>h,Nat.le_refl _⟩
theorem keptB_below {b:Nat} {W w w1:World} (h:KeptB b W w) (hb:Below w.heap.size w w1):KeptB b W w1:=⟨fun g ob hn hg=>blk_below (h.1 g ob hn hg) hb,Nat.le_trans h.2 hb.size⟩
theorem keptB_put {b g:Nat} {W w w1:World} (h:KeptB b W w) (hg:w.grownBy w1 (some g)) (hx:g=b∨W.heap.size≤g):KeptB b W w1:=
  ⟨fun k ob hn hk=>blk_put_other (h.1 k ob hn hk) hg (fun e=>by
    rcases hx with rfl|hx
    · exact hn e
    have:=blk_lt hk
    omega),Nat.le_trans h.2 hg.size⟩
end Go.Proofs.Ytahidkjncljkaaa.Print

namespace Go.Proofs.Ytahidkjncljkaaa.Print
open Go.RowKit Go.Proofs.YtahidkjncljkaaaW.PrintWords Go.Proofs.YtahidkjncljkaaaW.PrintLast Go.Proofs.YtahidkjncljkaaaW.PrintMore
attribute [local go_sem] max2_int min2_int max_two min_two max_three min_three max_four min_four

def fstep (f:ByteArray→Int) (w:S39):ByteArray→Int:=if w.f1=⟨#[]⟩ then updM f w.f0 1 else if f w.f1>0 then updM f w.f0 (wrap64 (f w.f1+1)) else f
def fround (l:List S39) (f:ByteArray→Int):ByteArray→Int:=l.foldl fstep f
def frounds (l:List S39):Nat→(ByteArray→Int)→ByteArray→Int
 |0,f=>f
 |n+1,f=>frounds l n (fround l f)
def fillR (l:List S39):ByteArray→Int:=frounds l l.length (fun _=>0)
theorem fround_drop {l:List S39} {i:Nat} (h:i<l.length) (f:ByteArray→Int):(l.drop i).foldl fstep f=(l.drop (i+1)).foldl fstep (fstep f (rd_T39 l i)):=by
 rw [List.drop_eq_getElem_cons h,List.foldl_cons]
 have e:rd_T39 l (i:Int)=l[i]:=by
  show l.getD (i:Int).toNat _=_
  rw [Int.toNat_natCast,List.getD_eq_getElem?_getD,List.getElem?_eq_getElem h,Option.getD_some]
 rw [e]
def smallW (l:List S39):Prop:= ∀w∈l,w.f0.size≤1000000∧w.f1.size≤1000000
theorem smallW_rd {l:List S39} (h:smallW l) (i:Int):(rd_T39 l i).f0.size≤maxLen∧(rd_T39 l i).f1.size≤maxLen:=by
  show (l.getD i.toNat _).f0.size≤_∧(l.getD i.toNat _).f1.size≤_
  rw [List.getD_eq_getElem?_getD]
  cases e:l[i.toNat]? with
  |none=>exact ⟨by show (0:Nat)≤_;omega,by show (0:Nat)≤_;omega⟩
  | some x =>
    have:=h x (List.mem_of_getElem? e)
    unfold maxLen
    exact ⟨by show x.f0.size≤_;omega,by show x.f1.size≤_;omega⟩
theorem wf64 (n:Int):(Lit.int .i64 (wrap64 n)).wf=true:=by
  simp only [Lit.wf,Bool.and_eq_true,decide_eq_true_eq]
  unfold wrap64
  constructor
  · show (-9223372036854775808:Int)≤_;omega
  show _≤(9223372036854775807:Int);omega
set_option maxHeartbeats 8000000 in
set_option maxRecDepth 100000 in
theorem wantFill_calls (w W:World) (b:Nat) (A:Option Addr) (c:Nat) (l:List S39) (m0:Option Nat) (hb:W.heap[b]?=some (.cells #[.slice A l.length c, .map m0] 113 (0,0))) (hge:w.heap.size≤b) (hB:Below w.heap.size w W) (hr:Kd.C k39 w A l.length l) (hc:l.length≤c) (hl:l.length≤1000) (hs:smallW l):
    Calls Try.prog 74 #[.pointer (some ⟨b,0,none⟩)] W fun e w'=>e= .returned (.tuple #[])∧ ∃mb n,w'.heap[b]?=some (.cells #[.slice A l.length c, .map (some mb)] 113 (0,0))∧MapAt w' mb n (fillR l)∧Below w.heap.size w w'∧ ∀g ob,g≠b→W.heap[g]?=some ob→w'.heap[g]?=some ob:=by
  have hu113:=Try.underlying113
  have hu110:=Try.underlying110
  have hu39:=Try.underlying39
  have hmm:=@run_makeMap Try.prog
  have BK:=Aside0.mk hb
  have GE:=Aside0.mk hge
  have HB:=Aside0.mk hB
  have HR:=Aside0.mk hr
  have HC:=Aside0.mk hc
  have HS:=Aside0.mk hs
  have KP:=am_ (keptB_refl b W)
  have HBW:=HB
  have cb_0:=(blk_cell BK.out 0).trans rfl
  have cb_1:=(blk_cell BK.out 1).trans rfl
  clear hb hge hB hr hc hs
  go_enter Try.func74,Try.ntmps74
  have HBL:=am_ (blk_lt BK.out)
  go_wp2_with ((with_reducible refine gate_store (t:=111) (p:=8) (v:= .tmp 6) rfl ?_);refine store_part (blk_alloc BK.out _) 111 (.tmp 8) (.tmp 6) rfl rfl rfl 1 (.map (some W.heap.size)) [.map (some W.heap.size)] [.slice A l.length c, .map (some W.heap.size)] rfl rfl rfl (by kernel_rfl) (Nat.le_of_ble_eq_true (by kernel_rfl)) (by intro q hq;simp only [List.mem_cons,List.not_mem_nil,or_false] at hq;rcases hq with rfl;rfl) (by kernel_rfl) ?_;intro w2 hbk hg;clear cb_0 cb_1;have MP:=am_ ((MapAt.made W).other hg (Nat.ne_of_gt HBL.out));have n0_:=am_ (below_put (below_alloc HB.out _) (by have:=below_size HB.out;simp;omega) hg GE.out);have n1_:=am_ (keptB_put (keptB_below KP.out (below_alloc (Below.refl _ _) _)) hg (.inl rfl));have n2_:=Aside0.mk hbk;clear BK HB KP hbk hg;have BK:=n2_;have HB:=n0_;have KP:=n1_;clear n0_ n1_ n2_;have cb_0:=(blk_cell BK.out 0).trans rfl)
  go_loopg [15] l.length (fun kq v15 w'=> ∃(i mb n:Nat) (f:ByteArray→Int),v15= .int .i64 i∧i≤l.length∧l.length - i≤kq∧n≤1000*i∧Aside0 (mb≠b∧W.heap.size≤mb)∧Aside0 (w'.heap[b]?=some (.cells #[.slice A l.length c, .map (some mb)] 113 (0,0)))∧Aside0 (MapAt w' mb n f)∧Aside0 (Below w.heap.size w w')∧Aside0 (KeptB b W w')∧Aside0 (fillR l=frounds l (l.length - i) f))
  case atStart=>exact ⟨0,W.heap.size,0,fun _=>0,rfl,by omega,by omega,by omega,⟨Nat.ne_of_gt HBL.out,Nat.le_refl _⟩,BK,MP,HB,KP,⟨rfl⟩⟩
  case round=>
    clear BK MP HB KP cb_0
    obtain ⟨i,mb,n,f,rfl,hil,hkq,hn,HM,BK,MP,HB,KP,HF⟩:=hrel
    by_cases hlt:i<l.length
    rotate_left
    · obtain rfl : i = l.length := by omega
      go_wp2
      go_end0
      refine ⟨rfl,mb,n,BK.out, ?_,HB.out,KP.out.1⟩
      rw [HF.out,Nat.sub_self]
      exact MP.out


    have hltz:(i:Int)<(l.length:Int):=by omega
    have cb_0:=(blk_cell BK.out 0).trans rfl
    go_wp2
    clear cb_0
    go_loopg [23] l.length (fun kq v23 w'=> ∃(j n2:Nat) (f2:ByteArray→Int),v23= .int .i64 j∧j≤l.length∧l.length - j≤kq∧n2≤1000*i+j∧Aside0 (w'.heap[b]?=some (.cells #[.slice A l.length c, .map (some mb)] 113 (0,0)))∧Aside0 (MapAt w' mb n2 f2)∧Aside0 (Below w.heap.size w w')∧Aside0 (KeptB b W w')∧Aside0 (fround l f=(l.drop j).foldl fstep f2))
    case atStart=>exact ⟨0,n,f,rfl,by omega,by omega,by omega,BK,MP,HB,KP,⟨rfl⟩⟩
    case round=>
      clear BK MP HB KP
      obtain ⟨j,n2,f2,rfl,hjl,hkj,hn2,BK,MP,HB,KP,HG⟩:=hrel
      by_cases hjt:j<l.length
      rotate_left
      · obtain rfl : j = l.length := by omega
        go_wp2
        go_roundg (l.length - (i+1))
        case measure=>omega
        case rel=>exact ⟨i+1,mb,n2,f2,by first|rfl|go_num,by omega,Nat.le_refl _,by omega,HM,BK,MP,HB,KP,⟨by
          have e:fround l f=f2:=by rw [HG.out,List.drop_length];rfl
          rw [HF.out,show l.length - i=(l.length - (i+1))+1 by omega]
          show frounds l _ (fround l f)=_
          rw [e]⟩⟩
      have hjz:(j:Int)<(l.length:Int):=by omega
      obtain ⟨x,hx⟩: ∃x:Int,x=(j:Int):=⟨_,rfl⟩
      have HX0:=am_ (show 0≤x by omega)
      have HX1:=am_ (show x<(l.length:Int) by omega)
      have HD:=am_ (fround_drop hjt f2)
      rw [←hx] at HD
      have HXI:=Aside0.mk hx
      rw [←hx]
      have hltx:x<(l.length:Int):=HX1.out
      have SM:=am_ (smallW_rd HS.out x)
      clear hjz hx
      have p6:0≤x:=HX0.out
      have q6:x<(l.length:Int):=HX1.out
      obtain ⟨ad,e6,k0,k1,k2,k3,k4⟩:=at_T39 HR.out x p6 q6
      cases e6
      have k0:=zx_ HB k0
      have k1:=zx_ HB k1
      have k2:=zx_ HB k2
      have k3:=zx_ HB k3
      have k4:=zx_ HB k4
      replace p6:=eq_true p6
      replace q6:=eq_true q6
      by_cases e1:(rd_T39 l x).f1=⟨#[]⟩
      · have hE : (rd_T39 l x).f1.toList.isEmpty = true := by rw [e1, ByteArray.toList_eq]; rfl
        have E1:=Aside0.mk e1
        clear e1
        go_wp2_with (first|((with_reducible refine gate_dst (N:=3) rfl ?_);refine bx_ (N:=3) (cs:=#[.string ⟨#[]⟩, .string ⟨#[]⟩, .int .i64 0, .int .i64 0, .int .i64 0]) (t:=39) ?_;intro gb3 hg w4 hbox hb;have NE:=am_ (show b≠gb3 from by have:=blk_lt BK.out;rw [hg];exact Nat.ne_of_lt this);have NM:=am_ (show mb≠gb3 from by have:=MP.out.lt;rw [hg];exact Nat.ne_of_lt this);have GW:=am_ (show W.heap.size≤gb3 from by rw [hg];exact KP.out.2);have GE3:=am_ (show w.heap.size≤gb3 from by rw [hg];exact below_size HB.out);have n0_:=am_ (blk_below BK.out hb);have n1_:=am_ (MP.out.below hb);have n2_:=am_ (below_step HB.out hb);have n3_:=am_ (keptB_below KP.out hb);have BK3:=Aside0.mk hbox;clear BK MP HB KP hb hbox hg;have BK:=n0_;have MP:=n1_;have HB:=n2_;have KP:=n3_;clear n0_ n1_ n2_ n3_;have c3_0:=(blk_cell BK3.out 0).trans rfl;have c3_1:=(blk_cell BK3.out 1).trans rfl;have c3_2:=(blk_cell BK3.out 2).trans rfl;have c3_3:=(blk_cell BK3.out 3).trans rfl;have c3_4:=(blk_cell BK3.out 4).trans rfl)|((with_reducible refine gate_store (t:=39) (p:=3) (v:= .tmp 26) rfl ?_);refine store_all BK3.out 39 (.tmp 3) (.tmp 26) rfl rfl rfl (.agg #[.string (rd_T39 l x).f0, .string (rd_T39 l x).f1, .int .i64 (rd_T39 l x).f2.f0, .int .i64 (rd_T39 l x).f2.f1, .int .i64 (rd_T39 l x).f2.f2]) [.string (rd_T39 l x).f0, .string (rd_T39 l x).f1, .int .i64 (rd_T39 l x).f2.f0, .int .i64 (rd_T39 l x).f2.f1, .int .i64 (rd_T39 l x).f2.f2] rfl rfl rfl (by kernel_rfl) rfl (by intro q hq;simp only [List.mem_cons,List.not_mem_nil,or_false] at hq;rcases hq with rfl|rfl|rfl|rfl|rfl<;>rfl) ?_;intro w5 hbk hg;clear c3_0 c3_1 c3_2 c3_3 c3_4;have n0_:=am_ (blk_put_other BK.out hg NE.out);have n1_:=am_ (MP.out.other hg NM.out);have n2_:=am_ (below_put HB.out (below_size HB.out) hg GE3.out);have n3_:=am_ (keptB_put KP.out hg (.inr GW.out));have n4_:=Aside0.mk hbk;clear BK MP HB KP BK3 hbk hg;have BK:=n0_;have MP:=n1_;have HB:=n2_;have KP:=n3_;have BK3:=n4_;clear n0_ n1_ n2_ n3_ n4_;have c3_1:=(blk_cell BK3.out 1).trans rfl))
        clear k0 k1 k2 k3 k4 p6 q6
        have n0_:=am_ (blk_drew BK.out)
        have n1_:=am_ (MP.out.kept (w':=w5.drew) rfl)
        have n2_:=am_ (below_drew1 HB.out)
        have n3_:=am_ (keptB_below KP.out (below_drew1 (Below.refl _ _)))
        have n4_:=am_ (blk_drew BK3.out)
        clear BK MP HB KP BK3 c3_1
        have BK:=n0_
        have MP:=n1_
        have HB:=n2_
        have KP:=n3_
        have BK3:=n4_
        clear n0_ n1_ n2_ n3_ n4_
        refine start_ (n:=7) (S:=fun w'=>w'.cell? ⟨b,1,none⟩=some (.map (some mb))∧w'.cell? ⟨gb3,0,none⟩=some (.string (rd_T39 l x).f0)) (ds:=[6]) (bt_ 7 0) (by kernel_rfl) rfl rfl ⟨(blk_cell BK.out 1).trans rfl,(blk_cell BK3.out 0).trans rfl⟩ (fun hHeld=> ?_)
        generalize w5.drew=w9 at BK MP HB KP BK3 hHeld ⊢
        refine pv_ (i:=0) (N:=some 30) (bt_ 7 1) ?_
        refine pv_ (i:=1) (N:=some 31) (bt_ 7 3) ?_
        refine pv_ (i:=2) (N:=some 32) (bt_ 7 7) ?_
        refine tv_ (i:=3) (N:=some 33) (bt_ 7 15) hHeld ?_
        refine pv_ (i:=4) (N:=some 34) (bt_ 7 31) ?_
        refine tv_ (i:=5) (N:=some 35) (bt_ 7 63) hHeld ?_
        refine last_ (i:=6) (N:=none) (bt_ 7 127) rfl rfl (by kernel_rfl) (by decide) (fun K hK=> ?_)
        refine map_step MP.out (by rfl) 111 Try.underlying111 (.tmp 33) (.tmp 35) (.const (.int .i64 1)) rfl rfl _ _ rfl rfl rfl (by unfold maxLen;omega) SM.out.1 (by decide) ?_
        intro w10 hm hg
        have n0_:=am_ (blk_put_other BK.out hg (fun e=>HM.out.1 e.symm))
        have n1_:=Aside0.mk hm
        have n2_:=am_ (below_put HB.out (below_size HB.out) hg (Nat.le_trans (below_size HBW.out) HM.out.2))
        have n3_:=am_ (keptB_put KP.out hg (.inr HM.out.2))
        clear BK MP HB KP BK3 hm hg
        have BK:=n0_
        have MP:=n1_
        have HB:=n2_
        have KP:=n3_
        clear n0_ n1_ n2_ n3_
        refine hK.out _ _ ?_
        clear hK K hHeld
        refine done_ (by kernel_rfl) ?_
        go_wp2
        go_roundg (l.length - (j+1))
        case measure=>omega
        case rel=>exact ⟨j+1,n2+1,_,by rw [HXI.out,wnx (by omega)],by omega,Nat.le_refl _,by omega,BK,MP,HB,KP,⟨by rw [HG.out,HD.out];unfold fstep;rw [if_pos E1.out]⟩⟩
      have hE:(rd_T39 l x).f1.toList.isEmpty=false:=by
        cases q:(rd_T39 l x).f1.toList with
        |nil=>exact absurd (ByteArray.ext (Array.toList_inj.1 (by rw [←ByteArray.toList_eq,q]))) e1
        |cons _ _=>rfl
      have E1:=Aside0.mk e1
      clear e1
      go_wp2_with (first|((with_reducible refine gate_dst (N:=3) rfl ?_);refine bx_ (N:=3) (cs:=#[.string ⟨#[]⟩, .string ⟨#[]⟩, .int .i64 0, .int .i64 0, .int .i64 0]) (t:=39) ?_;intro gb3 hg w4 hbox hb;have NE:=am_ (show b≠gb3 from by have:=blk_lt BK.out;rw [hg];exact Nat.ne_of_lt this);have NM:=am_ (show mb≠gb3 from by have:=MP.out.lt;rw [hg];exact Nat.ne_of_lt this);have GW:=am_ (show W.heap.size≤gb3 from by rw [hg];exact KP.out.2);have GE3:=am_ (show w.heap.size≤gb3 from by rw [hg];exact below_size HB.out);have n0_:=am_ (blk_below BK.out hb);have n1_:=am_ (MP.out.below hb);have n2_:=am_ (below_step HB.out hb);have n3_:=am_ (keptB_below KP.out hb);have BK3:=Aside0.mk hbox;clear BK MP HB KP hb hbox hg;have BK:=n0_;have MP:=n1_;have HB:=n2_;have KP:=n3_;clear n0_ n1_ n2_ n3_;have c3_0:=(blk_cell BK3.out 0).trans rfl;have c3_1:=(blk_cell BK3.out 1).trans rfl;have c3_2:=(blk_cell BK3.out 2).trans rfl;have c3_3:=(blk_cell BK3.out 3).trans rfl;have c3_4:=(blk_cell BK3.out 4).trans rfl)|((with_reducible refine gate_store (t:=39) (p:=3) (v:= .tmp 26) rfl ?_);refine store_all BK3.out 39 (.tmp 3) (.tmp 26) rfl rfl rfl (.agg #[.string (rd_T39 l x).f0, .string (rd_T39 l x).f1, .int .i64 (rd_T39 l x).f2.f0, .int .i64 (rd_T39 l x).f2.f1, .int .i64 (rd_T39 l x).f2.f2]) [.string (rd_T39 l x).f0, .string (rd_T39 l x).f1, .int .i64 (rd_T39 l x).f2.f0, .int .i64 (rd_T39 l x).f2.f1, .int .i64 (rd_T39 l x).f2.f2] rfl rfl rfl (by kernel_rfl) rfl (by intro q hq;simp only [List.mem_cons,List.not_mem_nil,or_false] at hq;rcases hq with rfl|rfl|rfl|rfl|rfl<;>rfl) ?_;intro w5 hbk hg;clear c3_0 c3_1 c3_2 c3_3 c3_4;have n0_:=am_ (blk_put_other BK.out hg NE.out);have n1_:=am_ (MP.out.other hg NM.out);have n2_:=am_ (below_put HB.out (below_size HB.out) hg GE3.out);have n3_:=am_ (keptB_put KP.out hg (.inr GW.out));have n4_:=Aside0.mk hbk;clear BK MP HB KP BK3 hbk hg;have BK:=n0_;have MP:=n1_;have HB:=n2_;have KP:=n3_;have BK3:=n4_;clear n0_ n1_ n2_ n3_ n4_;have c3_1:=(blk_cell BK3.out 1).trans rfl))
      clear k0 k1 k2 k3 k4 p6 q6
      have cb_1:=(blk_cell BK.out 1).trans rfl
      have z0:=fun (n_:Nat)=>(show (w5.drewN n_).cell? _=some _ from cb_1)
      have z1:=fun (n_:Nat)=>(show (w5.drewN n_).cell? _=some _ from c3_1)
      have z2:=fun (n_:Nat)=>MP.out.look Try.underlying111 SM.out.2 (w5.drewN n_) rfl
      by_cases e2:0<f2 (rd_T39 l x).f1
      rotate_left
      · have E2 := Aside0.mk e2
        go_quiet (fail)
        try go_wp2
        clear z0 z1 z2 cb_1 c3_1
        replace BK:=am_ (blk_drewN BK.out nq)
        replace MP:=am_ (MP.out.kept (w':=w5.drewN nq) rfl)
        replace HB:=am_ (pw_below_drewN HB.out nq)
        replace KP:=am_ (keptB_below KP.out (pw_below_drewN (Below.refl _ _) nq))
        replace BK3:=am_ (blk_drewN BK3.out nq)
        generalize w5.drewN nq=w8 at BK MP HB KP BK3 ⊢
        go_roundg (l.length - (j+1))
        case measure=>omega
        case rel=>exact ⟨j+1,n2,f2,by rw [HXI.out,wnx (by omega)],by omega,Nat.le_refl _,by omega,BK,MP,HB,KP,⟨by rw [HG.out,HD.out];unfold fstep;rw [if_neg E1.out,if_neg (by have:=E2.out;omega)]⟩⟩
      have E2:=Aside0.mk e2
      go_quiet (fail)
      try go_wp2
      clear z0 z1 z2 cb_1 c3_1
      replace BK:=am_ (blk_drewN BK.out nq)
      replace MP:=am_ (MP.out.kept (w':=w5.drewN nq) rfl)
      replace HB:=am_ (pw_below_drewN HB.out nq)
      replace KP:=am_ (keptB_below KP.out (pw_below_drewN (Below.refl _ _) nq))
      replace BK3:=am_ (blk_drewN BK3.out nq)
      generalize w5.drewN nq=w8 at BK MP HB KP BK3 ⊢
      replace BK:=am_ (blk_drew BK.out)
      replace MP:=am_ (MP.out.kept (w':=w8.drew) rfl)
      replace HB:=am_ (below_drew1 HB.out)
      replace KP:=am_ (keptB_below KP.out (below_drew1 (Below.refl _ _)))
      replace BK3:=am_ (blk_drew BK3.out)
      refine start_ (n:=9) (S:=fun w'=>w'.cell? ⟨b,1,none⟩=some (.map (some mb))∧w'.cell? ⟨gb3,0,none⟩=some (.string (rd_T39 l x).f0)) (ds:=[8]) (bt_ 9 0) (by kernel_rfl) rfl rfl ⟨(blk_cell BK.out 1).trans rfl,(blk_cell BK3.out 0).trans rfl⟩ (fun hHeld=> ?_)
      generalize w8.drew=w9 at BK MP HB KP BK3 hHeld ⊢
      refine pv_ (i:=0) (N:=some 45) (bt_ 9 1) ?_
      refine pv_ (i:=1) (N:=some 46) (bt_ 9 3) ?_
      refine pv_ (i:=2) (N:=some 47) (bt_ 9 7) ?_
      refine tv_ (i:=3) (N:=some 48) (bt_ 9 15) hHeld ?_
      refine pv_ (i:=4) (N:=some 49) (bt_ 9 31) ?_
      refine tv_ (i:=5) (N:=some 50) (bt_ 9 63) hHeld ?_
      refine pv_ (i:=6) (N:=some 51) (bt_ 9 127) ?_
      refine pv_ (i:=7) (N:=some 52) (bt_ 9 255) ?_
      refine last_ (i:=8) (N:=none) (bt_ 9 511) rfl rfl (by kernel_rfl) (by decide) (fun K hK=> ?_)
      refine map_step MP.out (by rfl) 111 Try.underlying111 (.tmp 48) (.tmp 50) (.tmp 52) rfl rfl _ _ rfl rfl rfl (by unfold maxLen;omega) SM.out.1 (wf64 _) ?_
      intro w10 hm hg
      have n0_:=am_ (blk_put_other BK.out hg (fun e=>HM.out.1 e.symm))
      have n1_:=Aside0.mk hm
      have n2_:=am_ (below_put HB.out (below_size HB.out) hg (Nat.le_trans (below_size HBW.out) HM.out.2))
      have n3_:=am_ (keptB_put KP.out hg (.inr HM.out.2))
      clear BK MP HB KP BK3 hm hg
      have BK:=n0_
      have MP:=n1_
      have HB:=n2_
      have KP:=n3_
      clear n0_ n1_ n2_ n3_
      refine hK.out _ _ ?_
      clear hK K hHeld
      refine done_ (by kernel_rfl) ?_
      go_wp2
      go_roundg (l.length - (j+1))
      case measure=>omega
      case rel=>exact ⟨j+1,n2+1,_,by rw [HXI.out,wnx (by omega)],by omega,Nat.le_refl _,by omega,BK,MP,HB,KP,⟨by rw [HG.out,HD.out];unfold fstep;rw [if_neg E1.out,if_pos E2.out]⟩⟩
end Go.Proofs.Ytahidkjncljkaaa.Print

namespace Go.Proofs.Ytahidkjncljkaaa.Print
open Go.Sort
variable {α:Type} [Inhabited α]
def SwapAt (x y n:Nat) (d d':Array α):Prop:=d'.size=d.size∧ ∀k,d'[k]! =if x≤k∧k<x+n then d[k+(y - x)]! else if y≤k∧k<y+n then d[k - (y - x)]! else d[k]!
def RotAt (a m b:Nat) (d d':Array α):Prop:=d'.size=d.size∧ ∀k,d'[k]! =if a≤k∧k<a+(b - m) then d[k+(m - a)]! else if a+(b - m)≤k∧k<b then d[k - (b - m)]! else d[k]!
theorem get_eq (d:Array α) {i j:Nat} (h:i=j):d[i]! =d[j]!:=by rw [h]
theorem swapAt_zero (x y:Nat) (d:Array α):SwapAt x y 0 d d:=⟨rfl,fun k=>by rw [if_neg (by omega),if_neg (by omega)]⟩
theorem swapAt_step {x y n:Nat} {d dc:Array α} (h:SwapAt x y n d dc) (hxy:x+n<y) (hy:y+n<d.size):SwapAt x y (n+1) d (swp dc (x+n) (y+n)):=by
  have hs:=h.1
  refine ⟨by rw [swp_size,hs],fun k=> ?_⟩
  rw [swp_get dc (by omega) (by omega),h.2,h.2,h.2]
  by_cases h1:k=y+n
  · rw [if_pos h1, if_neg (by omega), if_neg (by omega), if_neg (by omega), if_pos (by omega)]
    exact get_eq _ (by omega)
  by_cases h2:k=x+n
  · rw [if_neg h1, if_pos h2, if_neg (by omega), if_neg (by omega), if_pos (by omega)]
    exact get_eq _ (by omega)
  rw [if_neg h1,if_neg h2]
  by_cases h3:x≤k∧k<x+n
  · rw [if_pos h3,if_pos (by omega)]
  rw [if_neg h3]
  by_cases h4:y≤k∧k<y+n
  · rw [if_pos h4,if_neg (by omega),if_pos (by omega)]
  rw [if_neg h4,if_neg (by omega),if_neg (by omega)]
theorem rot_more {m i j:Nat} {d d1 d2:Array α} (hij:j<i) (him:i≤m) (h:SwapAt (m - i) m j d d1) (h2:RotAt (m - (i - j)) m (m+j) d1 d2):RotAt (m - i) m (m+j) d d2:=by
  refine ⟨by rw [h2.1,h.1],fun k=> ?_⟩
  rw [h2.2]
  by_cases c1:m - (i - j)≤k∧k<m - (i - j)+(m+j - m)
  · rw [if_pos c1, h.2, if_neg (by omega), if_pos (by omega), if_neg (by omega), if_pos (by omega)]
    exact get_eq _ (by omega)
  rw [if_neg c1]
  by_cases c2:m - (i - j)+(m+j - m)≤k∧k<m+j
  · rw [if_pos c2,h.2,if_neg (by omega),if_neg (by omega),if_neg (by omega),if_pos (by omega)]
  rw [if_neg c2,h.2]
  by_cases c3:m - i≤k∧k<m - i+j
  · rw [if_pos c3,if_pos (by omega)]
  rw [if_neg c3,if_neg (by omega),if_neg (by omega),if_neg (by omega)]
theorem rot_less {m i j:Nat} {d d1 d2:Array α} (hij:i<j) (him:i≤m) (h:SwapAt (m - i) (m+j - i) i d d1) (h2:RotAt (m - i) m (m+(j - i)) d1 d2):RotAt (m - i) m (m+j) d d2:=by
  refine ⟨by rw [h2.1,h.1],fun k=> ?_⟩
  rw [h2.2]
  by_cases c1:m - i≤k∧k<m - i+(m+(j - i) - m)
  · rw [if_pos c1, h.2]
    by_cases c2:m - i≤k+(m - (m - i))∧k+(m - (m - i))<m - i+i
    · omega
    rw [if_neg c2,if_neg (by omega),if_pos (by omega)]
  rw [if_neg c1]
  by_cases c2:m - i+(m+(j - i) - m)≤k∧k<m+(j - i)
  · rw [if_pos c2, h.2, if_pos (by omega), if_pos (by omega)]
    exact get_eq _ (by omega)
  rw [if_neg c2,h.2,if_neg (by omega)]
  by_cases c3:m+j - i≤k∧k<m+j - i+i
  · rw [if_pos c3, if_neg (by omega), if_pos (by omega)]
    exact get_eq _ (by omega)
  rw [if_neg c3,if_neg (by omega),if_neg (by omega)]
theorem rot_same {m i:Nat} {d d':Array α} (him:i≤m) (h:SwapAt (m - i) m i d d'):RotAt (m - i) m (m+i) d d':=by
  refine ⟨h.1,fun k=> ?_⟩
  rw [h.2]
  by_cases c1:m - i≤k∧k<m - i+i
  · rw [if_pos c1,if_pos (by omega)]
  rw [if_neg c1]
  by_cases c2:m≤k∧k<m+i
  · rw [if_pos c2, if_neg (by omega), if_pos (by omega)]
    exact get_eq _ (by omega)
  rw [if_neg c2,if_neg (by omega),if_neg (by omega)]
theorem rot_left (m e:Nat) (d:Array α):RotAt m m e d d:=⟨rfl,fun k=>by
  by_cases c1:m≤k∧k<m+(e - m)
  · rw [if_pos c1];exact get_eq _ (by omega)
  rw [if_neg c1,if_neg (by omega)]⟩
theorem rot_right (s m:Nat) (d:Array α):RotAt s m m d d:=⟨rfl,fun k=>by
  rw [if_neg (by omega)]
  by_cases c1:s+(m - m)≤k∧k<m
  · rw [if_pos c1];exact get_eq _ (by omega)
  rw [if_neg c1]⟩
theorem rot_up {a k:Nat} {d dc:Array α} (h:RotAt a (a+1) (k+1) d dc) (hak:a≤k) (hk:k+1<d.size):RotAt a (a+1) (k+2) d (swp dc k (k+1)):=by
  have hs:=h.1
  refine ⟨by rw [swp_size,hs],fun q=> ?_⟩
  rw [swp_get dc (by omega) (by omega),h.2,h.2,h.2]
  by_cases h1:q=k+1
  · rw [if_pos h1, if_neg (by omega), if_pos (by omega), if_neg (by omega), if_pos (by omega)]
    exact get_eq _ (by omega)
  by_cases h2:q=k
  · rw [if_neg h1, if_pos h2, if_neg (by omega), if_neg (by omega), if_pos (by omega)]
    exact get_eq _ (by omega)
  rw [if_neg h1,if_neg h2]
  by_cases h3:a≤q∧q<a+(k+1 - (a+1))
  · rw [if_pos h3,if_pos (by omega)]
  rw [if_neg h3,if_neg (by omega),if_neg (by omega),if_neg (by omega)]
theorem rot_down {k m:Nat} {d dc:Array α} (h:RotAt (k+1) m (m+1) d dc) (hkm:k<m) (hm:m<d.size):RotAt k m (m+1) d (swp dc (k+1) k):=by
  have hs:=h.1
  refine ⟨by rw [swp_size,hs],fun q=> ?_⟩
  rw [swp_get dc (by omega) (by omega),h.2,h.2,h.2]
  by_cases h1:q=k
  · rw [if_pos h1, if_pos (by omega), if_pos (by omega)]
    exact get_eq _ (by omega)
  by_cases h2:q=k+1
  · rw [if_neg h1, if_pos h2, if_neg (by omega), if_neg (by omega), if_neg (by omega), if_pos (by omega)]
    exact get_eq _ (by omega)
  rw [if_neg h1,if_neg h2,if_neg (by omega)]
  by_cases h3:k+1+(m+1 - m)≤q∧q<m+1
  · rw [if_pos h3,if_neg (by omega),if_pos (by omega)]
  rw [if_neg h3,if_neg (by omega),if_neg (by omega)]
theorem rot_src {s m e:Nat} {d d':Array α} (h:RotAt s m e d d') (hsm:s≤m) (hme:m≤e) (k:Nat): ∃q,d'[k]! =d[q]!∧((k<s∧q=k)∨(s≤k∧k<s+(e - m)∧q=k+(m - s))∨(s+(e - m)≤k∧k<e∧q=k - (e - m))∨(e≤k∧q=k)):=by
  rw [h.2]
  by_cases c1:s≤k∧k<s+(e - m)
  · rw [if_pos c1];exact ⟨_,rfl,by omega⟩
  rw [if_neg c1]
  by_cases c2:s+(e - m)≤k∧k<e
  · rw [if_pos c2];exact ⟨_,rfl,by omega⟩
  rw [if_neg c2];exact ⟨_,rfl,by omega⟩
variable {lt:α→α→Bool}
theorem sym_half {a s m e b:Nat} {d d':Array α} (h:RotAt s m e d d') (has:a≤s) (hsm:s≤m) (hme:m≤e) (heb:e≤b) (hA:SortedIn lt a m d) (hB:SortedIn lt m b d)
    (x1: ∀x y,a≤x→x<s→e≤y→y<b→lt d[y]! d[x]! =false) (x2: ∀x y,m≤x→x<e→s≤y→y<m→lt d[y]! d[x]! =false):
    SortedIn lt a s d'∧SortedIn lt s (s+(e - m)) d'∧SortedIn lt (s+(e - m)) e d'∧SortedIn lt e b d'∧ ∀x y,a≤x→x<s+(e - m)→s+(e - m)≤y→y<b→lt d'[y]! d'[x]! =false:=by
  have key:=rot_src h hsm hme
  refine ⟨fun i j h1 h2 h3=> ?_,fun i j h1 h2 h3=> ?_,fun i j h1 h2 h3=> ?_,fun i j h1 h2 h3=> ?_,fun i j h1 h2 h3 h4=> ?_⟩
  all_goals
    obtain ⟨q,eq,cq⟩:=key i
    obtain ⟨r,er,cr⟩:=key j
    rw [eq,er]
  · exact hA q r (by omega) (by omega) (by omega)
  · exact hB q r (by omega) (by omega) (by omega)
  · exact hA q r (by omega) (by omega) (by omega)
  · exact hB q r (by omega) (by omega) (by omega)
  rcases cq with cq|cq|cq|cq<;>rcases cr with cr|cr|cr|cr<;>first
    |(exfalso;omega)
    |exact hA q r (by omega) (by omega) (by omega)
    |exact hB q r (by omega) (by omega) (by omega)
    |exact x1 q r (by omega) (by omega) (by omega) (by omega)
    |exact x2 q r (by omega) (by omega) (by omega) (by omega)
theorem sym_x1 (hS:SWO lt) {a s m e b:Nat} {d:Array α} (hA:SortedIn lt a m d) (hB:SortedIn lt m b d) (hsm:s≤m) (hme:m≤e) (h:a<s→e<b→lt d[e]! d[s - 1]! =false): ∀x y,a≤x→x<s→e≤y→y<b→lt d[y]! d[x]! =false:=by
  intro x y h1 h2 h3 h4
  have k:=h (by omega) (by omega)
  have k1:lt d[e]! d[x]! =false:=by
    by_cases q:x=s - 1
    · rw [q];exact k
    exact hS.ntrans _ _ _ k (hA x (s - 1) h1 (by omega) (by omega))
  by_cases q:y=e
  · rw [q];exact k1
  exact hS.ntrans _ _ _ (hB e y (by omega) (by omega) h4) k1
theorem sym_x2 (hS:SWO lt) {a s m e b:Nat} {d:Array α} (hA:SortedIn lt a m d) (hB:SortedIn lt m b d) (has:a≤s) (heb:e≤b) (h:m<e→s<m→lt d[s]! d[e - 1]! =false): ∀x y,m≤x→x<e→s≤y→y<m→lt d[y]! d[x]! =false:=by
  intro x y h1 h2 h3 h4
  have k:=h (by omega) (by omega)
  have k1:lt d[s]! d[x]! =false:=by
    by_cases q:x=e - 1
    · rw [q];exact k
    exact hS.ntrans _ _ _ k (hB x (e - 1) h1 (by omega) (by omega))
  by_cases q:y=s
  · rw [q];exact k1
  exact hS.ntrans _ _ _ (hA s y has (by omega) h4) k1
theorem sym_join {a mid b:Nat} {d d1 d2:Array α} (ham:a≤mid) (hmb:mid≤b) (hb:b≤d.size) (hx: ∀x y,a≤x→x<mid→mid≤y→y<b→lt d[y]! d[x]! =false)
    (p1:PermIn a mid d d1) (s1:SortedIn lt a mid d1) (p2:PermIn mid b d1 d2) (s2:SortedIn lt mid b d2):SortedIn lt a b d2∧PermIn a b d d2:=by
  have k1: ∀x,a≤x→x<mid→ ∀y,mid≤y→y<b→lt d1[y]! d1[x]! =false:=by
    have q:=permIn_all d d1 a mid (fun v=> ∀y,mid≤y→y<b→lt d[y]! v=false) (by omega) p1 (fun i h1 h2 y h3 h4=>hx i y h1 h2 h3 h4)
    intro x h1 h2 y h3 h4
    rw [p1.2.1 y (by omega)]
    exact q x h1 h2 y h3 h4
  have k2: ∀y,mid≤y→y<b→ ∀x,a≤x→x<mid→lt d2[y]! d2[x]! =false:=by
    have q:=permIn_all d1 d2 mid b (fun v=> ∀x,a≤x→x<mid→lt v d1[x]! =false) (by rw [p1.1];exact hb) p2 (fun i h1 h2 x h3 h4=>k1 x h3 h4 i h1 h2)
    intro y h1 h2 x h3 h4
    rw [p2.2.1 x (by omega)]
    exact q y h1 h2 x h3 h4
  refine ⟨fun i j h1 h2 h3=> ?_,permIn_trans _ _ _ _ _ (permIn_mono d d1 a mid a b (Nat.le_refl _) hmb hb p1) (permIn_mono d1 d2 mid b a b ham (Nat.le_refl _) (by rw [p1.1];exact hb) p2)⟩
  by_cases c1:j<mid
  · rw [p2.2.1 i (by omega), p2.2.1 j (by omega)]
    exact s1 i j h1 h2 c1
  by_cases c2:i<mid
  · exact k2 j (by omega) h3 i h1 c2
  exact s2 i j (by omega) h2 h3
theorem ins_left (hS:SWO lt) {a i b:Nat} {d d':Array α} (h:RotAt a (a+1) i d d') (hai:a+1≤i) (hib:i≤b) (hB:SortedIn lt (a+1) b d) (l: ∀c,a+1≤c→c<i→lt d[c]! d[a]! =true) (g: ∀c,i≤c→c<b→lt d[c]! d[a]! =false):SortedIn lt a b d':=by
  have key:=rot_src h (by omega) hai
  intro x y h1 h2 h3
  obtain ⟨q,eq,cq⟩:=key x
  obtain ⟨r,er,cr⟩:=key y
  rw [eq,er]
  by_cases cx:q=a
  · rw [cx]
    exact g r (by omega) (by omega)
  by_cases cy:r=a
  · rw [cy]
    exact hS.asymmA (l q (by omega) (by omega))
  exact hB q r (by omega) (by omega) (by omega)
theorem ins_right_ (hS:SWO lt) {a i m:Nat} {d d':Array α} (h:RotAt i m (m+1) d d') (hai:a≤i) (him:i≤m) (hA:SortedIn lt a m d) (l: ∀c,a≤c→c<i→lt d[m]! d[c]! =false) (g: ∀c,i≤c→c<m→lt d[m]! d[c]! =true):SortedIn lt a (m+1) d':=by
  have key:=rot_src h him (by omega)
  intro x y h1 h2 h3
  obtain ⟨q,eq,cq⟩:=key x
  obtain ⟨r,er,cr⟩:=key y
  rw [eq,er]
  by_cases cx:q=m
  · rw [cx]
    exact hS.asymmA (g r (by omega) (by omega))
  by_cases cy:r=m
  · rw [cy]
    exact l q (by omega) (by omega)
  exact hA q r (by omega) (by omega) (by omega)
theorem sorted_le (hS:SWO lt) {a b:Nat} {d:Array α} (h:SortedIn lt a b d) {x y:Nat} (h1:a≤x) (h2:x≤y) (h3:y<b):lt d[y]! d[x]! =false:=by
  by_cases q:x=y
  · rw [q];exact hS.irrefl _
  exact h x y h1 (by omega) h3
theorem lt_le_lt {β:Type} {lt:β→β→Bool} (hS:SWO lt) {x y z:β} (h1:lt x y=true) (h2:lt z y=false):lt x z=true:=by
 cases h:lt x z with
 |true=>rfl
 |false=>rw [hS.ntrans _ _ _ h h2] at h1;cases h1
theorem le_lt_lt {β:Type} {lt:β→β→Bool} (hS:SWO lt) {x y z:β} (h1:lt y x=false) (h2:lt y z=true):lt x z=true:=by
 cases h:lt x z with
 |true=>rfl
 |false=>rw [hS.ntrans _ _ _ h1 h] at h2;cases h2
theorem left_lt (hS:SWO lt) {a m i b:Nat} {d:Array α} (hB:SortedIn lt m b d) (hib:i≤b) (h:i=m∨lt d[i - 1]! d[a]! =true): ∀c,m≤c→c<i→lt d[c]! d[a]! =true:=by
  intro c h1 h2
  rcases h with h|h
  · omega
  exact le_lt_lt hS (sorted_le hS hB h1 (by omega:c≤i - 1) (by omega)) h
theorem left_ge (hS:SWO lt) {a m i b:Nat} {d:Array α} (hB:SortedIn lt m b d) (hmi:m≤i) (h:i=b∨lt d[i]! d[a]! =false): ∀c,i≤c→c<b→lt d[c]! d[a]! =false:=by
  intro c h1 h2
  rcases h with h|h
  · omega
  exact hS.ntrans _ _ _ (sorted_le hS hB hmi h1 h2) h
theorem right_le (hS:SWO lt) {a m i:Nat} {d:Array α} (hA:SortedIn lt a m d) (him:i≤m) (h:i=a∨lt d[m]! d[i - 1]! =false): ∀c,a≤c→c<i→lt d[m]! d[c]! =false:=by
  intro c h1 h2
  rcases h with h|h
  · omega
  exact hS.ntrans _ _ _ h (sorted_le hS hA h1 (by omega:c≤i - 1) (by omega))
theorem right_gt (hS:SWO lt) {a m i:Nat} {d:Array α} (hA:SortedIn lt a m d) (hai:a≤i) (h:i=m∨lt d[m]! d[i]! =true): ∀c,i≤c→c<m→lt d[m]! d[c]! =true:=by
  intro c h1 h2
  rcases h with h|h
  · omega
  exact lt_le_lt hS h (sorted_le hS hA hai h1 h2)
structure Turned_ (lt:α→α→Bool) (a s mid e b:Nat) (d d1:Array α):Prop where
 perm:PermIn a b d d1
 s1:SortedIn lt a s d1
 s2:SortedIn lt s mid d1
 s3:SortedIn lt mid e d1
 s4:SortedIn lt e b d1
 x: ∀x y,a≤x→x<mid→mid≤y→y<b→lt d1[y]! d1[x]! =false
theorem turned_of (hS:SWO lt) {a s m mid e b:Nat} {d d1:Array α} (hp:PermIn a b d d1) (h:RotAt s m e d d1) (has:a≤s) (hsm:s≤m) (hme:m≤e) (heb:e≤b) (he:s+(e - m)=mid) (hA:SortedIn lt a m d) (hB:SortedIn lt m b d)
    (l:(s=a∨e=b)∨lt d[e]! d[s - 1]! =false) (g:(s=m∨e=m)∨lt d[e - 1]! d[s]! =true):Turned_ lt a s mid e b d d1:=by
  obtain ⟨a1,a2,a3,a4,a5⟩:=sym_half h has hsm hme heb hA hB
    (sym_x1 hS hA hB hsm hme (fun h1 h2=>by
      rcases l with l|l
      · omega
      exact l))
    (sym_x2 hS hA hB has heb (fun h1 h2=>by
      rcases g with g|g
      · omega
      exact hS.asymmA g))
  rw [he] at a2 a3 a5
  exact ⟨hp,a1,a2,a3,a4,a5⟩
theorem sorted_whole {a s mid:Nat} {d:Array α} (h1:SortedIn lt a s d) (h2:SortedIn lt s mid d) (h: ¬(a<s∧s<mid)):SortedIn lt a mid d:=by
  intro i j k1 k2 k3
  by_cases q:a<s
  · exact h1 i j k1 k2 (by omega)
  exact h2 i j (by omega) k2 k3
def Blocks (lt:α→α→Bool) (s n:Nat) (d:Array α):Prop:= ∀c,SortedIn lt (c*s) (min (c*s+s) n) d
def Mixed (lt:α→α→Bool) (s n t:Nat) (d:Array α):Prop:=(∀c,c<t→SortedIn lt (c*(2*s)) (min (c*(2*s)+2*s) n) d)∧ ∀c,2*t≤c→SortedIn lt (c*s) (min (c*s+s) n) d
theorem mixed_zero {s n:Nat} {d:Array α} (h:Blocks lt s n d):Mixed lt s n 0 d:=⟨fun c hc=>by omega,fun c _=>h c⟩
theorem sorted_congr {a b:Nat} {d d':Array α} (h:SortedIn lt a b d) (he: ∀k,a≤k→k<b→d'[k]! =d[k]!):SortedIn lt a b d':=fun i j h1 h2 h3=>by rw [he i h1 (by omega),he j (by omega) h3];exact h i j h1 h2 h3
theorem mul2 (t s:Nat):2*t*s=t*(2*s):=by rw [Nat.mul_comm 2 t,Nat.mul_assoc]
theorem mixed_step {s n t:Nat} {d d':Array α} (h:Mixed lt s n t d) (hp:PermIn (t*(2*s)) (min (t*(2*s)+2*s) n) d d') (hs:SortedIn lt (t*(2*s)) (min (t*(2*s)+2*s) n) d'):Mixed lt s n (t+1) d':=by
  refine ⟨fun c hc=> ?_,fun c hc=> ?_⟩
  rotate_left
  · have h1 : (2 * (t + 1)) * s ≤ c * s := Nat.mul_le_mul_right _ hc
    rw [mul2,Nat.add_mul,Nat.one_mul] at h1
    exact sorted_congr (h.2 c (by omega)) (fun k h2 _=>hp.2.1 k (.inr (by omega)))
  by_cases e:c=t
  · rw [e];exact hs
  have h1:(c+1)*(2*s)≤t*(2*s):=Nat.mul_le_mul_right _ (by omega)
  rw [Nat.add_mul,Nat.one_mul] at h1
  exact sorted_congr (h.1 c (by omega)) (fun k _ h3=>hp.2.1 k (.inl (by omega)))
theorem mixed_at {s n t:Nat} {d:Array α} (h:Mixed lt s n t d):SortedIn lt (t*(2*s)) (min (t*(2*s)+s) n) d∧SortedIn lt (t*(2*s)+s) (min (t*(2*s)+2*s) n) d:=by
 have h1:=h.2 (2*t) (Nat.le_refl _)
 have h2:=h.2 (2*t+1) (by omega)
 rw [Nat.add_mul,Nat.one_mul,mul2] at h2
 rw [mul2] at h1
 refine ⟨h1, ?_⟩
 rw [show t*(2*s)+2*s=t*(2*s)+s+s by omega]
 exact h2
theorem mixed_end {s n t:Nat} {d:Array α} (h:Mixed lt s n t d) (he:n≤t*(2*s)+s):Blocks lt (2*s) n d:=by
  intro c
  by_cases hc:c<t
  · exact h.1 c hc
  have h1:t*(2*s)≤c*(2*s):=Nat.mul_le_mul_right _ (by omega)
  by_cases e:c=t
  · rw [e]
    intro i j a1 a2 a3
    exact (mixed_at h).1 i j a1 a2 (by omega)
  have h2:(t+1)*(2*s)≤c*(2*s):=Nat.mul_le_mul_right _ (by omega)
  rw [Nat.add_mul,Nat.one_mul] at h2
  intro i j a1 a2 a3
  omega
theorem mixed_last {s n t:Nat} {d:Array α} (h:Mixed lt s n (t+1) d) (he:n≤t*(2*s)+2*s):Blocks lt (2*s) n d:=by
  intro c
  by_cases hc:c<t+1
  · exact h.1 c hc
  have h2:(t+1)*(2*s)≤c*(2*s):=Nat.mul_le_mul_right _ (by omega)
  rw [Nat.add_mul,Nat.one_mul] at h2
  intro i j a1 a2 a3
  omega
theorem blocks_all {s n:Nat} {d:Array α} (h:Blocks lt s n d) (hs:n≤s):SortedIn lt 0 n d:=by
 have q:=h 0
 rw [Nat.zero_mul,Nat.zero_add,Nat.min_eq_right hs] at q
 exact q
def Upto (lt:α→α→Bool) (s n t:Nat) (d:Array α):Prop:= ∀c,c<t→SortedIn lt (c*s) (min (c*s+s) n) d
theorem upto_step {s n t:Nat} {d d':Array α} (h:Upto lt s n t d) (hp:PermIn (t*s) (min (t*s+s) n) d d') (hs:SortedIn lt (t*s) (min (t*s+s) n) d'):Upto lt s n (t+1) d':=by
  intro c hc
  by_cases e:c=t
  · rw [e];exact hs
  have h1:(c+1)*s≤t*s:=Nat.mul_le_mul_right _ (by omega)
  rw [Nat.add_mul,Nat.one_mul] at h1
  exact sorted_congr (h c (by omega)) (fun k _ h3=>hp.2.1 k (.inl (by omega)))
theorem upto_all {s n t:Nat} {d:Array α} (h:Upto lt s n t d) (hn:n≤t*s):Blocks lt s n d:=by
  intro c
  by_cases hc:c<t
  · exact h c hc
  have h1:t*s≤c*s:=Nat.mul_le_mul_right _ (by omega)
  intro i j a1 a2 a3
  omega
theorem part_perm {a b n:Nat} {d0 d d':Array α} (h0:PermIn 0 n d0 d) (hp:PermIn a b d d') (hb:b≤n) (hn:n≤d.size):PermIn 0 n d0 d':=permIn_trans _ _ _ _ _ h0 (permIn_mono d d' a b 0 n (Nat.zero_le _) hb hn hp)
end Go.Proofs.Ytahidkjncljkaaa.Print

namespace Go.Proofs.Ytahidkjncljkaaa.Print
open Go.RowKit Go.Proofs.YtahidkjncljkaaaW.PrintWords Go.Proofs.YtahidkjncljkaaaW.PrintLast Go.Proofs.YtahidkjncljkaaaW.PrintMore
section
variable {P:Program} {ops:Array Oper} {rest:List Oper} {o:Oper} {a:Act} {Q:Exit→Act→World→Prop} {Kc:Act→World→Prop} {W:World}
theorem store_part_step {gb e:Nat} {zs:Array Value} (hh:W.heap[gb]?=some (.cells zs e (0,0))) (hw:Region.wanted o (yielded ops a.tmps)=true) (t:TypeId) (p x:Operand) (ho:o.op= .store t p x) (hN:o.dst=none) (off:Nat) (u:Value) (seg new:List Value)
  (hp:a.eval p= .pointer (some ⟨gb,off,none⟩)) (hx:a.eval x=u) (hu:u.cells.toList=seg) (ht:(P.info? t).map (·.size)=some seg.length) (hz:off+seg.length≤zs.size) (h1: ∀q∈seg,q.oneCell'=true) (hnew:zs.toList.take off++seg++zs.toList.drop (off+seg.length)=new)
  (h: ∀w',w'.heap[gb]?=some (.cells new.toArray e (0,0))→W.grownBy w' (some gb)→Kc a w'):if Region.wanted o (yielded ops a.tmps)=true then Oper.wp P o a W Kc Q else Kc (a.put none undef) W:=by
 obtain ⟨w',cur,hrun,hc,hs,hl,hg⟩:=put_run (P:=P) hh t u off seg hu ht hz h1
 have e1:cur=new.toArray:=by
  apply Array.ext'
  rw [hl,hnew]
 subst e1
 rw [if_pos hw]
 unfold Oper.wp execOp
 simp only [ho,hp,hx,Sem.run_bind,Sem.run_pure,Result.andThen_ok,hrun]
 show Kc (a.put o.dst undef) _
 rw [hN]
 exact h _ hc hg
end
theorem blk_put_other2 {w w1:World} {row:Option Nat} {k:Nat} {ob:Obj} (h:w.heap[k]?=some ob) (hg:w.grownBy w1 row) (hne:some k≠row):w1.heap[k]?=some ob:=by
  rw [hg.block k (by
    rcases Nat.lt_or_ge k w.heap.size with hl|hl
    · exact hl
    rw [Array.getElem?_eq_none hl] at h;cases h) hne]
  exact h
def KeepS (b:Nat) (W w:World):Prop:=(∀g ob,W.heap[g]?=some ob→g≠b→(∀cs,ob≠ .cells cs 76 (0,0))→w.heap[g]?=some ob)∧W.heap.size≤w.heap.size
theorem keepS_refl (b:Nat) (W:World):KeepS b W W:=⟨fun _ _ h _ _=>h,Nat.le_refl _⟩
theorem keepS_below {b:Nat} {W w w1:World} (h:KeepS b W w) (hb:Below w.heap.size w w1):KeepS b W w1:=⟨fun g ob hg hn ht=>blk_below (h.1 g ob hg hn ht) hb,Nat.le_trans h.2 hb.size⟩
theorem keepS_put {b:Nat} {W w w1:World} (h:KeepS b W w) (hg:w.grownBy w1 (some b)):KeepS b W w1:=⟨fun k ob hk hn ht=>blk_put_other (h.1 k ob hk hn ht) hg hn,Nat.le_trans h.2 hg.size⟩
theorem keepS_row {b:Nat} {W w w1:World} {row:Option Nat} (h:KeepS b W w) (hg:w.grownBy w1 row) (ho: ∀k,row=some k→ ∃cells,w.heap[k]?=some (.cells cells 76 (0,0))):KeepS b W w1:=
 ⟨fun k ob hk hn ht=>by
  have q:=h.1 k ob hk hn ht
  refine blk_put_other2 q hg (fun e=> ?_)
  obtain ⟨cs,hc⟩:=ho k e.symm
  rw [q] at hc
  exact ht cs (Option.some.inj hc),Nat.le_trans h.2 hg.size⟩
theorem R_keepS {α:Type} {d:Kd α} {e b base tb:Nat} {cs:Array Value} {W w:World} {v:Value} {xs:List α} (h:d.R e W base (fun _=>True) v xs) (hb:W.heap[b]?=some (.cells cs tb (0,0))) (ht: ∀q,q∈e::d.E→q≠tb∧q≠76) (hk:KeepS b W w):d.R e w base (fun _=>True) v xs:=
 Kd.R_mono (Kd.R_step (Kd.R_bound h) (fun k hk' _=>by
  obtain ⟨_,_,_,q,hq,cells,hc⟩:=hk'
  rw [hk.1 k _ hc (fun e=>by
   rw [e,hb] at hc
   injection hc with hc
   injection hc with _ h2 _
   exact (ht q hq).1 h2.symm) (fun cs' e=>by
   injection e with _ h2 _
   exact (ht q hq).2 h2),hc])) (fun _ _=>trivial)
def stepCells (s:S76):Array Value:=#[.int .i64 s.f0, .string s.f1, .string s.f2, .int .i64 s.f3.f0, .int .i64 s.f3.f1, .int .i64 s.f3.f2]
set_option maxHeartbeats 4000000 in
set_option maxRecDepth 100000 in
theorem planPut_calls (w W:World) (b:Nat) (vg vo:Value) (wd:Bool) (out:List S76) (s:S76)
    (hb:W.heap[b]?=some (.cells #[vg, .bool wd,vo] 139 (0,0))) (hge:w.heap.size≤b) (hB:Below w.heap.size w W) (ho:Kd.R k76 76 W w.heap.size (fun _=>True) vo out) (hl:out.length<100000):
    Calls Try.prog 126 #[.pointer (some ⟨b,0,none⟩), .agg (stepCells s)] W fun e w'=>e= .returned (.tuple #[])∧ ∃vo',w'.heap[b]?=some (.cells #[vg, .bool wd,vo'] 139 (0,0))∧Kd.R k76 76 w' w.heap.size (fun _=>True) vo' (out++ [s])∧Below w.heap.size w w'∧KeepS b W w':=by
  unfold stepCells
  have hu139:=Try.underlying139
  have hu76:=Try.underlying76
  have BK:=Aside0.mk hb
  have GE:=Aside0.mk hge
  have HB:=Aside0.mk hB
  have HO:=Aside0.mk ho
  have HL:=Aside0.mk hl
  have KP:=am_ (keepS_refl b W)
  obtain ⟨Ao,co,eo⟩:=Kd.R_slice ho
  subst eo
  clear hb hge hB ho hl
  go_enter Try.func126,Try.ntmps126
  go_wp2_with (first|((with_reducible refine gate_dst (N:=3) rfl ?_);refine bx_ (N:=3) (cs:=#[.int .i64 s.f0, .string s.f1, .string s.f2, .int .i64 s.f3.f0, .int .i64 s.f3.f1, .int .i64 s.f3.f2]) (t:=76) ?_;intro gb3 hg w3 hbox hb;have OLD3:=am_ (show∀k,(Value.slice Ao out.length co).ownBlock=some k→k<gb3 from fun k hk=>by rw [hg];exact Kd.R_lt HO.out k hk);have KP1:=am_ (keepS_below KP.out hb);clear KP;have KP:=KP1;clear KP1;replace HO:=am_ (Kd.R_below HO.out hb);replace BK:=am_ (blk_below BK.out hb);have BK3:=am_ (hbox);have GE3:=am_ ((by rw [hg];exact below_size HB.out:w.heap.size≤gb3));replace HB:=am_ (below_step HB.out hb);have EQ3:=am_ (hg);clear hb hbox hg))
  have NEO:=am_ (show some b≠(Value.slice Ao out.length co).ownBlock from Kd.R_ne HO.out BK.out (by decide))
  have NEO3:=am_ (show some gb3≠(Value.slice Ao out.length co).ownBlock from fun e=>by have:=OLD3.out gb3 e.symm;omega)
  replace HO:=am_ (Kd.R_drew HO.out)
  replace BK:=am_ (blk_drew BK.out)
  replace BK3:=am_ (blk_drew BK3.out)
  replace HB:=am_ (below_drew1 HB.out)
  replace KP:=am_ (keepS_below KP.out (below_drew1 (Below.refl _ _)))
  refine start_ (n:=11) (S:=fun w'=>w'.cell? ⟨b,2,none⟩=some (.slice Ao out.length co)∧w'.cell? ⟨gb3,0,none⟩=some (.int .i64 s.f0)∧w'.cell? ⟨gb3,1,none⟩=some (.string s.f1)∧w'.cell? ⟨gb3,2,none⟩=some (.string s.f2)∧w'.cell? ⟨gb3,3,none⟩=some (.int .i64 s.f3.f0)∧w'.cell? ⟨gb3,4,none⟩=some (.int .i64 s.f3.f1)∧w'.cell? ⟨gb3,5,none⟩=some (.int .i64 s.f3.f2)) (ds:=[10]) (bt_ 11 0) (by kernel_rfl) rfl rfl ⟨(blk_cell BK.out 2).trans rfl,(blk_cell BK3.out 0).trans rfl,(blk_cell BK3.out 1).trans rfl,(blk_cell BK3.out 2).trans rfl,(blk_cell BK3.out 3).trans rfl,(blk_cell BK3.out 4).trans rfl,(blk_cell BK3.out 5).trans rfl⟩ (fun hHeld=> ?_)
  generalize w3.drew=w5 at HO BK BK3 HB KP hHeld ⊢
  refine pv_ (i:=0) (N:=some 4) (bt_ 11 1) ?_
  refine pv_ (i:=1) (N:=some 5) (bt_ 11 3) ?_
  refine pv_ (i:=2) (N:=some 6) (bt_ 11 7) ?_
  refine pv_ (i:=3) (N:=some 7) (bt_ 11 15) ?_
  refine tv_ (i:=4) (N:=some 8) (bt_ 11 31) hHeld ?_
  refine tv_ (i:=5) (N:=some 9) (bt_ 11 63) hHeld ?_
  refine one_ (i:=6) (N:=some 10) (bt_ 11 127) rfl rfl (by kernel_rfl) (by decide) (fun K hK=> ?_)
  refine value_ (w1:= ?_) (v:= ?_) (by rfl) rfl ?_ ?_
  rotate_left 2
  · go_simp
    constructor
    · rfl
    rfl
  refine hK.out _ _ ⟨(World.cell?_alloc_lt _ _ _ (World.block_lt_of_cell? _ _ (((blk_cell BK.out 2).trans rfl)))).trans (((blk_cell BK.out 2).trans rfl)),(World.cell?_alloc_lt _ _ _ (World.block_lt_of_cell? _ _ (((blk_cell BK3.out 0).trans rfl)))).trans (((blk_cell BK3.out 0).trans rfl)),(World.cell?_alloc_lt _ _ _ (World.block_lt_of_cell? _ _ (((blk_cell BK3.out 1).trans rfl)))).trans (((blk_cell BK3.out 1).trans rfl)),(World.cell?_alloc_lt _ _ _ (World.block_lt_of_cell? _ _ (((blk_cell BK3.out 2).trans rfl)))).trans (((blk_cell BK3.out 2).trans rfl)),(World.cell?_alloc_lt _ _ _ (World.block_lt_of_cell? _ _ (((blk_cell BK3.out 3).trans rfl)))).trans (((blk_cell BK3.out 3).trans rfl)),(World.cell?_alloc_lt _ _ _ (World.block_lt_of_cell? _ _ (((blk_cell BK3.out 4).trans rfl)))).trans (((blk_cell BK3.out 4).trans rfl)),(World.cell?_alloc_lt _ _ _ (World.block_lt_of_cell? _ _ (((blk_cell BK3.out 5).trans rfl)))).trans (((blk_cell BK3.out 5).trans rfl))⟩ (fun hHeld=> ?_)
  clear hK K
  refine norm_ (a':= ?_) ?_ ?_
  rotate_left
  · show Act.put _ (some 10) _ = _
    simp only [Act.put,List.setIfInBounds_toArray,List.set_cons_zero,List.set_cons_succ,i64_w,i32_w]
    rfl
  refine one_ (i:=7) (N:=some 11) (bt_ 11 255) rfl rfl (by kernel_rfl) (by decide) (fun K hK=> ?_)
  refine Kd.R_append_step k76 (w0:=w) w.heap.size (by rfl) (.tmp 8) (.tmp 10) 49 76 (.agg #[(.int .i64 0),(.string ⟨#[]⟩),(.string ⟨#[]⟩),(.int .i64 0),(.int .i64 0),(.int .i64 0)]) 64 rfl Try.underlying49 info76 rfl (by decide) (by omega) _ out s [.int .i64 s.f0, .string s.f1, .string s.f2, .int .i64 s.f3.f0, .int .i64 s.f3.f1, .int .i64 s.f3.f2] (fun _=>True) (fun _=>False) rfl rfl ?aP (fun _ hk=>hk.elim) (fun _ _=>trivial) HO.out HB.out (below_size HB.out) (by have:=HL.out;omega) ?_
  (case aP=>exact k76_mkM _ _ _ s)
  intro v1 w6 ho hb hg hat
  replace hg:w5.grownBy w6 (Value.slice Ao out.length co).ownBlock:=hg
  have KPA:=am_ (keepS_row KP.out hg (fun k hk=>by obtain ⟨inner,h⟩:=Kd.R_own HO.out;exact own_typed h k hk))
  have n0_:=am_ (blk_put_other2 BK.out hg NEO.out)
  have n1_:=am_ (blk_put_other2 BK3.out hg NEO3.out)
  have n2_:=Aside0.mk ho
  have n3_:=Aside0.mk hb
  clear BK BK3 HO HB KP ho hb hat
  have BK:=n0_
  have BK3:=n1_
  have HO:=n2_
  have HB:=n3_
  clear n0_ n1_ n2_ n3_
  obtain ⟨A1,c1,e1⟩:=Kd.R_slice HO.out
  subst e1
  refine hK.out _ _ ⟨(blk_cell BK.out 2).trans rfl,(blk_cell BK3.out 0).trans rfl,(blk_cell BK3.out 1).trans rfl,(blk_cell BK3.out 2).trans rfl,(blk_cell BK3.out 3).trans rfl,(blk_cell BK3.out 4).trans rfl,(blk_cell BK3.out 5).trans rfl⟩ (fun hHeld=> ?_)
  clear hK K hg
  refine norm_ (a':= ?_) ?_ ?_
  rotate_left
  · show Act.put _ (some 11) _ = _
    simp only [Act.put,List.setIfInBounds_toArray,List.set_cons_zero,List.set_cons_succ,i64_w,i32_w]
    rfl
  refine pv_ (i:=8) (N:=some 12) (bt_ 11 511) ?_
  refine pv_ (i:=9) (N:=some 13) (bt_ 11 1023) ?_
  refine last_ (i:=10) (N:=none) (bt_ 11 2047) rfl rfl (by kernel_rfl) (by decide) (fun K hK=> ?_)
  refine store_part_step BK.out (by rfl) 49 (.tmp 13) (.tmp 11) rfl rfl 2 (.slice A1 (out++ [s]).length c1) [.slice A1 (out++ [s]).length c1] [vg, .bool wd, .slice A1 (out++ [s]).length c1] rfl rfl rfl (by kernel_rfl) (show (3:Nat)≤3 from by decide) (by intro q hq;simp only [List.mem_cons,List.not_mem_nil,or_false] at hq;rcases hq with rfl<;>rfl) rfl ?_
  intro w7 hbk hg
  have n0_:=am_ (R_put HO.out BK.out (by decide) hg)
  have n1_:=am_ (below_put HB.out (below_size HB.out) hg GE.out)
  have n2_:=am_ (keepS_put KPA.out hg)
  have n3_:=Aside0.mk hbk
  clear HO HB BK KPA hbk hg
  have HO:=n0_
  have HB:=n1_
  have KP:=n2_
  have BK:=n3_
  clear n0_ n1_ n2_ n3_
  refine hK.out _ _ ?_
  clear hK K hHeld
  refine done_ (by kernel_rfl) ?_
  go_wp2
  (first|go_end0|((try simp only [Exit.inBlock,Exit.then]);refine bodyPost_ret (results_none rfl _ _ _) rfl ?_)|refine bodyPost_end (results_none rfl _ _ _) rfl ?_)
  exact ⟨rfl,_,BK.out,HO.out,HB.out,KP.out⟩
end Go.Proofs.Ytahidkjncljkaaa.Print

namespace Go.Proofs.Ytahidkjncljkaaa.Print
open Go.RowKit Go.Proofs.YtahidkjncljkaaaW.PrintWords Go.Proofs.YtahidkjncljkaaaW.PrintLast Go.Proofs.YtahidkjncljkaaaW.PrintMore
attribute [local go_sem] max2_int min2_int max_two min_two max_three min_three max_four min_four

def vecByF (op:Int→Int→Int):List S37→Int→Int→Int→Int×Int×Int
 |[],a,b,d=>(a,b,d)
 |v::l,a,b,d=>vecByF op l (op a v.f0) (op b v.f1) (op d v.f2)
theorem vecByF_snoc (op:Int→Int→Int) (v:S37): ∀(l:List S37) (a b d:Int),vecByF op (l++ [v]) a b d=(op (vecByF op l a b d).1 v.f0,op (vecByF op l a b d).2.1 v.f1,op (vecByF op l a b d).2.2 v.f2)
 |[],_,_,_=>rfl
 |_::l,_,_,_=>vecByF_snoc op v l _ _ _
theorem vecByF_take (op:Int→Int→Int) (l:List S37) (a b d:Int) (i:Nat) (h:i<l.length):vecByF op (l.take (i+1)) a b d=(op (vecByF op (l.take i) a b d).1 (rd_T37 l i).f0,op (vecByF op (l.take i) a b d).2.1 (rd_T37 l i).f1,op (vecByF op (l.take i) a b d).2.2 (rd_T37 l i).f2):=by
 have e:rd_T37 l i=l[i]:=by simp [rd_T37,h]
 rw [List.take_succ_eq_append_getElem h,vecByF_snoc,e]
set_option maxHeartbeats 1000000 in
set_option maxRecDepth 100000 in
theorem vecBy_calls (g:Nat) (op:Int→Int→Int) (eg: ∀args w,(callFunc g args).run Try.prog w= .ok (.enter g args) w) (hop: ∀x y W,Calls Try.prog g #[.int .i64 x, .int .i64 y] W fun e w'=>e= .returned (.int .i64 (op x y))∧w'=W)
    (A:Option Addr) (c:Nat) (l:List S37) (a b d:Int) (w:World) (hr0:Kd.C k37 w A l.length l) (hc0:l.length≤c) (hm:l.length≤maxLen):
    Calls Try.prog 145 #[.func (.func g) #[] #[], .agg #[.int .i64 a, .int .i64 b, .int .i64 d], .slice A l.length c] w fun e w'=>e= .returned (.agg #[.int .i64 (vecByF op l a b d).1, .int .i64 (vecByF op l a b d).2.1, .int .i64 (vecByF op l a b d).2.2])∧Below w.heap.size w w':=by
  have hu37:=Try.underlying37
  have HR0:=Aside0.mk hr0
  have HOP:=Aside0.mk hop
  have HEG:=Aside0.mk eg
  have HBT:=am_ (vecByF_take op l a b d)
  clear hr0 hop eg
  unfold maxLen at hm
  go_enter Try.func145,Try.ntmps145
  go_wp2
  go_loopg [11] l.length (fun kq s11 wr=> ∃i:Nat,i≤l.length∧l.length - i≤kq∧s11= .int .i64 i∧Aside0 (Below w.heap.size w wr)∧Aside0 (wr.heap[w.heap.size]?=some (.cells #[.int .i64 (vecByF op (l.take i) a b d).1, .int .i64 (vecByF op (l.take i) a b d).2.1, .int .i64 (vecByF op (l.take i) a b d).2.2] 37 (0,0)))∧Aside0 (wr.heap[w.heap.size+1]?=some (.cells #[.int .i64 0, .int .i64 0, .int .i64 0] 37 (0,0))))
  case atStart=>
    exact ⟨0,by omega,by omega,rfl,⟨below_alloc (below_alloc (Below.refl _ _) _) _⟩,⟨blk_alloc (blk_new _ _) _⟩,⟨by have:=blk_new (w.alloc (.cells #[.int .i64 a, .int .i64 b, .int .i64 d] 37)) (.cells #[.int .i64 0, .int .i64 0, .int .i64 0] 37);simpa using this⟩⟩
  case round=>
    obtain ⟨i,hi,hg,rfl,HB,HF,HZ⟩:=hrel
    generalize hq:vecByF op (l.take i) a b d=q at HF
    have HQ:=Aside0.mk hq
    clear hq
    by_cases hlt:i<l.length
    rotate_left
    · obtain rfl : i = l.length := by omega
      have hq:q=vecByF op l a b d:=HQ.out.symm.trans (by rw [List.take_length])
      subst hq
      have HQ':=HQ
      clear HQ HBT
      have f0:=(blk_cell HF.out 0).trans rfl
      have f1:=(blk_cell HF.out 1).trans rfl
      have f2:=(blk_cell HF.out 2).trans rfl
      have g0:=(blk_cell HZ.out 0).trans rfl
      have g1:=(blk_cell HZ.out 1).trans rfl
      have g2:=(blk_cell HZ.out 2).trans rfl
      have z0:=blk_frozen HZ.out 0
      have z1:=blk_frozen HZ.out 1
      have z2:=blk_frozen HZ.out 2
      have hs1:w.heap.size+1<wr.heap.size:=blk_lt HZ.out
      go_wp2
      refine bodyPost_ret (results_cell_row rfl _ _ (w.heap.size+1) 37 #[.int .i64 (vecByF op l a b d).1, .int .i64 (vecByF op l a b d).2.1, .int .i64 (vecByF op l a b d).2.2] (0,0) _ rfl (blk_put (blk_put (blk_put HZ.out 0 _ rfl) 1 _ rfl) 2 _ rfl) Try.underlying37 rfl (by kernel_rfl)) rfl ?_
      exact ⟨rfl,below_set (below_set (below_set HB.out (Nat.le_succ _)) (Nat.le_succ _)) (Nat.le_succ _)⟩


    have hltz:(i:Int)<(l.length:Int):=by omega
    obtain ⟨ad,e1,h0,h1,h2⟩:=at_T37 HR0.out (i:Int) (by omega) (by omega)
    cases e1
    simp only [Int.toNat_natCast] at h0 h1 h2
    replace h0:=zx_ HB h0
    replace h1:=zx_ HB h1
    replace h2:=zx_ HB h2
    have hsz:w.heap.size+1<wr.heap.size:=blk_lt HZ.out
    go_wp2
    obtain ⟨W1,hW1⟩: ∃W1,W1=(wr.alloc (.cells #[.int .i64 (rd_T37 l i).f0, .int .i64 (rd_T37 l i).f1, .int .i64 (rd_T37 l i).f2] 37)).drew:=⟨_,rfl⟩
    have hF1:W1.heap[w.heap.size]?=some (.cells #[.int .i64 q.1, .int .i64 q.2.1, .int .i64 q.2.2] 37 (0,0)):=by rw [hW1];exact blk_alloc HF.out _
    have hZ1:W1.heap[w.heap.size+1]?=some (.cells #[.int .i64 0, .int .i64 0, .int .i64 0] 37 (0,0)):=by rw [hW1];exact blk_alloc HZ.out _
    have hV1:W1.heap[wr.heap.size]?=some (.cells #[.int .i64 (rd_T37 l i).f0, .int .i64 (rd_T37 l i).f1, .int .i64 (rd_T37 l i).f2] 37 (0,0)):=by rw [hW1];exact blk_new _ _
    have hB1:Below w.heap.size w W1:=by rw [hW1];exact below_drew (below_alloc HB.out _)
    refine wp_region_still_tail 19 (by kernel_rfl) (by kernel_rfl) ?_
    change wpStill _ _ (World.drew _) _ _ _
    rw [←hW1]
    simp only [List.take_succ_cons,List.take_zero,List.drop_succ_cons,List.drop_zero]
    have HV1:=Aside0.mk hV1
    have HF1:=Aside0.mk hF1
    have HZ1:=Aside0.mk hZ1
    have HB1:=Aside0.mk hB1
    have f0:=(blk_cell hF1 0).trans rfl
    have f1:=(blk_cell hF1 1).trans rfl
    have f2:=(blk_cell hF1 2).trans rfl
    have g0:=(blk_cell hV1 0).trans rfl
    have g1:=(blk_cell hV1 1).trans rfl
    have g2:=(blk_cell hV1 2).trans rfl
    have HW1:=Aside0.mk hW1
    clear hW1 hF1 hZ1 hV1 hB1
    have eg:=HEG.out
    repeat still_step
    still_call (HOP.out _ _ _)
    repeat still_step
    still_call (HOP.out _ _ _)
    repeat still_step
    still_call (HOP.out _ _ _)
    repeat still_step
    refine wpStill_nil ?_
    change wpList _ _ _ _ _ (World.drew _)
    rw [←HW1.out]
    have z0:=blk_frozen HF1.out 0
    have z1:=blk_frozen HF1.out 1
    have z2:=blk_frozen HF1.out 2
    have hs1:w.heap.size<W1.heap.size:=blk_lt HF1.out
    go_wp2
    have hb:=HBT.out i hlt
    rw [HQ.out] at hb
    have HH:=Aside0.mk hb
    clear hb
    go_roundg (l.length - (i+1))
    case measure=>omega
    case rel=>
      refine ⟨i+1,by omega,by omega,by go_num,⟨below_set (below_set (below_set HB1.out (Nat.le_refl _)) (Nat.le_refl _)) (Nat.le_refl _)⟩,⟨?_⟩,⟨blk_far (blk_far (blk_far HZ1.out (by simp) _) (by simp) _) (by simp) _⟩⟩
      rw [HH.out]
      exact blk_put (blk_put (blk_put HF1.out 0 _ rfl) 1 _ rfl) 2 _ rfl
theorem vecMax1_calls (x y:Int) (W:World):Calls Try.prog 149 #[.int .i64 x, .int .i64 y] W fun e w'=>e= .returned (.int .i64 (mx x y))∧w'=W:=by
 unfold mx
 go_enter Try.func149,Try.ntmps149
 go_wp2<;>(go_ret;exact ⟨rfl,rfl⟩)
def vec_Max.f (l0:List (S37)):Option (Int×Int×Int):=some (vecByF (fun x y=>mx x y) l0 0 0 0)
set_option maxHeartbeats 1000000 in
set_option maxRecDepth 100000 in
theorem vec_Max.calls (A0:Option Addr) (c0:Nat) (l0:List (S37)) (r1:Int) (r2:Int) (r3:Int) (w:World) (hr0:Kd.C k37 w A0 l0.length l0) (hc0:l0.length≤c0) (h:vec_Max.f l0=some (r1,r2,r3)):
  Calls Try.prog 124 #[.slice A0 l0.length c0] w fun e w'=>e= .returned (.agg #[.int .i64 r1, .int .i64 r2, .int .i64 r3])∧Below w.heap.size w w':=by
 have hu37:=Try.underlying37
 have hm:l0.length≤maxLen:=hr0.2.1
 have HC:=am_ (vecBy_calls 149 (fun x y=>mx x y) (enters_of Try.func149 (by kernel_rfl) rfl) vecMax1_calls A0 c0 l0 0 0 0 (w.alloc (.cells #[.int .i64 0, .int .i64 0, .int .i64 0] 37)) (Kd.C_below hr0 (below_alloc (Below.refl _ _) _)) hc0 hm)
 have HH:=Aside0.mk h
 clear hr0 h
 go_enter Try.func124,Try.ntmps124
 go_wp2_with fail
 refine HC.out.mono ?_
 rintro e w1 ⟨rfl,hb⟩
 have h:=Option.some.inj (show some (vecByF (fun x y=>mx x y) l0 0 0 0)=some (r1,r2,r3) from HH.out)
 rw [h]
 have hZ:=blk_below (blk_new w (.cells #[.int .i64 0, .int .i64 0, .int .i64 0] 37)) hb
 have HB:=Aside0.mk hb
 have HZ:=Aside0.mk hZ
 clear h hb hZ
 have g0:=(blk_cell HZ.out 0).trans rfl
 have g1:=(blk_cell HZ.out 1).trans rfl
 have g2:=(blk_cell HZ.out 2).trans rfl
 have z0:=blk_frozen HZ.out 0
 have z1:=blk_frozen HZ.out 1
 have z2:=blk_frozen HZ.out 2
 have hs1:w.heap.size<w1.heap.size:=blk_lt HZ.out
 go_wp2
 refine bodyPost_ret (results_cell_row rfl _ _ w.heap.size 37 #[.int .i64 r1, .int .i64 r2, .int .i64 r3] (0,0) _ rfl (blk_put (blk_put (blk_put HZ.out 0 _ rfl) 1 _ rfl) 2 _ rfl) Try.underlying37 rfl (by kernel_rfl)) rfl ?_
 exact ⟨rfl,below_set (below_set (below_set (below_step (below_alloc (Below.refl _ _) _) HB.out) (Nat.le_refl _)) (Nat.le_refl _)) (Nat.le_refl _)⟩


end Go.Proofs.Ytahidkjncljkaaa.Print

namespace Go.Proofs.Ytahidkjncljkaaa.Print
open Go.RowKit Go.Proofs.YtahidkjncljkaaaW.PrintWords Go.Proofs.YtahidkjncljkaaaW.PrintLast Go.Proofs.YtahidkjncljkaaaW.PrintMore
attribute [local go_sem high] eqA37
abbrev PGoal:=S141
def goalCells (x:PGoal):List Value:=[.string x.f0.f0, .string x.f0.f1, .int .i64 x.f0.f2.f0, .int .i64 x.f0.f2.f1, .int .i64 x.f0.f2.f2, .string x.f1.f0, .string x.f1.f1, .int .i64 x.f1.f2.f0, .int .i64 x.f1.f2.f1, .int .i64 x.f1.f2.f2, .int .i64 x.f1.f3.f0, .int .i64 x.f1.f3.f1, .int .i64 x.f1.f3.f2, .int .i64 x.f1.f4.f0, .int .i64 x.f1.f4.f1, .int .i64 x.f1.f4.f2, .int .i64 x.f1.f5, .bool x.f2, .int .i64 x.f3.f0, .int .i64 x.f3.f1, .int .i64 x.f3.f2]
theorem goal_getD (pre post:List PGoal) (y:PGoal):(pre++y::post).getD ((pre.length:Nat):Int).toNat z141=y:=by
 rw [Int.toNat_natCast,List.getD_eq_getElem?_getD,List.getElem?_append_right (Nat.le_refl _),Nat.sub_self]
 rfl
theorem goal_cell {W:World} {base gg n cg i:Nat} {ok:Nat→Prop} {pre post:List PGoal} {y:PGoal} (hl:pre.length=i) (h:Kd.R k141 141 W base ok (.slice (some ⟨gg,0,none⟩) n cg) (pre++y::post)) (j:Nat) {u:Value} (hu:(goalCells y)[j]?=some u):W.cell? ⟨gg,i*21+j,none⟩=some u:=by
 subst hl
 have hn:=(Kd.R_reads' h).1
 have h1:((pre.length:Nat):Int)<(n:Int):=by rw [hn,List.length_append,List.length_cons];omega
 obtain ⟨c,_,hM,hc,_⟩:=Kd.R_elem h z141 ((pre.length:Nat):Int) (by omega) h1
 rw [goal_getD] at hM
 have e:=k141_openM hM
 have hc': ∀j u,c[j]?=some u→W.cell? ⟨gg,((pre.length:Nat):Int).toNat*21+j,none⟩=some u:=hc
 rw [Int.toNat_natCast] at hc'
 refine hc' j u ?_
 rw [e]
 exact hu
theorem goal_run {P:Program} {W:World} {base gg n cg i:Nat} {pre post:List PGoal} {y:PGoal} (hl:pre.length=i) (h:Kd.R k141 141 W base (fun _=>True) (.slice (some ⟨gg,0,none⟩) n cg) (pre++y::post)) (ht:(P.info? 37).map (·.size)=some 3) (v:S37):
    ∃w1,(Instr.storeAt 37 (.pointer (some ⟨gg,i*21+18,none⟩)) (.agg #[.int .i64 v.f0, .int .i64 v.f1, .int .i64 v.f2])).run P W= .ok () w1∧Kd.R k141 141 w1 base (fun _=>True) (.slice (some ⟨gg,0,none⟩) n cg) (pre++(⟨y.f0,y.f1,y.f2,v⟩:PGoal)::post)∧W.grownBy w1 (some gg):=by
  subst hl
  have hn:=(Kd.R_reads' h).1
  have h1:((pre.length:Nat):Int)<(n:Int):=by rw [hn,List.length_append,List.length_cons];omega
  obtain ⟨c,hcl,hM,hc,_⟩:=Kd.R_elem h z141 ((pre.length:Nat):Int) (by omega) h1
  rw [goal_getD] at hM
  have e:=k141_openM hM
  obtain ⟨hrow,hg⟩:=Kd.R_seg h ((pre.length:Nat):Int) (by omega) h1 (c:=c) (seg:=[.int .i64 v.f0, .int .i64 v.f1, .int .i64 v.f2]) (j:=18) (x':=(⟨y.f0,y.f1,y.f2,v⟩:PGoal)) hcl hc (show 18+3≤21 by decide) (okp:=fun _=>False) (by rw [e];exact k141_mkM _ _ _ (⟨y.f0,y.f1,y.f2,v⟩:PGoal)) (fun _ hk=>hk.elim)
  have es:(pre++y::post).set ((pre.length:Nat):Int).toNat (⟨y.f0,y.f1,y.f2,v⟩:PGoal)=pre++(⟨y.f0,y.f1,y.f2,v⟩:PGoal)::post:=by
    rw [Int.toNat_natCast,List.set_append_right _ _ (Nat.le_refl _),Nat.sub_self]
    rfl
  rw [es] at hrow
  have hrun:(Instr.storeAt 37 (.pointer (some ⟨gg,pre.length*21+18,none⟩)) (.agg #[.int .i64 v.f0, .int .i64 v.f1, .int .i64 v.f2])).run P W= .ok () (W.setCells gg (pre.length*21+18) [.int .i64 v.f0, .int .i64 v.f1, .int .i64 v.f2]):=by
    obtain ⟨_,inner,hown,hr⟩:=h
    rcases hown.2 with ⟨hv,_⟩|⟨g',cap',cur,hv,hb,hh,hnc,hcm,hcs,_⟩
    · cases hv
    injection hv with ha _ hc2
    injection ha with ha
    injection ha with hg'
    subst hg';subst hc2
    refine run_store_run 37 _ [.int .i64 v.f0, .int .i64 v.f1, .int .i64 v.f2] hh rfl ht ?_ (by intro q hq;simp only [List.mem_cons,List.not_mem_nil,or_false] at hq;rcases hq with rfl|rfl|rfl<;>rfl)
    have hcs':cur.size=cg*21:=hcs
    have hlen:n=pre.length+(post.length+1):=by rw [hn,List.length_append,List.length_cons]
    have h2:pre.length*21+21≤cg*21:=by
      have:pre.length+1≤cg:=by omega
      omega
    rw [hcs']
    show pre.length*21+18+3≤cg*21
    omega
  have en:((pre.length:Nat):Int).toNat*Kd.sz k141=pre.length*21:=by rw [Int.toNat_natCast];rfl
  rw [en] at hrow hg
  exact ⟨_,hrun,hrow,hg⟩
section
variable {P:Program} {ops:Array Oper} {rest:List Oper} {o:Oper} {a:Act} {Q:Exit→Act→World→Prop} {Kc:Act→World→Prop} {W:World} {base gg n cg i:Nat} {pre post:List PGoal} {y:PGoal}
theorem goal_step (h:Kd.R k141 141 W base (fun _=>True) (.slice (some ⟨gg,0,none⟩) n cg) (pre++y::post)) (hl:pre.length=i) (ht:(P.info? 37).map (·.size)=some 3) (hw:Region.wanted o (yielded ops a.tmps)=true) (p x:Operand) (ho:o.op= .store 37 p x) (hN:o.dst=none) (v:S37)
  (hp:a.eval p= .pointer (some ⟨gg,i*21+18,none⟩)) (hx:a.eval x= .agg #[.int .i64 v.f0, .int .i64 v.f1, .int .i64 v.f2])
  (k: ∀w',Kd.R k141 141 w' base (fun _=>True) (.slice (some ⟨gg,0,none⟩) n cg) (pre++(⟨y.f0,y.f1,y.f2,v⟩:PGoal)::post)→W.grownBy w' (some gg)→Kc a w'):if Region.wanted o (yielded ops a.tmps)=true then Oper.wp P o a W Kc Q else Kc (a.put none undef) W:=by
 obtain ⟨w',hrun,hr,hg⟩:=goal_run (P:=P) hl h ht v
 rw [if_pos hw]
 unfold Oper.wp execOp
 simp only [ho,hp,hx,Sem.run_bind,Sem.run_pure,Result.andThen_ok,hrun]
 show Kc (a.put o.dst undef) _
 rw [hN]
 exact k _ hr hg
theorem goal_store (h:Kd.R k141 141 W base (fun _=>True) (.slice (some ⟨gg,0,none⟩) n cg) (pre++y::post)) (hl:pre.length=i) (ht:(P.info? 37).map (·.size)=some 3) (p x:Operand) (ho:o.op= .store 37 p x) (hN:o.dst=none) (hgd:o.guard=none) (v:S37)
  (hp:a.eval p= .pointer (some ⟨gg,i*21+18,none⟩)) (hx:a.eval x= .agg #[.int .i64 v.f0, .int .i64 v.f1, .int .i64 v.f2])
  (k: ∀w',Kd.R k141 141 w' base (fun _=>True) (.slice (some ⟨gg,0,none⟩) n cg) (pre++(⟨y.f0,y.f1,y.f2,v⟩:PGoal)::post)→W.grownBy w' (some gg)→wpList P ops Q rest a w'):wpList P ops Q (o::rest) a W:=by
 obtain ⟨w',hrun,hr,hg⟩:=goal_run (P:=P) hl h ht v
 refine wpList_plain hgd fun K hK=> ?_
 unfold Oper.wp execOp
 simp only [ho,hp,hx,Sem.run_bind,Sem.run_pure,Result.andThen_ok,hrun]
 show K (a.put o.dst undef) _
 rw [hN]
 exact hK a _ (k _ hr hg)
end
def maxG (y:PGoal):S37:=⟨(vecByF (fun x y=>mx x y) [y.f1.f2,y.f0.f2] 0 0 0).1,(vecByF (fun x y=>mx x y) [y.f1.f2,y.f0.f2] 0 0 0).2.1,(vecByF (fun x y=>mx x y) [y.f1.f2,y.f0.f2] 0 0 0).2.2⟩
theorem maxG_eq (y:PGoal):vec_Max.f [y.f1.f2,y.f0.f2]=some ((maxG y).f0,(maxG y).f1,(maxG y).f2):=rfl
def nowG (wide:Bool) (y:PGoal):S37:=if wide=true then ⟨1099511627776,1099511627776,1099511627776⟩ else maxG y
def upG (wide:Bool) (y:PGoal):PGoal:=⟨y.f0,y.f1,y.f2,nowG wide y⟩
def neG (a b:S37):Bool:=(!(a.f0==b.f0)||(!(a.f1==b.f1)||(!(a.f2==b.f2))))
def raise1 (y:PGoal):List S76:=if y.f2=false then [⟨1,y.f0.f0,y.f0.f1,y.f3⟩] else if neG y.f3 y.f1.f2=true then [⟨2,y.f0.f0,⟨#[]⟩,y.f3⟩] else []
def raiseG (wide:Bool) (y:PGoal):List S76:=raise1 (upG wide y)
theorem flat_snoc {α β:Type} (f:α→List β) (l:List α) (y:α):(l++ [y]).flatMap f=l.flatMap f++f y:=by
 rw [List.flatMap_append,List.flatMap_cons,List.flatMap_nil,List.append_nil]
theorem nx_nat {i n:Nat} (h:i<n) (hn:n<1000000):wrap64 ((i:Int)+1)=((i+1:Nat):Int):=by
 rw [w64 (by omega) (by omega)];rfl
theorem raiseG_len (wide:Bool): ∀l:List PGoal,(l.flatMap (raiseG wide)).length≤l.length
  |[]=>Nat.le_refl _
  | y :: l => by
    have:=raiseG_len wide l
    rw [List.flatMap_cons,List.length_append,List.length_cons]
    have:(raiseG wide y).length≤1:=by unfold raiseG raise1;split<;>(try split)<;>simp
    omega
set_option maxHeartbeats 8000000 in
set_option maxRecDepth 100000 in
theorem planRaise_calls (w W:World) (b:Nat) (vg vo:Value) (wide:Bool) (gs:List PGoal) (out:List S76)
    (hb:W.heap[b]?=some (.cells #[vg, .bool wide,vo] 139 (0,0))) (hge:w.heap.size≤b) (hB:Below w.heap.size w W) (hg:Kd.R k141 141 W w.heap.size (fun _=>True) vg gs) (ho:Kd.R k76 76 W w.heap.size (fun _=>True) vo out) (hl:out.length+gs.length<100000):
    Calls Try.prog 94 #[.pointer (some ⟨b,0,none⟩)] W fun e w'=>e= .returned (.tuple #[])∧ ∃vo',w'.heap[b]?=some (.cells #[vg, .bool wide,vo'] 139 (0,0))∧Kd.R k141 141 w' w.heap.size (fun _=>True) vg (gs.map (upG wide))∧Kd.R k76 76 w' w.heap.size (fun _=>True) vo' (out++gs.flatMap (raiseG wide))∧Below w.heap.size w w':=by
  have hu139:=Try.underlying139
  have hu141:=Try.underlying141
  have hu76:=Try.underlying76
  have hu39:=Try.underlying39
  have hu79:=Try.underlying79
  have hu37:=Try.underlying37
  obtain ⟨Ag,cg,eg⟩:=Kd.R_slice hg
  subst eg
  have BK:=Aside0.mk hb
  have GE:=Aside0.mk hge
  have HB:=Aside0.mk hB
  have HG:=Aside0.mk hg
  have HO:=Aside0.mk ho
  have HLN:=Aside0.mk hl
  clear hb hge hB hg ho hl
  have cb0:=(blk_cell BK.out 0).trans rfl
  go_enter Try.func94,Try.ntmps94
  go_wp2
  clear cb0
  go_loopg [9] gs.length (fun kq v9 w'=> ∃(pre post:List PGoal) (u:Value),gs=pre++post∧kq=post.length∧v9= .int .i64 (pre.length:Int)∧Aside0 (w'.heap[b]?=some (.cells #[.slice Ag gs.length cg, .bool wide,u] 139 (0,0)))∧Aside0 (Kd.R k141 141 w' w.heap.size (fun _=>True) (.slice Ag gs.length cg) (pre.map (upG wide)++post))∧Aside0 (Kd.R k76 76 w' w.heap.size (fun _=>True) u (out++pre.flatMap (raiseG wide)))∧Aside0 (Below w.heap.size w w'))
  case atStart=>exact ⟨[],gs,vo,rfl,rfl,rfl,BK,HG,⟨by rw [List.flatMap_nil,List.append_nil];exact HO.out⟩,HB⟩
  case round=>
    clear BK HG HO HB
    obtain ⟨pre,post,u,hgs,hkq,rfl,BK,HG,HO,HB⟩:=hrel
    cases post with
    | nil =>
      have c1:decide ((pre.length:Int)<(gs.length:Int))=false:=decide_eq_false (by rw [hgs,List.append_nil];omega)
      rw [List.append_nil] at hgs
      subst hgs
      go_wp2
      (first|go_end0|((try simp only [Exit.inBlock,Exit.then]);refine bodyPost_ret (results_none rfl _ _ _) rfl ?_)|refine bodyPost_end (results_none rfl _ _ _) rfl ?_)
      exact ⟨rfl,_,BK.out,by have:=HG.out;rw [List.append_nil] at this;exact this,HO.out,HB.out⟩
    | cons y post =>
      have hn:gs.length=pre.length+(post.length+1):=by rw [hgs,List.length_append,List.length_cons]
      have c1:decide ((pre.length:Int)<(gs.length:Int))=true:=decide_eq_true (by omega)
      have q1:((pre.length:Nat):Int)<(gs.length:Int):=by omega
      obtain ⟨gg,cg',hv, -, -, -⟩:=Kd.R_form HG.out (by rw [List.length_append,List.length_cons];omega)
      obtain ⟨rfl,rfl⟩:Ag=some ⟨gg,0,none⟩∧cg=cg':=by
        injection hv with e1 e2 e3
        exact ⟨e1,e3⟩
      clear hv
      have HLEN:=am_ (show out.length+pre.length<100000 by have:=HLN.out;omega)
      generalize hi:pre.length=i at*
      have HL0:=am_ (show (pre.map (upG wide)).length=i by rw [List.length_map];exact hi)
      have q0:(0:Int)≤((i:Nat):Int):=by omega
      have HGS:=Aside0.mk hgs
      have HKQ:=Aside0.mk hkq
      have HI:=Aside0.mk hi
      have HN:=Aside0.mk hn
      clear hgs hkq hi hn
      replace q1:=eq_true q1
      replace q0:=eq_true q0
      have cb0:=(blk_cell BK.out 0).trans rfl
      go_wp2
      have cb1:=(blk_cell BK.out 1).trans rfl
      replace HO:=am_ (Kd.R_drew HO.out)
      replace HG:=am_ (Kd.R_drew HG.out)
      replace BK:=am_ (blk_drew BK.out)
      replace HB:=am_ (below_drew1 HB.out)
      refine start_ (n:=16) (S:=fun w'=>w'.cell? ⟨gg,i*21+5+2,none⟩=some (.int .i64 y.f1.f2.f0)∧w'.cell? ⟨gg,i*21+5+2+1,none⟩=some (.int .i64 y.f1.f2.f1)∧w'.cell? ⟨gg,i*21+5+2+2,none⟩=some (.int .i64 y.f1.f2.f2)∧w'.cell? ⟨gg,i*21+2,none⟩=some (.int .i64 y.f0.f2.f0)∧w'.cell? ⟨gg,i*21+2+1,none⟩=some (.int .i64 y.f0.f2.f1)∧w'.cell? ⟨gg,i*21+2+2,none⟩=some (.int .i64 y.f0.f2.f2)) (ds:=[15]) (bt_ 16 0) (by kernel_rfl) rfl rfl ⟨goal_cell HL0.out HG.out 7 rfl,goal_cell HL0.out HG.out 8 rfl,goal_cell HL0.out HG.out 9 rfl,goal_cell HL0.out HG.out 2 rfl,goal_cell HL0.out HG.out 3 rfl,goal_cell HL0.out HG.out 4 rfl⟩ (fun hHeld=> ?_)
      generalize wr.drew=w5 at HO HG BK HB hHeld ⊢
      refine pv_ (i:=0) (N:=some 18) (bt_ 16 1) ?_
      refine pv_ (i:=1) (N:=some 19) (bt_ 16 3) ?_
      refine pv_ (i:=2) (N:=some 20) (bt_ 16 7) ?_
      refine pv_ (i:=3) (N:=some 21) (bt_ 16 15) ?_
      refine pv_ (i:=4) (N:=some 22) (bt_ 16 31) ?_
      refine tv_ (i:=5) (N:=some 23) (bt_ 16 63) hHeld ?_
      refine pv_ (i:=6) (N:=some 24) (bt_ 16 127) ?_
      refine pv_ (i:=7) (N:=some 25) (bt_ 16 255) ?_
      refine pv_ (i:=8) (N:=some 26) (bt_ 16 511) ?_
      refine pv_ (i:=9) (N:=some 27) (bt_ 16 1023) ?_
      refine tv_ (i:=10) (N:=some 28) (bt_ 16 2047) hHeld ?_
      refine one_ (i:=11) (N:=some 29) (bt_ 16 4095) rfl rfl (by kernel_rfl) (by decide) (fun K hK=> ?_)
      refine Kd.R_lit_step k37 (w0:=w5) w5.heap.size 37 (by rfl) (N:=29) rfl (xs:=[y.f1.f2,y.f0.f2]) (inner:=[.int .i64 y.f1.f2.f0, .int .i64 y.f1.f2.f1, .int .i64 y.f1.f2.f2, .int .i64 y.f0.f2.f0, .int .i64 y.f0.f2.f1, .int .i64 y.f0.f2.f2]) (ok:=fun _=>True) (okp:=fun _=>True) ?hr ?hp (fun _ hk=>hk) trivial (Below.refl _ _) (Nat.le_refl _) (by simp) ?_
      (case hr=>first|(go_simp;done)|(go_simp;rfl))
      (case hp=>exact (Reps.c3 (show Kd.M k37 _ _ _ y.f1.f2 [.int .i64 y.f1.f2.f0, .int .i64 y.f1.f2.f1, .int .i64 y.f1.f2.f2] from k37_mkM _ _ _ y.f1.f2) (Reps.c3 (show Kd.M k37 _ _ _ y.f0.f2 [.int .i64 y.f0.f2.f0, .int .i64 y.f0.f2.f1, .int .i64 y.f0.f2.f2] from k37_mkM _ _ _ y.f0.f2) (Reps.none _ _))))
      intro v6 w6 ho6 hb _ _
      replace HO:=am_ (Kd.R_below HO.out hb)
      replace HG:=am_ (Kd.R_below HG.out hb)
      replace BK:=am_ (blk_below BK.out hb)
      replace HB:=am_ (below_step HB.out hb)
      have HV:=Aside0.mk ho6
      clear ho6 hb
      obtain ⟨A6,c6,e6⟩:=Kd.R_slice HV.out
      subst e6
      refine hK.out _ _ ⟨goal_cell HL0.out HG.out 7 rfl,goal_cell HL0.out HG.out 8 rfl,goal_cell HL0.out HG.out 9 rfl,goal_cell HL0.out HG.out 2 rfl,goal_cell HL0.out HG.out 3 rfl,goal_cell HL0.out HG.out 4 rfl⟩ (fun hHeld=> ?_)
      clear hK K
      refine norm_ (a':= ?_) ?_ ?_
      rotate_left
      · show Act.put _ (some 29) _ = _
        simp only [Act.put,List.setIfInBounds_toArray,List.set_cons_zero,List.set_cons_succ,i64_w,i32_w]
        rfl
      refine one_ (i:=12) (N:=some 30) (bt_ 16 8191) rfl rfl (by kernel_rfl) (by decide) (fun K hK=> ?_)
      refine goes_ Try.func124 (by kernel_rfl) rfl #[.slice A6 2 c6] (by rfl) rfl rfl (by (try simp only [List.map_toArray,List.map_cons,List.map_nil]);rfl) ?_
      refine (vec_Max.calls A6 c6 [y.f1.f2,y.f0.f2] (maxG y).f0 (maxG y).f1 (maxG y).f2 _ (Kd.R_reads' HV.out).2.2 (Kd.R_reads' HV.out).2.1 (maxG_eq y)).mono ?_
      rintro e w7 ⟨rfl,hb⟩
      refine ⟨_,rfl, ?_⟩
      replace HO:=am_ (Kd.R_below HO.out hb)
      replace HG:=am_ (Kd.R_below HG.out hb)
      replace BK:=am_ (blk_below BK.out hb)
      replace HB:=am_ (below_step HB.out hb)
      clear hb HV
      refine hK.out _ _ ⟨goal_cell HL0.out HG.out 7 rfl,goal_cell HL0.out HG.out 8 rfl,goal_cell HL0.out HG.out 9 rfl,goal_cell HL0.out HG.out 2 rfl,goal_cell HL0.out HG.out 3 rfl,goal_cell HL0.out HG.out 4 rfl⟩ (fun hHeld=> ?_)
      clear hK K
      refine norm_ (a':= ?_) ?_ ?_
      rotate_left
      · show Act.put _ (some 30) _ = _
        simp only [Act.put,List.setIfInBounds_toArray,List.set_cons_zero,List.set_cons_succ,i64_w,i32_w]
        rfl
      refine pv_ (i:=13) (N:=some 31) (bt_ 16 16383) ?_
      refine pv_ (i:=14) (N:=some 32) (bt_ 16 32767) ?_
      refine last_ (i:=15) (N:=none) (bt_ 16 65535) rfl rfl (by kernel_rfl) (by decide) (fun K hK=> ?_)
      refine goal_step HG.out HL0.out (by kernel_rfl) (by rfl) (.tmp 32) (.tmp 30) rfl rfl (maxG y) rfl rfl ?_
      intro w8 hrow hg
      have NEBK:=am_ (show some b≠some gg from fun e=>Kd.R_ne HG.out BK.out (by decide) e)
      have n0_:=am_ (Kd.R_over HO.out HG.out (by decide) hg)
      have n1_:=am_ (blk_put_other2 BK.out hg NEBK.out)
      have n2_:=am_ (pw_below_grown HB.out (some gg) (below_size HB.out) hg (fun k e=>by cases e;exact Kd.R_base HG.out gg rfl))
      have n3_:=Aside0.mk hrow
      clear HO BK HB HG hrow hg NEBK
      have HO:=n0_
      have BK:=n1_
      have HB:=n2_
      have HG:=n3_
      clear n0_ n1_ n2_ n3_
      refine hK.out _ _ ?_
      clear hK K hHeld
      refine done_ (by kernel_rfl) ?_
      clear cb0 cb1
      have cb1:=(blk_cell BK.out 1).trans rfl
      go_upto_if 36 with fail
      clear cb1
      go_cut [] (fun wc=>Aside0 (wc.heap[b]?=some (.cells #[.slice (some ⟨gg,0,none⟩) gs.length cg, .bool wide,u] 139 (0,0)))∧Aside0 (Kd.R k141 141 wc w.heap.size (fun _=>True) (.slice (some ⟨gg,0,none⟩) gs.length cg) (pre.map (upG wide)++(upG wide y)::post))∧Aside0 (Kd.R k76 76 wc w.heap.size (fun _=>True) u (out++pre.flatMap (raiseG wide)))∧Aside0 (Below w.heap.size w wc))
      case first=>
        cases wide with
        | false =>
          go_wp2
          go_meet
          case rel=>exact ⟨BK,HG,HO,HB⟩
        | true =>
          go_wp2_with (first|(go_at_call 125;refine (vec_Most.calls 1099511627776 1099511627776 1099511627776 _ rfl).mono ?_;rintro e w9 ⟨rfl,hb⟩;have n0_:=am_ (Kd.R_below HO.out hb);have n1_:=am_ (Kd.R_below HG.out hb);have n2_:=am_ (blk_below BK.out hb);have n3_:=am_ (below_step HB.out hb);clear HO HG BK HB hb;have HO:=n0_;have HG:=n1_;have BK:=n2_;have HB:=n3_;clear n0_ n1_ n2_ n3_)|((with_reducible refine gate_store (t:=37) (p:=40) (v:= .tmp 38) rfl ?_);refine goal_store HG.out HL0.out (by kernel_rfl) (.tmp 40) (.tmp 38) rfl rfl rfl ⟨1099511627776,1099511627776,1099511627776⟩ rfl rfl ?_;intro w10 hrow hg;have NEBK:=am_ (show some b≠some gg from fun e=>Kd.R_ne HG.out BK.out (by decide) e);have n0_:=am_ (Kd.R_over HO.out HG.out (by decide) hg);have n1_:=am_ (blk_put_other2 BK.out hg NEBK.out);have n2_:=am_ (pw_below_grown HB.out (some gg) (below_size HB.out) hg (fun k e=>by cases e;exact Kd.R_base HG.out gg rfl));have n3_:=Aside0.mk hrow;clear HO BK HB HG hrow hg NEBK;have HO:=n0_;have BK:=n1_;have HB:=n2_;have HG:=n3_;clear n0_ n1_ n2_ n3_))
          go_meet
          case rel=>exact ⟨BK,HG,HO,HB⟩
      case rest=>
        clear BK HG HO HB
        obtain ⟨BK,HG,HO,HB⟩:=hcut
        obtain ⟨z,hz⟩: ∃z,upG wide y=z:=⟨_,rfl⟩
        have HZ:=Aside0.mk hz
        rw [hz] at HG
        clear hz
        have HRZ:raiseG wide y=raise1 z:=by unfold raiseG;rw [HZ.out]
        cases hth:z.f2 with
        | false =>
          have cth:wc.cell? ⟨gg,i*21+17,none⟩=some (.bool false):=(goal_cell HL0.out HG.out 17 rfl).trans (by rw [hth])
          have HRS:raiseG wide y=[⟨1,z.f0.f0,z.f0.f1,z.f3⟩]:=by rw [HRZ];unfold raise1;rw [if_pos hth]
          clear HRZ
          have HRS:=Aside0.mk HRS
          go_wp2_with fail
          clear cth
          replace HO:=am_ (Kd.R_drew HO.out)
          replace HG:=am_ (Kd.R_drew HG.out)
          replace BK:=am_ (blk_drew BK.out)
          replace HB:=am_ (below_drew1 HB.out)
          refine start_ (n:=17) (S:=fun w'=>w'.cell? ⟨gg,i*21,none⟩=some (.string z.f0.f0)∧w'.cell? ⟨gg,i*21+1,none⟩=some (.string z.f0.f1)∧w'.cell? ⟨gg,i*21+18,none⟩=some (.int .i64 z.f3.f0)∧w'.cell? ⟨gg,i*21+18+1,none⟩=some (.int .i64 z.f3.f1)∧w'.cell? ⟨gg,i*21+18+2,none⟩=some (.int .i64 z.f3.f2)) (ds:=[16]) (bt_ 17 0) (by kernel_rfl) rfl rfl ⟨goal_cell HL0.out HG.out 0 rfl,goal_cell HL0.out HG.out 1 rfl,goal_cell HL0.out HG.out 18 rfl,goal_cell HL0.out HG.out 19 rfl,goal_cell HL0.out HG.out 20 rfl⟩ (fun hHeld=> ?_)
          generalize wc.drew=w9 at HO HG BK HB hHeld ⊢
          refine pv_ (i:=0) (N:=some 47) (bt_ 17 1) ?_
          refine pv_ (i:=1) (N:=some 48) (bt_ 17 3) ?_
          refine pv_ (i:=2) (N:=some 49) (bt_ 17 7) ?_
          refine pv_ (i:=3) (N:=some 50) (bt_ 17 15) ?_
          refine pv_ (i:=4) (N:=some 51) (bt_ 17 31) ?_
          refine tv_ (i:=5) (N:=some 52) (bt_ 17 63) hHeld ?_
          refine pv_ (i:=6) (N:=some 53) (bt_ 17 127) ?_
          refine pv_ (i:=7) (N:=some 54) (bt_ 17 255) ?_
          refine pv_ (i:=8) (N:=some 55) (bt_ 17 511) ?_
          refine pv_ (i:=9) (N:=some 56) (bt_ 17 1023) ?_
          refine tv_ (i:=10) (N:=some 57) (bt_ 17 2047) hHeld ?_
          refine pv_ (i:=11) (N:=some 58) (bt_ 17 4095) ?_
          refine pv_ (i:=12) (N:=some 59) (bt_ 17 8191) ?_
          refine pv_ (i:=13) (N:=some 60) (bt_ 17 16383) ?_
          refine tv_ (i:=14) (N:=some 61) (bt_ 17 32767) hHeld ?_
          refine pv_ (i:=15) (N:=some 62) (bt_ 17 65535) ?_
          refine last_ (i:=16) (N:=some 63) (bt_ 17 131071) rfl rfl (by kernel_rfl) (by decide) (fun K hK=> ?_)
          refine goes_ Try.func126 (by kernel_rfl) rfl #[.pointer (some ⟨b,0,none⟩), .agg (stepCells ⟨1,z.f0.f0,z.f0.f1,z.f3⟩)] (by rfl) rfl rfl (by (try simp only [List.map_toArray,List.map_cons,List.map_nil]);rfl) ?_
          refine (planPut_calls w _ b _ _ _ _ ⟨1,z.f0.f0,z.f0.f1,z.f3⟩ BK.out GE.out HB.out HO.out (by rw [List.length_append];have:=HLEN.out;have:=raiseG_len wide pre;have:=HI.out;omega)).mono ?_
          rintro e w12 ⟨rfl,vo',hbk,ho,hb,hk⟩
          refine ⟨_,rfl, ?_⟩
          have n0_:=am_ (R_keepS HG.out BK.out (by decide) hk)
          clear HG BK HO HB hk
          have HG:=n0_
          have BK:=Aside0.mk hbk
          have HO:=Aside0.mk ho
          have HB:=Aside0.mk hb
          clear n0_ hbk ho hb
          refine hK.out _ _ ?_
          clear hK K hHeld
          refine done_ (by kernel_rfl) ?_
          go_wp2_with fail
          go_roundg post.length
          case measure=>have:=HKQ.out;rw [this,List.length_cons];omega
          case rel=>exact ⟨pre++ [y],post,_,by rw [HGS.out,List.append_assoc];rfl,rfl,by rw [List.length_append,HI.out,List.length_singleton,nx_nat (n:=gs.length) (by have:=HN.out;omega) (by have:=HLN.out;omega)],BK,⟨by rw [List.map_append,List.append_assoc];show Kd.R _ _ _ _ _ _ (_++(upG wide y::post));rw [HZ.out];exact HG.out⟩,⟨by rw [flat_snoc,←List.append_assoc];rw [HRS.out];exact HO.out⟩,HB⟩
        | true =>
          have cth:wc.cell? ⟨gg,i*21+17,none⟩=some (.bool true):=(goal_cell HL0.out HG.out 17 rfl).trans (by rw [hth])
          go_wp2_with fail
          clear cth
          replace HO:=am_ (Kd.R_drew HO.out)
          replace HG:=am_ (Kd.R_drew HG.out)
          replace BK:=am_ (blk_drew BK.out)
          replace HB:=am_ (below_drew1 HB.out)
          refine start_ (n:=11) (S:=fun w'=>w'.cell? ⟨gg,i*21+18,none⟩=some (.int .i64 z.f3.f0)∧w'.cell? ⟨gg,i*21+18+1,none⟩=some (.int .i64 z.f3.f1)∧w'.cell? ⟨gg,i*21+18+2,none⟩=some (.int .i64 z.f3.f2)∧w'.cell? ⟨gg,i*21+5+2,none⟩=some (.int .i64 z.f1.f2.f0)∧w'.cell? ⟨gg,i*21+5+2+1,none⟩=some (.int .i64 z.f1.f2.f1)∧w'.cell? ⟨gg,i*21+5+2+2,none⟩=some (.int .i64 z.f1.f2.f2)) (ds:=[]) (bt_ 11 0) (by kernel_rfl) rfl rfl ⟨goal_cell HL0.out HG.out 18 rfl,goal_cell HL0.out HG.out 19 rfl,goal_cell HL0.out HG.out 20 rfl,goal_cell HL0.out HG.out 7 rfl,goal_cell HL0.out HG.out 8 rfl,goal_cell HL0.out HG.out 9 rfl⟩ (fun hHeld=> ?_)
          generalize wc.drew=w9 at HO HG BK HB hHeld ⊢
          refine pv_ (i:=0) (N:=some 65) (bt_ 11 1) ?_
          refine pv_ (i:=1) (N:=some 66) (bt_ 11 3) ?_
          refine pv_ (i:=2) (N:=some 67) (bt_ 11 7) ?_
          refine tv_ (i:=3) (N:=some 68) (bt_ 11 15) hHeld ?_
          refine pv_ (i:=4) (N:=some 69) (bt_ 11 31) ?_
          refine pv_ (i:=5) (N:=some 70) (bt_ 11 63) ?_
          refine pv_ (i:=6) (N:=some 71) (bt_ 11 127) ?_
          refine pv_ (i:=7) (N:=some 72) (bt_ 11 255) ?_
          refine tv_ (i:=8) (N:=some 73) (bt_ 11 511) hHeld ?_
          refine pv_ (i:=9) (N:=some 74) (bt_ 11 1023) ?_
          refine pv_ (i:=10) (N:=some 64) (bt_ 11 2047) ?_
          refine done_ (by kernel_rfl) ?_
          cases hne:neG z.f3 z.f1.f2 with
          | true =>
            have HRS:raiseG wide y=[⟨2,z.f0.f0,⟨#[]⟩,z.f3⟩]:=by rw [HRZ];unfold raise1;rw [if_neg (by rw [hth];simp),if_pos hne]
            clear HRZ
            have HRS:=Aside0.mk HRS
            unfold neG at hne
            rw [hne]
            go_wp2_with fail
            replace HO:=am_ (Kd.R_drew HO.out)
            replace HG:=am_ (Kd.R_drew HG.out)
            replace BK:=am_ (blk_drew BK.out)
            replace HB:=am_ (below_drew1 HB.out)
            refine start_ (n:=12) (S:=fun w'=>w'.cell? ⟨gg,i*21,none⟩=some (.string z.f0.f0)∧w'.cell? ⟨gg,i*21+18,none⟩=some (.int .i64 z.f3.f0)∧w'.cell? ⟨gg,i*21+18+1,none⟩=some (.int .i64 z.f3.f1)∧w'.cell? ⟨gg,i*21+18+2,none⟩=some (.int .i64 z.f3.f2)) (ds:=[11]) (bt_ 12 0) (by kernel_rfl) rfl rfl ⟨goal_cell HL0.out HG.out 0 rfl,goal_cell HL0.out HG.out 18 rfl,goal_cell HL0.out HG.out 19 rfl,goal_cell HL0.out HG.out 20 rfl⟩ (fun hHeld=> ?_)
            generalize w9.drew=w10 at HO HG BK HB hHeld ⊢
            refine pv_ (i:=0) (N:=some 75) (bt_ 12 1) ?_
            refine pv_ (i:=1) (N:=some 76) (bt_ 12 3) ?_
            refine pv_ (i:=2) (N:=some 77) (bt_ 12 7) ?_
            refine pv_ (i:=3) (N:=some 78) (bt_ 12 15) ?_
            refine pv_ (i:=4) (N:=some 79) (bt_ 12 31) ?_
            refine tv_ (i:=5) (N:=some 80) (bt_ 12 63) hHeld ?_
            refine pv_ (i:=6) (N:=some 81) (bt_ 12 127) ?_
            refine pv_ (i:=7) (N:=some 82) (bt_ 12 255) ?_
            refine pv_ (i:=8) (N:=some 83) (bt_ 12 511) ?_
            refine tv_ (i:=9) (N:=some 84) (bt_ 12 1023) hHeld ?_
            refine pv_ (i:=10) (N:=some 85) (bt_ 12 2047) ?_
            refine last_ (i:=11) (N:=some 86) (bt_ 12 4095) rfl rfl (by kernel_rfl) (by decide) (fun K hK=> ?_)
            refine goes_ Try.func126 (by kernel_rfl) rfl #[.pointer (some ⟨b,0,none⟩), .agg (stepCells ⟨2,z.f0.f0,⟨#[]⟩,z.f3⟩)] (by rfl) rfl rfl (by (try simp only [List.map_toArray,List.map_cons,List.map_nil]);rfl) ?_
            refine (planPut_calls w _ b _ _ _ _ ⟨2,z.f0.f0,⟨#[]⟩,z.f3⟩ BK.out GE.out HB.out HO.out (by rw [List.length_append];have:=HLEN.out;have:=raiseG_len wide pre;have:=HI.out;omega)).mono ?_
            rintro e w12 ⟨rfl,vo',hbk,ho,hb,hk⟩
            refine ⟨_,rfl, ?_⟩
            have n0_:=am_ (R_keepS HG.out BK.out (by decide) hk)
            clear HG BK HO HB hk
            have HG:=n0_
            have BK:=Aside0.mk hbk
            have HO:=Aside0.mk ho
            have HB:=Aside0.mk hb
            clear n0_ hbk ho hb
            refine hK.out _ _ ?_
            clear hK K hHeld
            refine done_ (by kernel_rfl) ?_
            go_wp2_with fail
            go_roundg post.length
            case measure=>have:=HKQ.out;rw [this,List.length_cons];omega
            case rel=>exact ⟨pre++ [y],post,_,by rw [HGS.out,List.append_assoc];rfl,rfl,by rw [List.length_append,HI.out,List.length_singleton,nx_nat (n:=gs.length) (by have:=HN.out;omega) (by have:=HLN.out;omega)],BK,⟨by rw [List.map_append,List.append_assoc];show Kd.R _ _ _ _ _ _ (_++(upG wide y::post));rw [HZ.out];exact HG.out⟩,⟨by rw [flat_snoc,←List.append_assoc];rw [HRS.out];exact HO.out⟩,HB⟩
          | false =>
            have HRS:raiseG wide y=[]:=by rw [HRZ];unfold raise1;rw [if_neg (by rw [hth];simp),if_neg (by rw [hne];simp)]
            clear HRZ
            have HRS:=Aside0.mk HRS
            unfold neG at hne
            rw [hne]
            go_wp2_with fail
            go_roundg post.length
            case measure=>have:=HKQ.out;rw [this,List.length_cons];omega
            case rel=>exact ⟨pre++ [y],post,_,by rw [HGS.out,List.append_assoc];rfl,rfl,by rw [List.length_append,HI.out,List.length_singleton,nx_nat (n:=gs.length) (by have:=HN.out;omega) (by have:=HLN.out;omega)],BK,⟨by rw [List.map_append,List.append_assoc];show Kd.R _ _ _ _ _ _ (_++(upG wide y::post));rw [HZ.out];exact HG.out⟩,⟨by rw [flat_snoc,←List.append_assoc];rw [HRS.out,List.append_nil];exact HO.out⟩,HB⟩

end Go.Proofs.Ytahidkjncljkaaa.Print

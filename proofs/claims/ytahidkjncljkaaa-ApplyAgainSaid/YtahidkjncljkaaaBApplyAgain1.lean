/- ApplyAgain: a part -/
import Derived.Test.YtahidkjncljkaaaProg
import Derived.Below
import Derived.Deep.Draws
import Derived.Deep.AppendLies
import Derived.Maps.AppendAt
import Derived.OwnWalk
import Derived.Laws.BytesArg
import Derived.Laws.MakeOwn
import Derived.Laws.OwnMore
import Derived.Deep.OwnRows
import Derived.Tactics
import Derived.Lib.ConvBytes
import Derived.Laws.Slices
import Derived.WalkKit
import Derived.KernelRfl
import Derived.RowKit3
import Derived.Deep.LoopGhost
import Derived.Deep.QuietTactic
import Derived.BigQuiet
import Derived.WideLaws
import Derived.Deep.DeepCutAuto
import Derived.Deep.CutBlock
import Derived.Deep.RegionHeld3
import Derived.Laws.Rows
import Derived.Lib.AppendStr
import Derived.ArgAppend
import Derived.Laws.IdiomCopy
import Derived.OrdersHeld
import Derived.Laws.BitsLemmas
import Derived.RowKit
import Derived.WalkSpells
import Derived.Shelf.Abstract
import Derived.Laws.Cover1
import Derived.Lib.SliceRun
import Derived.Lib.JoinLaws
import Derived.Lib.AppendZerosOnto
import Derived.Lib.Overlaps
import Derived.Laws.Externs
import Derived.Laws.NewBlocks
import Derived.Deep.RegionLaw
import Derived.Shelf.RegionOpenPlain
import Derived.StillTailTactics
import Derived.Test.YtahidkjncljkaaaBApplyAgain0
set_option linter.unusedVariables false
set_option linter.unusedSimpArgs false
namespace Go.Proofs.Ytahidkjncljkaaa.Print
open Go.RowKit Go.Proofs.YtahidkjncljkaaaW.PrintWords Go.Proofs.YtahidkjncljkaaaW.PrintLast Go.Proofs.YtahidkjncljkaaaW.PrintMore
attribute [local go_sem] max2_int min2_int max_two min_two max_three min_three max_four min_four



def errW:Option Int→Value
 |none=> .nilIface
 |some c=> .iface 0 (.int .i64 c)
theorem errW_none:errW none= .nilIface:=rfl
theorem errW_some (c:Int):errW (some c)= .iface 0 (.int .i64 c):=rfl

theorem info9:(Try.prog.info? 9).map (fun i=>(i.zero,i.size,i.bytes))=some (some (.string ⟨#[]⟩),1,16):=by kernel_rfl
theorem info76:(Try.prog.info? 76).map (fun i=>(i.zero,i.size,i.bytes))=some (some (.agg #[(.int .i64 0),(.string ⟨#[]⟩),(.string ⟨#[]⟩),(.int .i64 0),(.int .i64 0),(.int .i64 0)]),6,64):=by kernel_rfl
theorem info79:(Try.prog.info? 79).map (fun i=>(i.zero,i.size,i.bytes))=some (some (.agg #[(.string ⟨#[]⟩),(.string ⟨#[]⟩),(.int .i64 0),(.int .i64 0),(.int .i64 0),(.int .i64 0),(.int .i64 0),(.int .i64 0),(.int .i64 0),(.int .i64 0),(.int .i64 0),(.int .i64 0)]),12,112):=by kernel_rfl
theorem info84:(Try.prog.info? 84).map (fun i=>(i.zero,i.size,i.bytes))=some (some (.agg #[(.string ⟨#[]⟩),(.string ⟨#[]⟩),(.int .i64 0),(.int .i64 0),(.int .i64 0),(.int .i64 0)]),6,64):=by kernel_rfl
-- the values' own types
structure S37 where
 f0:Int
 f1:Int
 f2:Int
def z37:S37:=⟨(0:Int),(0:Int),(0:Int)⟩
def k37:Kd S37:=Kd.iso (Kd.pair (Kd.int .i64) (Kd.pair (Kd.int .i64) (Kd.int .i64))) (fun x:S37=>(x.f0,x.f1,x.f2))
theorem k37_open {w:World} {x:S37} {cs:List Value} (h:k37.K w x cs):cs=[.int .i64 x.f0, .int .i64 x.f1, .int .i64 x.f2]:=by
 obtain ⟨_,_,rfl,rfl,⟨_,_,rfl,rfl,rfl⟩⟩:=h;exact rfl
theorem k37_openM {w:World} {base:Nat} {ok:Nat→Prop} {x:S37} {cs:List Value} (h:k37.M w base ok x cs):cs=[.int .i64 x.f0, .int .i64 x.f1, .int .i64 x.f2]:=by
 obtain ⟨_,_,rfl,rfl,⟨_,_,rfl,rfl,rfl⟩⟩:=h;exact rfl
theorem k37_mk (w:World) (x:S37):k37.K w x [.int .i64 x.f0, .int .i64 x.f1, .int .i64 x.f2]:=⟨[.int .i64 x.f0],[.int .i64 x.f1, .int .i64 x.f2],rfl,rfl,⟨[.int .i64 x.f1],[.int .i64 x.f2],rfl,rfl,rfl⟩⟩
theorem k37_mkM (w:World) (base:Nat) (ok:Nat→Prop) (x:S37):k37.M w base ok x [.int .i64 x.f0, .int .i64 x.f1, .int .i64 x.f2]:=⟨[.int .i64 x.f0],[.int .i64 x.f1, .int .i64 x.f2],rfl,rfl,⟨[.int .i64 x.f1],[.int .i64 x.f2],rfl,rfl,rfl⟩⟩
def rd_T37 (xs:List S37) (i:Int):S37:=xs.getD i.toNat z37
theorem at_T37 {w:World} {A:Option Addr} {n:Nat} {xs:List S37} (h:Kd.C k37 w A n xs) (i:Int) (h0:0≤i) (h1:i<n): ∃ad,A=some ad∧w.cell? (ad.add (i.toNat*3))=some (.int .i64 (rd_T37 xs i).f0)∧w.cell? ⟨(ad.add (i.toNat*3)).block,(ad.add (i.toNat*3)).off+1,none⟩=some (.int .i64 (rd_T37 xs i).f1)∧w.cell? ⟨(ad.add (i.toNat*3)).block,(ad.add (i.toNat*3)).off+2,none⟩=some (.int .i64 (rd_T37 xs i).f2):=by
 obtain ⟨ad,c,e,_,hK,hc0⟩:=Kd.C_get h z37 i h0 h1;have hc: ∀j u,c[j]?=some u→w.cell? (ad.add (i.toNat*3+j))=some u:=hc0;obtain rfl:=k37_open hK;exact ⟨ad,e,hc 0 _ rfl,by rw [←add_field _ _ 1 (by omega)];exact hc 1 _ rfl,by rw [←add_field _ _ 2 (by omega)];exact hc 2 _ rfl⟩

structure S39 where
 f0:ByteArray
 f1:ByteArray
 f2:S37
structure S79 where
 f0:ByteArray
 f1:ByteArray
 f2:S37
 f3:S37
 f4:S37
 f5:Int
def z79:S79:=⟨(⟨#[]⟩:ByteArray),(⟨#[]⟩:ByteArray),z37,z37,z37,(0:Int)⟩
def k79:Kd S79:=Kd.iso (Kd.pair Kd.string (Kd.pair Kd.string (Kd.pair k37 (Kd.pair k37 (Kd.pair k37 (Kd.int .i64)))))) (fun x:S79=>(x.f0,x.f1,x.f2,x.f3,x.f4,x.f5))
theorem k79_open {w:World} {x:S79} {cs:List Value} (h:k79.K w x cs):cs=[.string x.f0, .string x.f1, .int .i64 x.f2.f0, .int .i64 x.f2.f1, .int .i64 x.f2.f2, .int .i64 x.f3.f0, .int .i64 x.f3.f1, .int .i64 x.f3.f2, .int .i64 x.f4.f0, .int .i64 x.f4.f1, .int .i64 x.f4.f2, .int .i64 x.f5]:=by
 obtain ⟨_,_,rfl,rfl,⟨_,_,rfl,rfl,⟨_,_,rfl,s2,⟨_,_,rfl,s5,⟨_,_,rfl,s8,rfl⟩⟩⟩⟩⟩:=h;obtain rfl:=k37_open s2;obtain rfl:=k37_open s5;obtain rfl:=k37_open s8;exact rfl
theorem k79_openM {w:World} {base:Nat} {ok:Nat→Prop} {x:S79} {cs:List Value} (h:k79.M w base ok x cs):cs=[.string x.f0, .string x.f1, .int .i64 x.f2.f0, .int .i64 x.f2.f1, .int .i64 x.f2.f2, .int .i64 x.f3.f0, .int .i64 x.f3.f1, .int .i64 x.f3.f2, .int .i64 x.f4.f0, .int .i64 x.f4.f1, .int .i64 x.f4.f2, .int .i64 x.f5]:=by
 obtain ⟨_,_,rfl,rfl,⟨_,_,rfl,rfl,⟨_,_,rfl,s2,⟨_,_,rfl,s5,⟨_,_,rfl,s8,rfl⟩⟩⟩⟩⟩:=h;obtain rfl:=k37_openM s2;obtain rfl:=k37_openM s5;obtain rfl:=k37_openM s8;exact rfl
theorem k79_mkM (w:World) (base:Nat) (ok:Nat→Prop) (x:S79):k79.M w base ok x [.string x.f0, .string x.f1, .int .i64 x.f2.f0, .int .i64 x.f2.f1, .int .i64 x.f2.f2, .int .i64 x.f3.f0, .int .i64 x.f3.f1, .int .i64 x.f3.f2, .int .i64 x.f4.f0, .int .i64 x.f4.f1, .int .i64 x.f4.f2, .int .i64 x.f5]:=⟨[.string x.f0],[.string x.f1, .int .i64 x.f2.f0, .int .i64 x.f2.f1, .int .i64 x.f2.f2, .int .i64 x.f3.f0, .int .i64 x.f3.f1, .int .i64 x.f3.f2, .int .i64 x.f4.f0, .int .i64 x.f4.f1, .int .i64 x.f4.f2, .int .i64 x.f5],rfl,rfl,⟨[.string x.f1],[.int .i64 x.f2.f0, .int .i64 x.f2.f1, .int .i64 x.f2.f2, .int .i64 x.f3.f0, .int .i64 x.f3.f1, .int .i64 x.f3.f2, .int .i64 x.f4.f0, .int .i64 x.f4.f1, .int .i64 x.f4.f2, .int .i64 x.f5],rfl,rfl,⟨[.int .i64 x.f2.f0, .int .i64 x.f2.f1, .int .i64 x.f2.f2],[.int .i64 x.f3.f0, .int .i64 x.f3.f1, .int .i64 x.f3.f2, .int .i64 x.f4.f0, .int .i64 x.f4.f1, .int .i64 x.f4.f2, .int .i64 x.f5],rfl,(k37_mkM w base ok x.f2),⟨[.int .i64 x.f3.f0, .int .i64 x.f3.f1, .int .i64 x.f3.f2],[.int .i64 x.f4.f0, .int .i64 x.f4.f1, .int .i64 x.f4.f2, .int .i64 x.f5],rfl,(k37_mkM w base ok x.f3),⟨[.int .i64 x.f4.f0, .int .i64 x.f4.f1, .int .i64 x.f4.f2],[.int .i64 x.f5],rfl,(k37_mkM w base ok x.f4),rfl⟩⟩⟩⟩⟩
def rd_T79 (xs:List S79) (i:Int):S79:=xs.getD i.toNat z79
theorem at_T79 {w:World} {A:Option Addr} {n:Nat} {xs:List S79} (h:Kd.C k79 w A n xs) (i:Int) (h0:0≤i) (h1:i<n): ∃ad,A=some ad∧w.cell? (ad.add (i.toNat*12))=some (.string (rd_T79 xs i).f0)∧w.cell? ⟨(ad.add (i.toNat*12)).block,(ad.add (i.toNat*12)).off+1,none⟩=some (.string (rd_T79 xs i).f1)∧w.cell? ⟨(ad.add (i.toNat*12)).block,(ad.add (i.toNat*12)).off+2,none⟩=some (.int .i64 (rd_T79 xs i).f2.f0)∧w.cell? ⟨(ad.add (i.toNat*12)).block,(ad.add (i.toNat*12)).off+3,none⟩=some (.int .i64 (rd_T79 xs i).f2.f1)∧w.cell? ⟨(ad.add (i.toNat*12)).block,(ad.add (i.toNat*12)).off+4,none⟩=some (.int .i64 (rd_T79 xs i).f2.f2)∧w.cell? ⟨(ad.add (i.toNat*12)).block,(ad.add (i.toNat*12)).off+5,none⟩=some (.int .i64 (rd_T79 xs i).f3.f0)∧w.cell? ⟨(ad.add (i.toNat*12)).block,(ad.add (i.toNat*12)).off+6,none⟩=some (.int .i64 (rd_T79 xs i).f3.f1)∧w.cell? ⟨(ad.add (i.toNat*12)).block,(ad.add (i.toNat*12)).off+7,none⟩=some (.int .i64 (rd_T79 xs i).f3.f2)∧w.cell? ⟨(ad.add (i.toNat*12)).block,(ad.add (i.toNat*12)).off+8,none⟩=some (.int .i64 (rd_T79 xs i).f4.f0)∧w.cell? ⟨(ad.add (i.toNat*12)).block,(ad.add (i.toNat*12)).off+9,none⟩=some (.int .i64 (rd_T79 xs i).f4.f1)∧w.cell? ⟨(ad.add (i.toNat*12)).block,(ad.add (i.toNat*12)).off+10,none⟩=some (.int .i64 (rd_T79 xs i).f4.f2)∧w.cell? ⟨(ad.add (i.toNat*12)).block,(ad.add (i.toNat*12)).off+11,none⟩=some (.int .i64 (rd_T79 xs i).f5):=by
 obtain ⟨ad,c,e,_,hK,hc0⟩:=Kd.C_get h z79 i h0 h1;have hc: ∀j u,c[j]?=some u→w.cell? (ad.add (i.toNat*12+j))=some u:=hc0;obtain rfl:=k79_open hK;exact ⟨ad,e,hc 0 _ rfl,by rw [←add_field _ _ 1 (by omega)];exact hc 1 _ rfl,by rw [←add_field _ _ 2 (by omega)];exact hc 2 _ rfl,by rw [←add_field _ _ 3 (by omega)];exact hc 3 _ rfl,by rw [←add_field _ _ 4 (by omega)];exact hc 4 _ rfl,by rw [←add_field _ _ 5 (by omega)];exact hc 5 _ rfl,by rw [←add_field _ _ 6 (by omega)];exact hc 6 _ rfl,by rw [←add_field _ _ 7 (by omega)];exact hc 7 _ rfl,by rw [←add_field _ _ 8 (by omega)];exact hc 8 _ rfl,by rw [←add_field _ _ 9 (by omega)];exact hc 9 _ rfl,by rw [←add_field _ _ 10 (by omega)];exact hc 10 _ rfl,by rw [←add_field _ _ 11 (by omega)];exact hc 11 _ rfl⟩

structure S84 where
 f0:ByteArray
 f1:ByteArray
 f2:S37
 f3:Int
def z84:S84:=⟨(⟨#[]⟩:ByteArray),(⟨#[]⟩:ByteArray),z37,(0:Int)⟩
def k84:Kd S84:=Kd.iso (Kd.pair Kd.string (Kd.pair Kd.string (Kd.pair k37 (Kd.int .i64)))) (fun x:S84=>(x.f0,x.f1,x.f2,x.f3))
theorem k84_open {w:World} {x:S84} {cs:List Value} (h:k84.K w x cs):cs=[.string x.f0, .string x.f1, .int .i64 x.f2.f0, .int .i64 x.f2.f1, .int .i64 x.f2.f2, .int .i64 x.f3]:=by
 obtain ⟨_,_,rfl,rfl,⟨_,_,rfl,rfl,⟨_,_,rfl,s2,rfl⟩⟩⟩:=h;obtain rfl:=k37_open s2;exact rfl
theorem k84_mkM (w:World) (base:Nat) (ok:Nat→Prop) (x:S84):k84.M w base ok x [.string x.f0, .string x.f1, .int .i64 x.f2.f0, .int .i64 x.f2.f1, .int .i64 x.f2.f2, .int .i64 x.f3]:=⟨[.string x.f0],[.string x.f1, .int .i64 x.f2.f0, .int .i64 x.f2.f1, .int .i64 x.f2.f2, .int .i64 x.f3],rfl,rfl,⟨[.string x.f1],[.int .i64 x.f2.f0, .int .i64 x.f2.f1, .int .i64 x.f2.f2, .int .i64 x.f3],rfl,rfl,⟨[.int .i64 x.f2.f0, .int .i64 x.f2.f1, .int .i64 x.f2.f2],[.int .i64 x.f3],rfl,(k37_mkM w base ok x.f2),rfl⟩⟩⟩
def rd_T84 (xs:List S84) (i:Int):S84:=xs.getD i.toNat z84
theorem at_T84 {w:World} {A:Option Addr} {n:Nat} {xs:List S84} (h:Kd.C k84 w A n xs) (i:Int) (h0:0≤i) (h1:i<n): ∃ad,A=some ad∧w.cell? (ad.add (i.toNat*6))=some (.string (rd_T84 xs i).f0)∧w.cell? ⟨(ad.add (i.toNat*6)).block,(ad.add (i.toNat*6)).off+1,none⟩=some (.string (rd_T84 xs i).f1)∧w.cell? ⟨(ad.add (i.toNat*6)).block,(ad.add (i.toNat*6)).off+2,none⟩=some (.int .i64 (rd_T84 xs i).f2.f0)∧w.cell? ⟨(ad.add (i.toNat*6)).block,(ad.add (i.toNat*6)).off+3,none⟩=some (.int .i64 (rd_T84 xs i).f2.f1)∧w.cell? ⟨(ad.add (i.toNat*6)).block,(ad.add (i.toNat*6)).off+4,none⟩=some (.int .i64 (rd_T84 xs i).f2.f2)∧w.cell? ⟨(ad.add (i.toNat*6)).block,(ad.add (i.toNat*6)).off+5,none⟩=some (.int .i64 (rd_T84 xs i).f3):=by
 obtain ⟨ad,c,e,_,hK,hc0⟩:=Kd.C_get h z84 i h0 h1;have hc: ∀j u,c[j]?=some u→w.cell? (ad.add (i.toNat*6+j))=some u:=hc0;obtain rfl:=k84_open hK;exact ⟨ad,e,hc 0 _ rfl,by rw [←add_field _ _ 1 (by omega)];exact hc 1 _ rfl,by rw [←add_field _ _ 2 (by omega)];exact hc 2 _ rfl,by rw [←add_field _ _ 3 (by omega)];exact hc 3 _ rfl,by rw [←add_field _ _ 4 (by omega)];exact hc 4 _ rfl,by rw [←add_field _ _ 5 (by omega)];exact hc 5 _ rfl⟩

structure S76 where
 f0:Int
 f1:ByteArray
 f2:ByteArray
 f3:S37
def z76:S76:=⟨(0:Int),(⟨#[]⟩:ByteArray),(⟨#[]⟩:ByteArray),z37⟩
def k76:Kd S76:=Kd.iso (Kd.pair (Kd.int .i64) (Kd.pair Kd.string (Kd.pair Kd.string k37))) (fun x:S76=>(x.f0,x.f1,x.f2,x.f3))
theorem k76_open {w:World} {x:S76} {cs:List Value} (h:k76.K w x cs):cs=[.int .i64 x.f0, .string x.f1, .string x.f2, .int .i64 x.f3.f0, .int .i64 x.f3.f1, .int .i64 x.f3.f2]:=by
 obtain ⟨_,_,rfl,rfl,⟨_,_,rfl,rfl,⟨_,_,rfl,rfl,s3⟩⟩⟩:=h;obtain rfl:=k37_open s3;exact rfl
theorem k76_mkM (w:World) (base:Nat) (ok:Nat→Prop) (x:S76):k76.M w base ok x [.int .i64 x.f0, .string x.f1, .string x.f2, .int .i64 x.f3.f0, .int .i64 x.f3.f1, .int .i64 x.f3.f2]:=⟨[.int .i64 x.f0],[.string x.f1, .string x.f2, .int .i64 x.f3.f0, .int .i64 x.f3.f1, .int .i64 x.f3.f2],rfl,rfl,⟨[.string x.f1],[.string x.f2, .int .i64 x.f3.f0, .int .i64 x.f3.f1, .int .i64 x.f3.f2],rfl,rfl,⟨[.string x.f2],[.int .i64 x.f3.f0, .int .i64 x.f3.f1, .int .i64 x.f3.f2],rfl,rfl,(k37_mkM w base ok x.f3)⟩⟩⟩
def rd_T76 (xs:List S76) (i:Int):S76:=xs.getD i.toNat z76
theorem at_T76 {w:World} {A:Option Addr} {n:Nat} {xs:List S76} (h:Kd.C k76 w A n xs) (i:Int) (h0:0≤i) (h1:i<n): ∃ad,A=some ad∧w.cell? (ad.add (i.toNat*6))=some (.int .i64 (rd_T76 xs i).f0)∧w.cell? ⟨(ad.add (i.toNat*6)).block,(ad.add (i.toNat*6)).off+1,none⟩=some (.string (rd_T76 xs i).f1)∧w.cell? ⟨(ad.add (i.toNat*6)).block,(ad.add (i.toNat*6)).off+2,none⟩=some (.string (rd_T76 xs i).f2)∧w.cell? ⟨(ad.add (i.toNat*6)).block,(ad.add (i.toNat*6)).off+3,none⟩=some (.int .i64 (rd_T76 xs i).f3.f0)∧w.cell? ⟨(ad.add (i.toNat*6)).block,(ad.add (i.toNat*6)).off+4,none⟩=some (.int .i64 (rd_T76 xs i).f3.f1)∧w.cell? ⟨(ad.add (i.toNat*6)).block,(ad.add (i.toNat*6)).off+5,none⟩=some (.int .i64 (rd_T76 xs i).f3.f2):=by
 obtain ⟨ad,c,e,_,hK,hc0⟩:=Kd.C_get h z76 i h0 h1;have hc: ∀j u,c[j]?=some u→w.cell? (ad.add (i.toNat*6+j))=some u:=hc0;obtain rfl:=k76_open hK;exact ⟨ad,e,hc 0 _ rfl,by rw [←add_field _ _ 1 (by omega)];exact hc 1 _ rfl,by rw [←add_field _ _ 2 (by omega)];exact hc 2 _ rfl,by rw [←add_field _ _ 3 (by omega)];exact hc 3 _ rfl,by rw [←add_field _ _ 4 (by omega)];exact hc 4 _ rfl,by rw [←add_field _ _ 5 (by omega)];exact hc 5 _ rfl⟩

structure S56 where
 f0:(List S79)
 f1:Int
 f2:Int
structure S141 where
 f0:S39
 f1:S79
 f2:Bool
 f3:S37
theorem eqA37 (d:Nat) (w:World) (x0 y0:Int) (x1 y1:Int) (x2 y2:Int):
  (Op.equalIn (d+2) 37 (.agg #[.int .i64 x0, .int .i64 x1, .int .i64 x2]) (.agg #[.int .i64 y0, .int .i64 y1, .int .i64 y2])).run Try.prog w= .ok (x0==y0 && (x1==y1 && (x2==y2))) w:=by
 refine eqA_of Try.underlying37 (by kernel_rfl) ?_;refine eqf_cons (by rfl) (by go_simp;rfl) (by go_simp;rfl) (by go_simp) ?_;refine eqf_cons (by rfl) (by go_simp;rfl) (by go_simp;rfl) (by go_simp) ?_;exact eqf_last (by rfl) (by go_simp;rfl) (by go_simp;rfl) (by go_simp)
theorem eqA79 (d:Nat) (w:World) (x0 y0:ByteArray) (x1 y1:ByteArray) (x2 y2:Int) (x3 y3:Int) (x4 y4:Int) (x5 y5:Int) (x6 y6:Int) (x7 y7:Int) (x8 y8:Int) (x9 y9:Int) (x10 y10:Int) (x11 y11:Int):
  (Op.equalIn (d+3) 79 (.agg #[.string x0, .string x1, .int .i64 x2, .int .i64 x3, .int .i64 x4, .int .i64 x5, .int .i64 x6, .int .i64 x7, .int .i64 x8, .int .i64 x9, .int .i64 x10, .int .i64 x11]) (.agg #[.string y0, .string y1, .int .i64 y2, .int .i64 y3, .int .i64 y4, .int .i64 y5, .int .i64 y6, .int .i64 y7, .int .i64 y8, .int .i64 y9, .int .i64 y10, .int .i64 y11])).run Try.prog w= .ok (x0.toList==y0.toList && (x1.toList==y1.toList && ((x2==y2 && (x3==y3 && (x4==y4))) && ((x5==y5 && (x6==y6 && (x7==y7))) && ((x8==y8 && (x9==y9 && (x10==y10))) && (x11==y11)))))) w:=by
 refine eqA_of Try.underlying79 (by kernel_rfl) ?_;refine eqf_cons (by rfl) (by go_simp;rfl) (by go_simp;rfl) (by go_simp) ?_;refine eqf_cons (by rfl) (by go_simp;rfl) (by go_simp;rfl) (by go_simp) ?_;refine eqf_cons (by rfl) (by go_simp) (by go_simp) (eqA37 (d+0) w _ _ _ _ _ _) ?_;refine eqf_cons (by rfl) (by go_simp) (by go_simp) (eqA37 (d+0) w _ _ _ _ _ _) ?_;refine eqf_cons (by rfl) (by go_simp) (by go_simp) (eqA37 (d+0) w _ _ _ _ _ _) ?_;exact eqf_last (by rfl) (by go_simp;rfl) (by go_simp;rfl) (by go_simp)
attribute [local go_sem high] eqA79
def r10_SameItems.l0:Nat→List (S79)→List (S79)→Int→Option (Bool)
 |0,_,_,_=>none
 |k+1,x0,x1,x5=>if x5<(x0.length:Int) then (if 0≤x5 then (if x5<(x1.length:Int) then (if (!((((rd_T79 x0 x5).f0).toList)==(((rd_T79 x1 x5).f0).toList))||(!((((rd_T79 x0 x5).f1).toList)==(((rd_T79 x1 x5).f1).toList))||((!(((rd_T79 x0 x5).f2.f0)==((rd_T79 x1 x5).f2.f0))||(!(((rd_T79 x0 x5).f2.f1)==((rd_T79 x1 x5).f2.f1))||(!(((rd_T79 x0 x5).f2.f2)==((rd_T79 x1 x5).f2.f2)))))||((!(((rd_T79 x0 x5).f3.f0)==((rd_T79 x1 x5).f3.f0))||(!(((rd_T79 x0 x5).f3.f1)==((rd_T79 x1 x5).f3.f1))||(!(((rd_T79 x0 x5).f3.f2)==((rd_T79 x1 x5).f3.f2)))))||((!(((rd_T79 x0 x5).f4.f0)==((rd_T79 x1 x5).f4.f0))||(!(((rd_T79 x0 x5).f4.f1)==((rd_T79 x1 x5).f4.f1))||(!(((rd_T79 x0 x5).f4.f2)==((rd_T79 x1 x5).f4.f2)))))||(!(((rd_T79 x0 x5).f5)==((rd_T79 x1 x5).f5))))))))=true then (some false) else (r10_SameItems.l0 k x0 x1 (wrap64 (x5+1)))) else (none)) else (none)) else (some true)
def r10_SameItems.f (k:Nat) (l0:List (S79)) (l1:List (S79)):Option (Bool):=if (l0.length:Int)=(l1.length:Int) then (r10_SameItems.l0 k l0 l1 0) else (some false)
theorem r10_SameItems.mono_l: ∀k,(∀y0 y1 y2,LeO (r10_SameItems.l0 k y0 y1 y2) (r10_SameItems.l0 (k+1) y0 y1 y2))
 |0=>fun _ _ _ r h=>by simp [r10_SameItems.l0] at h
 |k+1=>by
  have ih0:=r10_SameItems.mono_l k;intro y0 y1 y2;unfold r10_SameItems.l0
  repeat' with_reducible first|apply ih0|apply LeO.refl|apply LeO.none|apply LeO.ite|refine LeO.bind ?_ fun _=> ?_
theorem r10_SameItems.mono: ∀a0 a1 k,LeO (r10_SameItems.f k a0 a1) (r10_SameItems.f (k+1) a0 a1):=by
 intro a0 a1 k;have ih0:=r10_SameItems.mono_l k;unfold r10_SameItems.f
 repeat' with_reducible first|apply ih0|apply LeO.refl|apply LeO.none|apply LeO.ite|refine LeO.bind ?_ fun _=> ?_
set_option maxHeartbeats 8000000 in
set_option maxRecDepth 100000 in
theorem r10_SameItems.calls (k:Nat) (A0:Option Addr) (c0:Nat) (l0:List (S79)) (A1:Option Addr) (c1:Nat) (l1:List (S79)) (r:Bool) (w:World) (hr0:Kd.C k79 w A0 l0.length l0) (hc0:l0.length≤c0) (hr1:Kd.C k79 w A1 l1.length l1) (hc1:l1.length≤c1) (h:r10_SameItems.f k l0 l1=some r):
  Calls Try.prog 42 #[.slice A0 l0.length c0, .slice A1 l1.length c1] w fun e w'=>e= .returned (.bool r)∧Drawn0 w w':=by
 have hu79:=Try.underlying79;have HR0:=Aside0.mk hr0;have HC0:=Aside0.mk hc0;clear hr0 hc0;have HR1:=Aside0.mk hr1;have HC1:=Aside0.mk hc1;clear hr1 hc1;have H:(if (l0.length:Int)=(l1.length:Int) then (r10_SameItems.l0 k l0 l1 0) else (some false))=some r:=h;clear h;by_cases c3:(l0.length:Int)=(l1.length:Int);rotate_left
 ·rw [if_neg c3] at H;have c3b0:=beq_eq_false_iff_ne.mpr c3;have c3b1:=bne_iff_ne.mpr c3;have c3b2:(l0.length==l1.length)=false:=by first|simpa using c3|(simp at c3 ⊢;omega)
  obtain rfl:=Option.some.inj H;go_enter Try.func42,Try.ntmps42;go_wp2
  repeat (go_quiet (fail);try go_wp2)
  go_ret
  exact ⟨by first|rfl|(simp;done)|(simp [*];done),by repeat (first|exact Drawn0.refl _|apply Drawn0.step)⟩

 rw [if_pos c3] at H;have c3b0:=beq_iff_eq.mpr c3;have c3b1:=bne_eq_false_iff_eq.mpr c3;have c3b2:(l0.length==l1.length)=true:=by first|simpa using c3|(simp at c3 ⊢;omega)
 clear c3;have H':=Aside0.mk H;clear H;go_enter Try.func42,Try.ntmps42;go_wp2
 repeat (go_quiet (fail);try go_wp2)
 go_loopg [5] k (fun kq v5 w'=> ∃(x5_1:Int),v5= .int .i64 x5_1∧Aside0 (r10_SameItems.l0 kq l0 l1 x5_1=some r)∧Aside0 (kq≤k)∧Drawn0 w w')
 case atStart=>exact ⟨(0),rf_,H',⟨Nat.le_refl _⟩,by repeat (first|exact Drawn0.refl _|apply Drawn0.step)⟩
 case round=>
  clear H';obtain ⟨x5_1,rfl,HA,HK1,⟨m1,rfl⟩⟩:=hrel
  cases gk with
  |zero=>exact absurd HA.out (by simp [r10_SameItems.l0])
  |succ k1=>
   have H:=HA.out;clear HA;simp only [r10_SameItems.l0] at H;by_cases c4:x5_1<(l0.length:Int);rotate_left
   ·rw [if_neg c4] at H;have c4b0:=decide_eq_false c4;clear c4;obtain rfl:=Option.some.inj H;go_wp2
    repeat (go_quiet (fail);try go_wp2)
    go_ret
    exact ⟨by first|rfl|(simp;done)|(simp [*];done),by repeat (first|exact Drawn0.refl _|apply Drawn0.step)⟩
   rw [if_pos c4] at H;have c4b0:=decide_eq_true c4;clear c4;replace H:=zif_ H;obtain ⟨c5,H⟩:=H;have c5b0:=decide_eq_true c5;clear c5;replace H:=zif_ H;obtain ⟨c6,H⟩:=H;have c6b0:=decide_eq_true c6;clear c6;by_cases c7:(!((((rd_T79 l0 x5_1).f0).toList)==(((rd_T79 l1 x5_1).f0).toList))||(!((((rd_T79 l0 x5_1).f1).toList)==(((rd_T79 l1 x5_1).f1).toList))||((!(((rd_T79 l0 x5_1).f2.f0)==((rd_T79 l1 x5_1).f2.f0))||(!(((rd_T79 l0 x5_1).f2.f1)==((rd_T79 l1 x5_1).f2.f1))||(!(((rd_T79 l0 x5_1).f2.f2)==((rd_T79 l1 x5_1).f2.f2)))))||((!(((rd_T79 l0 x5_1).f3.f0)==((rd_T79 l1 x5_1).f3.f0))||(!(((rd_T79 l0 x5_1).f3.f1)==((rd_T79 l1 x5_1).f3.f1))||(!(((rd_T79 l0 x5_1).f3.f2)==((rd_T79 l1 x5_1).f3.f2)))))||((!(((rd_T79 l0 x5_1).f4.f0)==((rd_T79 l1 x5_1).f4.f0))||(!(((rd_T79 l0 x5_1).f4.f1)==((rd_T79 l1 x5_1).f4.f1))||(!(((rd_T79 l0 x5_1).f4.f2)==((rd_T79 l1 x5_1).f4.f2)))))||(!(((rd_T79 l0 x5_1).f5)==((rd_T79 l1 x5_1).f5))))))))=true
   ·rw [if_pos c7] at H;have c7b0:(!((((rd_T79 l0 x5_1).f0).toList)==(((rd_T79 l1 x5_1).f0).toList))||(!((((rd_T79 l0 x5_1).f1).toList)==(((rd_T79 l1 x5_1).f1).toList))||((!(((rd_T79 l0 x5_1).f2.f0)==((rd_T79 l1 x5_1).f2.f0))||(!(((rd_T79 l0 x5_1).f2.f1)==((rd_T79 l1 x5_1).f2.f1))||(!(((rd_T79 l0 x5_1).f2.f2)==((rd_T79 l1 x5_1).f2.f2)))))||((!(((rd_T79 l0 x5_1).f3.f0)==((rd_T79 l1 x5_1).f3.f0))||(!(((rd_T79 l0 x5_1).f3.f1)==((rd_T79 l1 x5_1).f3.f1))||(!(((rd_T79 l0 x5_1).f3.f2)==((rd_T79 l1 x5_1).f3.f2)))))||((!(((rd_T79 l0 x5_1).f4.f0)==((rd_T79 l1 x5_1).f4.f0))||(!(((rd_T79 l0 x5_1).f4.f1)==((rd_T79 l1 x5_1).f4.f1))||(!(((rd_T79 l0 x5_1).f4.f2)==((rd_T79 l1 x5_1).f4.f2)))))||(!(((rd_T79 l0 x5_1).f5)==((rd_T79 l1 x5_1).f5))))))))=true:=c7;clear c7;obtain rfl:=Option.some.inj H;obtain ⟨p1,q1,ad1,e1,hx1_0,hx1_1,hx1_2,hx1_3,hx1_4,hx1_5,hx1_6,hx1_7,hx1_8,hx1_9,hx1_10,hx1_11⟩:=zat_ (at_T79 HR0.out x5_1);cases e1;obtain ⟨p2,q2,ad2,e2,hx2_0,hx2_1,hx2_2,hx2_3,hx2_4,hx2_5,hx2_6,hx2_7,hx2_8,hx2_9,hx2_10,hx2_11⟩:=zat_ (at_T79 HR1.out x5_1);cases e2;go_wp2
    repeat (go_quiet (fail);try go_wp2)
    go_ret
    exact ⟨by first|rfl|(simp;done)|(simp [*];done),by repeat (first|exact Drawn0.refl _|apply Drawn0.step)⟩
   rw [if_neg c7] at H;have c7b0:(!((((rd_T79 l0 x5_1).f0).toList)==(((rd_T79 l1 x5_1).f0).toList))||(!((((rd_T79 l0 x5_1).f1).toList)==(((rd_T79 l1 x5_1).f1).toList))||((!(((rd_T79 l0 x5_1).f2.f0)==((rd_T79 l1 x5_1).f2.f0))||(!(((rd_T79 l0 x5_1).f2.f1)==((rd_T79 l1 x5_1).f2.f1))||(!(((rd_T79 l0 x5_1).f2.f2)==((rd_T79 l1 x5_1).f2.f2)))))||((!(((rd_T79 l0 x5_1).f3.f0)==((rd_T79 l1 x5_1).f3.f0))||(!(((rd_T79 l0 x5_1).f3.f1)==((rd_T79 l1 x5_1).f3.f1))||(!(((rd_T79 l0 x5_1).f3.f2)==((rd_T79 l1 x5_1).f3.f2)))))||((!(((rd_T79 l0 x5_1).f4.f0)==((rd_T79 l1 x5_1).f4.f0))||(!(((rd_T79 l0 x5_1).f4.f1)==((rd_T79 l1 x5_1).f4.f1))||(!(((rd_T79 l0 x5_1).f4.f2)==((rd_T79 l1 x5_1).f4.f2)))))||(!(((rd_T79 l0 x5_1).f5)==((rd_T79 l1 x5_1).f5))))))))=false:=by simpa using c7
   clear c7;have H':=Aside0.mk H;clear H;obtain ⟨p1,q1,ad1,e1,hx1_0,hx1_1,hx1_2,hx1_3,hx1_4,hx1_5,hx1_6,hx1_7,hx1_8,hx1_9,hx1_10,hx1_11⟩:=zat_ (at_T79 HR0.out x5_1);cases e1;obtain ⟨p2,q2,ad2,e2,hx2_0,hx2_1,hx2_2,hx2_3,hx2_4,hx2_5,hx2_6,hx2_7,hx2_8,hx2_9,hx2_10,hx2_11⟩:=zat_ (at_T79 HR1.out x5_1);cases e2;go_wp2
   repeat (go_quiet (fail);try go_wp2)
   go_roundg k1
   case measure=>have:=HK1.out;omega
   case rel=>exact ⟨(wrap64 (x5_1+1)),rf_,H',⟨by have:=HK1.out;omega⟩,by repeat (first|exact Drawn0.refl _|apply Drawn0.step)⟩
def slices_Clone_Item.f (l0:List (S79)):Option (List (S79)):=if l0.length<1256584717458 then some l0 else none
set_option maxHeartbeats 8000000 in
set_option maxRecDepth 100000 in
theorem slices_Clone_Item.calls (A0:Option Addr) (c0:Nat) (l0:List (S79)) (r:List (S79)) (w:World) (hr0:Kd.C k79 w A0 l0.length l0) (hc0:l0.length≤c0) (h:slices_Clone_Item.f l0=some r):
    Calls Try.prog 88 #[.slice A0 l0.length c0] w fun e w'=> ∃v0_:Value,e= .returned (v0_)∧Kd.R k79 79 w' w.heap.size (fun _=>True) v0_ r∧Below w.heap.size w w':=by
  have hlim:l0.length<1256584717458∧l0=r:=by
    unfold slices_Clone_Item.f at h
    split at h
    · exact ⟨by assumption,Option.some.inj h⟩
    cases h
  obtain ⟨hlim,rfl⟩:=hlim;have hnil:=fun (W:World) (n c:Nat)=>Lib.run_eql_slice_nil (P:=Try.prog) W 46 79 A0 n c 0 0 Try.underlying46
  cases A0 with
  | none =>
    have hl:l0=[]:=by
      cases l0 with
      |nil=>rfl
      |cons x l=>exact absurd (hr0.2.2 (by simp)) (by simp)
    subst hl;clear hr0;go_enter Try.func88,Try.ntmps88;go_wp2
    go_ret
    exact ⟨_,rfl,Kd.R_nil _ _ _ _ _,Below.refl _ _⟩
  | some ad =>
    have HR0:=Aside0.mk hr0;have HC0:=Aside0.mk hc0;have LM:=Aside0.mk hlim;clear hr0 hc0 hlim h;have HB:=am_ (Below.refl w.heap.size w);go_enter Try.func88,Try.ntmps88
    go_wp2_with (first|((with_reducible refine gate_dst (N:=5) rfl ?_);refine Kd.R_lit k79 _ 79 ?hg (N:=5) ?hd (xs:=([]:List (S79))) (inner:=[]) (ok:=fun _=>True) (okp:=fun _=>True) ?hr ?hp (fun _ hk=>hk) trivial (Below.refl _ _) (Nat.le_refl _) (by simp) ?_;(case hd=>rfl);(case hg=>rfl);(case hr=>first|(go_simp;done)|(go_simp;rfl));(case hp=>exact (Reps.none _ _));intro v2 w3 ho4 hb hg_ hnew_;clear hg_ hnew_;have HO3:=am_ (Kd.R_lower ho4 (below_size HB.out));replace HB:=am_ (below_step HB.out hb);clear hb ho4)|((with_reducible refine gate_builtin (b:= .append) (xs:=#[.tmp 5, .tmp 6]) rfl ?_);at_builtin;refine Kd.R_append_rows k79 (w0:=w) w.heap.size rfl (.tmp 5) (.tmp 6) 46 79 (.agg #[(.string ⟨#[]⟩),(.string ⟨#[]⟩),(.int .i64 0),(.int .i64 0),(.int .i64 0),(.int .i64 0),(.int .i64 0),(.int .i64 0),(.int .i64 0),(.int .i64 0),(.int .i64 0),(.int .i64 0)]) 112 rfl Try.underlying46 info79 rfl (by decide) (by omega) v2 [] l0 _ _ _ (fun _=>True) (fun _=>False) rfl rfl ?aO ?aR (fun _ _ h=>h) (fun _ h=>h.elim) ?aF ?aB ?aS ?aL ?_;(case aR=>exact (Kd.C_below HR0.out HB.out));(case aB=>exact HB.out);(case aF=>exact (fun _ _=>trivial));(case aO=>exact HO3.out);(case aS=>exact (below_size HB.out));(case aL=>have:=LM.out;simp;omega);intro v5 w5 ho hb hg hat;have n0_:=am_ (hb);have n1_:=am_ (ho);clear HB;clear HO3;have HB:=n0_;have HO6:=n1_;clear n0_ n1_;clear ho hb hg hat))
    go_ret
    exact ⟨_,rfl,HO6.out,HB.out⟩


def vec_Le.f (a0_0:Int) (a0_1:Int) (a0_2:Int) (a1_0:Int) (a1_1:Int) (a1_2:Int):Option (Bool):=if a0_0≤a1_0 then (if a0_1≤a1_1 then (some (decide (a0_2≤a1_2))) else (some false)) else (some false)
set_option maxHeartbeats 8000000 in
set_option maxRecDepth 100000 in
theorem vec_Le.calls (a0_0:Int) (a0_1:Int) (a0_2:Int) (a1_0:Int) (a1_1:Int) (a1_2:Int) (r:Bool) (w:World) (h:vec_Le.f a0_0 a0_1 a0_2 a1_0 a1_1 a1_2=some r):
  Calls Try.prog 114 #[.agg #[.int .i64 a0_0, .int .i64 a0_1, .int .i64 a0_2], .agg #[.int .i64 a1_0, .int .i64 a1_1, .int .i64 a1_2]] w fun e w'=>e= .returned (.bool r)∧Below w.heap.size w w':=by
 have hu37:=Try.underlying37;have HB:=am_ (Below.refl w.heap.size w);have H:(if a0_0≤a1_0 then (if a0_1≤a1_1 then (some (decide (a0_2≤a1_2))) else (some false)) else (some false))=some r:=h;clear h;by_cases c3:a0_0≤a1_0;rotate_left
 ·rw [if_neg c3] at H;have c3b0:=decide_eq_false c3;clear c3;obtain rfl:=Option.some.inj H;go_enter Try.func114,Try.ntmps114;go_wp2_with (first|((with_reducible refine gate_dst (N:=2) rfl ?_);refine bx_ (N:=2) (cs:=#[.int .i64 a0_0, .int .i64 a0_1, .int .i64 a0_2]) (t:=37) ?_;intro gb1 hg w15 hbox hb;have BK1:=am_ (hbox);have GE1:=am_ ((zg0_ HB hg:w.heap.size≤gb1));replace HB:=am_ (below_step (zl0_ HB) hb);clear hb hbox hg)|((with_reducible refine gate_dst (N:=3) rfl ?_);refine bx_ (N:=3) (cs:=#[.int .i64 a1_0, .int .i64 a1_1, .int .i64 a1_2]) (t:=37) ?_;intro gb2 hg w16 hbox hb;have BK2:=am_ (hbox);have GE2:=am_ ((zg1_ HB GE1 hg:w.heap.size≤gb2));replace HB:=am_ (below_step (zl1_ HB GE1) hb);have NB1_2:=am_ ((zn_ BK1 hg:gb1≠gb2));have NB2_1:=am_ ((zm_ BK1 hg:gb2≠gb1));replace BK1:=bb_ BK1 hb;clear hb hbox hg;have hnb17:=NB1_2.out;have hnc17:=NB2_1.out;obtain ⟨hcz18_0,hcz18_1,hcz18_2,hfz18_0,hfz18_1,hfz18_2⟩:=y3_ BK1;obtain ⟨hcz19_0,hcz19_1,hcz19_2⟩:=x3_ BK2;have hfz19_0:=blk_frozen BK2.out 0;have hfz19_1:=blk_frozen BK2.out 1;have hfz19_2:=blk_frozen BK2.out 2))
  go_ret
  exact ⟨by first|rfl|(simp [errW_none,errW_some]<;>rfl)|(simp [*,errW_none,errW_some]<;>rfl),zl2_ HB GE1 GE2⟩

 rw [if_pos c3] at H;have c3b0:=decide_eq_true c3;clear c3;by_cases c4:a0_1≤a1_1
 ·rw [if_pos c4] at H;have c4b0:=decide_eq_true c4;clear c4;obtain rfl:=Option.some.inj H;go_enter Try.func114,Try.ntmps114;go_wp2_with (first|((with_reducible refine gate_dst (N:=2) rfl ?_);refine bx_ (N:=2) (cs:=#[.int .i64 a0_0, .int .i64 a0_1, .int .i64 a0_2]) (t:=37) ?_;intro gb1 hg w5 hbox hb;have BK1:=am_ (hbox);have GE1:=am_ ((zg0_ HB hg:w.heap.size≤gb1));replace HB:=am_ (below_step (zl0_ HB) hb);clear hb hbox hg)|((with_reducible refine gate_dst (N:=3) rfl ?_);refine bx_ (N:=3) (cs:=#[.int .i64 a1_0, .int .i64 a1_1, .int .i64 a1_2]) (t:=37) ?_;intro gb2 hg w6 hbox hb;have BK2:=am_ (hbox);have GE2:=am_ ((zg1_ HB GE1 hg:w.heap.size≤gb2));replace HB:=am_ (below_step (zl1_ HB GE1) hb);have NB1_2:=am_ ((zn_ BK1 hg:gb1≠gb2));have NB2_1:=am_ ((zm_ BK1 hg:gb2≠gb1));replace BK1:=bb_ BK1 hb;clear hb hbox hg;have hnb7:=NB1_2.out;have hnc7:=NB2_1.out;obtain ⟨hcz8_0,hcz8_1,hcz8_2,hfz8_0,hfz8_1,hfz8_2⟩:=y3_ BK1;obtain ⟨hcz9_0,hcz9_1,hcz9_2⟩:=x3_ BK2;have hfz9_0:=blk_frozen BK2.out 0;have hfz9_1:=blk_frozen BK2.out 1;have hfz9_2:=blk_frozen BK2.out 2))
  go_ret
  exact ⟨by first|rfl|(simp [errW_none,errW_some]<;>rfl)|(simp [*,errW_none,errW_some]<;>rfl),zl2_ HB GE1 GE2⟩
 rw [if_neg c4] at H;have c4b0:=decide_eq_false c4;clear c4;obtain rfl:=Option.some.inj H;go_enter Try.func114,Try.ntmps114;go_wp2_with (first|((with_reducible refine gate_dst (N:=2) rfl ?_);refine bx_ (N:=2) (cs:=#[.int .i64 a0_0, .int .i64 a0_1, .int .i64 a0_2]) (t:=37) ?_;intro gb1 hg w10 hbox hb;have BK1:=am_ (hbox);have GE1:=am_ ((zg0_ HB hg:w.heap.size≤gb1));replace HB:=am_ (below_step (zl0_ HB) hb);clear hb hbox hg)|((with_reducible refine gate_dst (N:=3) rfl ?_);refine bx_ (N:=3) (cs:=#[.int .i64 a1_0, .int .i64 a1_1, .int .i64 a1_2]) (t:=37) ?_;intro gb2 hg w11 hbox hb;have BK2:=am_ (hbox);have GE2:=am_ ((zg1_ HB GE1 hg:w.heap.size≤gb2));replace HB:=am_ (below_step (zl1_ HB GE1) hb);have NB1_2:=am_ ((zn_ BK1 hg:gb1≠gb2));have NB2_1:=am_ ((zm_ BK1 hg:gb2≠gb1));replace BK1:=bb_ BK1 hb;clear hb hbox hg;have hnb12:=NB1_2.out;have hnc12:=NB2_1.out;obtain ⟨hcz13_0,hcz13_1,hcz13_2,hfz13_0,hfz13_1,hfz13_2⟩:=y3_ BK1;obtain ⟨hcz14_0,hcz14_1,hcz14_2⟩:=x3_ BK2;have hfz14_0:=blk_frozen BK2.out 0;have hfz14_1:=blk_frozen BK2.out 1;have hfz14_2:=blk_frozen BK2.out 2))
 go_ret
 exact ⟨by first|rfl|(simp [errW_none,errW_some]<;>rfl)|(simp [*,errW_none,errW_some]<;>rfl),zl2_ HB GE1 GE2⟩
def vec_Most.f:Option (Int×Int×Int):=some (1099511627776,1099511627776,1099511627776)
set_option maxHeartbeats 8000000 in
set_option maxRecDepth 100000 in
theorem vec_Most.calls (r1:Int) (r2:Int) (r3:Int) (w:World) (h:vec_Most.f=some (r1,r2,r3)):
  Calls Try.prog 125 #[] w fun e w'=>e= .returned (.agg #[.int .i64 r1, .int .i64 r2, .int .i64 r3])∧Below w.heap.size w w':=by
 have hu37:=Try.underlying37;have HB:=am_ (Below.refl w.heap.size w);have H:(some (1099511627776,1099511627776,1099511627776))=some (r1,r2,r3):=h;clear h;simp only [Option.some.injEq,Prod.mk.injEq] at H;obtain ⟨rfl,rfl,rfl⟩:=H;go_enter Try.func125,Try.ntmps125;go_wp2_with (first|((with_reducible refine gate_dst (N:=0) rfl ?_);refine bx_ (N:=0) (cs:=#[.int .i64 0, .int .i64 0, .int .i64 0]) (t:=37) ?_;intro gb1 hg w1 hbox hb;have BK1:=am_ (hbox);have GE1:=am_ ((zg0_ HB hg:w.heap.size≤gb1));replace HB:=am_ (below_step (zl0_ HB) hb);clear hb hbox hg;obtain ⟨hcz2_0,hcz2_1,hcz2_2⟩:=x3_ BK1;have hfz2_0:=blk_frozen BK1.out 0;have hfz2_1:=blk_frozen BK1.out 1;have hfz2_2:=blk_frozen BK1.out 2))
 refine bodyPost_ret (results_cell_row rfl _ _ gb1 37 #[.int .i64 1099511627776, .int .i64 1099511627776, .int .i64 1099511627776] (0,0) _ rfl (zw_ BK1) Try.underlying37 rfl (by kernel_rfl)) rfl ?_;exact ⟨by first|rfl|(simp [errW_none,errW_some]<;>rfl)|(simp [*,errW_none,errW_some]<;>rfl),zl1_ HB GE1⟩

def vec_May.f (a0_0:Int) (a0_1:Int) (a0_2:Int):Option (Bool):=(vec_Le.f 0 0 0 a0_0 a0_1 a0_2).bind fun t2=>(if t2=true then ((vec_Most.f).bind fun bt3=>((vec_Le.f a0_0 a0_1 a0_2 bt3.1 bt3.2.1 bt3.2.2).bind fun t6=>(some t6))) else (some false))
def vec_May.T1:Bool×List (List Nat×List Nat):=(true,[([],[]),([],[]),([0,1],[0,1]),([2,2],[2]),([3],[3]),([3,3],[3]),([4,5,5,3],[3,4,5]),([3,6],[3,6]),([7,6,0,1,2,3,4,5,6,7],[7])])
def vec_May.B1:List Nat:=[0,0,3,7,15,15,63,127,255]
theorem vec_May.tab1:rtab .any (opsOf Try.f111 1)=vec_May.T1:=by kernel_rfl
theorem vec_May.bits1:waitsOk vec_May.T1.2 vec_May.B1=true:=by kernel_rfl
set_option maxHeartbeats 8000000 in
set_option maxRecDepth 100000 in
theorem vec_May.calls (a0_0:Int) (a0_1:Int) (a0_2:Int) (r:Bool) (w:World) (h:vec_May.f a0_0 a0_1 a0_2=some r):
  Calls Try.prog 111 #[.agg #[.int .i64 a0_0, .int .i64 a0_1, .int .i64 a0_2]] w fun e w'=>e= .returned (.bool r)∧Below w.heap.size w w':=by
 have hu37:=Try.underlying37;have HB:=am_ (Below.refl w.heap.size w);have H:((vec_Le.f 0 0 0 a0_0 a0_1 a0_2).bind fun t2=>(if t2=true then ((vec_Most.f).bind fun bt3=>((vec_Le.f a0_0 a0_1 a0_2 bt3.1 bt3.2.1 bt3.2.2).bind fun t6=>(some t6))) else (some false)))=some r:=h;clear h;replace H:=zbd_ H;obtain ⟨t2,A2,H⟩:=H;try dsimp only at H
 by_cases c3:t2=true;rotate_left
 ·replace c3:=Bool.eq_false_iff.mpr c3;subst c3;rw [if_neg (show¬(false=true) by decide)] at H;obtain rfl:=Option.some.inj H;go_enter Try.func111,Try.ntmps111;try go_wp2_with (first|((with_reducible refine gate_dst (N:=1) rfl ?_);refine bx_ (N:=1) (cs:=#[.int .i64 a0_0, .int .i64 a0_1, .int .i64 a0_2]) (t:=37) ?_;intro gb1 hg w11 hbox hb;have BK1:=am_ (hbox);have GE1:=am_ ((zg0_ HB hg:w.heap.size≤gb1));replace HB:=am_ (below_step (zl0_ HB) hb);clear hb hbox hg))
  replace BK1:=am_ (blk_drew BK1.out);replace HB:=am_ (below_drew1 HB.out);refine start_ (n:=9) (S:=fun w'=>w'.cell? ⟨gb1,0,none⟩=some (.int .i64 a0_0)∧w'.cell? ⟨gb1,1,none⟩=some (.int .i64 a0_1)∧w'.cell? ⟨gb1,2,none⟩=some (.int .i64 a0_2)) (ds:=[]) (bs_ 9 0) (by kernel_rfl) rfl rfl ⟨(blk_cell BK1.out 0).trans rfl,(blk_cell BK1.out 1).trans rfl,(blk_cell BK1.out 2).trans rfl⟩ (fun hHeld=> ?_);refine with_tabW vec_May.tab1 vec_May.bits1 (fun HT_ HW_=> ?_);generalize w11.drew=w12 at BK1 HB hHeld ⊢;refine qu_ HT_ ?_;refine qk_ HT_ HW_ hHeld ?_;refine on_ (i:=2) (N:=some 5) (bs_ 9 3) HT_ (fun K hK=> ?_);refine gs_ Try.func114 #[.agg #[.int .i64 0, .int .i64 0, .int .i64 0], .agg #[.int .i64 a0_0, .int .i64 a0_1, .int .i64 a0_2]] ?_
  with_reducible refine (vec_Le.calls 0 0 0 a0_0 a0_1 a0_2 false _ A2.out).mono ?_
  rintro e w13 ⟨rfl,hb⟩;refine ⟨_,rfl, ?_⟩;replace BK1:=bb_ BK1 hb;replace HB:=am_ (below_step (zl1_ HB GE1) hb);(try clear hb);refine hK.out _ _ ⟨(blk_cell BK1.out 0).trans rfl,(blk_cell BK1.out 1).trans rfl,(blk_cell BK1.out 2).trans rfl⟩ (fun hHeld=> ?_);clear hK K;refine no_ (N:=some 5) ?_;(iterate 6 first|refine qn_ HT_ ?_|refine qu_ HT_ ?_);refine done_ (done_of HT_.out (by kernel_rfl)) ?_;try go_wp2
  go_ret
  exact ⟨by first|rfl|(simp [errW_none,errW_some]<;>rfl)|(simp [*,errW_none,errW_some]<;>rfl),zl1_ HB GE1⟩

 subst c3;rw [if_pos rfl] at H;replace H:=zbd_ H;obtain ⟨⟨t3,t4,t5⟩,A4,H⟩:=H;try dsimp only at H
 replace H:=zbd_ H;obtain ⟨t6,A5,H⟩:=H;try dsimp only at H
 obtain rfl:=Option.some.inj H;go_enter Try.func111,Try.ntmps111;try go_wp2_with (first|((with_reducible refine gate_dst (N:=1) rfl ?_);refine bx_ (N:=1) (cs:=#[.int .i64 a0_0, .int .i64 a0_1, .int .i64 a0_2]) (t:=37) ?_;intro gb1 hg w6 hbox hb;have BK1:=am_ (hbox);have GE1:=am_ ((zg0_ HB hg:w.heap.size≤gb1));replace HB:=am_ (below_step (zl0_ HB) hb);clear hb hbox hg))
 replace BK1:=am_ (blk_drew BK1.out);replace HB:=am_ (below_drew1 HB.out);refine start_ (n:=9) (S:=fun w'=>w'.cell? ⟨gb1,0,none⟩=some (.int .i64 a0_0)∧w'.cell? ⟨gb1,1,none⟩=some (.int .i64 a0_1)∧w'.cell? ⟨gb1,2,none⟩=some (.int .i64 a0_2)) (ds:=[]) (bs_ 9 0) (by kernel_rfl) rfl rfl ⟨(blk_cell BK1.out 0).trans rfl,(blk_cell BK1.out 1).trans rfl,(blk_cell BK1.out 2).trans rfl⟩ (fun hHeld=> ?_);refine with_tabW vec_May.tab1 vec_May.bits1 (fun HT_ HW_=> ?_);generalize w6.drew=w7 at BK1 HB hHeld ⊢;refine qu_ HT_ ?_;refine qk_ HT_ HW_ hHeld ?_;refine on_ (i:=2) (N:=some 5) (bs_ 9 3) HT_ (fun K hK=> ?_);refine gs_ Try.func114 #[.agg #[.int .i64 0, .int .i64 0, .int .i64 0], .agg #[.int .i64 a0_0, .int .i64 a0_1, .int .i64 a0_2]] ?_
 with_reducible refine (vec_Le.calls 0 0 0 a0_0 a0_1 a0_2 true _ A2.out).mono ?_
 rintro e w8 ⟨rfl,hb⟩;refine ⟨_,rfl, ?_⟩;replace BK1:=bb_ BK1 hb;replace HB:=am_ (below_step (zl1_ HB GE1) hb);(try clear hb);refine hK.out _ _ ⟨(blk_cell BK1.out 0).trans rfl,(blk_cell BK1.out 1).trans rfl,(blk_cell BK1.out 2).trans rfl⟩ (fun hHeld=> ?_);clear hK K;refine no_ (N:=some 5) ?_;refine qu_ HT_ ?_;refine qk_ HT_ HW_ hHeld ?_;refine on_ (i:=5) (N:=some 8) (bs_ 9 6) HT_ (fun K hK=> ?_);refine gs_ Try.func125 #[] ?_
 with_reducible refine (vec_Most.calls t3 t4 t5 _ A4.out).mono ?_
 rintro e w9 ⟨rfl,hb⟩;refine ⟨_,rfl, ?_⟩;replace BK1:=bb_ BK1 hb;replace HB:=am_ (below_step (zl1_ HB GE1) hb);(try clear hb);refine hK.out _ _ ⟨(blk_cell BK1.out 0).trans rfl,(blk_cell BK1.out 1).trans rfl,(blk_cell BK1.out 2).trans rfl⟩ (fun hHeld=> ?_);clear hK K;refine no_ (N:=some 8) ?_;refine on_ (i:=6) (N:=some 9) (bs_ 9 7) HT_ (fun K hK=> ?_);refine gs_ Try.func114 #[.agg #[.int .i64 a0_0, .int .i64 a0_1, .int .i64 a0_2], .agg #[.int .i64 t3, .int .i64 t4, .int .i64 t5]] ?_
 with_reducible refine (vec_Le.calls a0_0 a0_1 a0_2 t3 t4 t5 t6 _ A5.out).mono ?_
 rintro e w10 ⟨rfl,hb⟩;refine ⟨_,rfl, ?_⟩;replace BK1:=bb_ BK1 hb;replace HB:=am_ (below_step (zl1_ HB GE1) hb);(try clear hb);refine hK.out _ _ ⟨(blk_cell BK1.out 0).trans rfl,(blk_cell BK1.out 1).trans rfl,(blk_cell BK1.out 2).trans rfl⟩ (fun hHeld=> ?_);clear hK K;refine no_ (N:=some 9) ?_;(iterate 2 refine qu_ HT_ ?_);refine done_ (done_of HT_.out (by kernel_rfl)) ?_;try go_wp2
 go_ret
 exact ⟨by first|rfl|(simp [errW_none,errW_some]<;>rfl)|(simp [*,errW_none,errW_some]<;>rfl),zl1_ HB GE1⟩
def fidx {α:Type} (p:α→Bool):List α→Int→Int
 |[],_=> -1
 |x::l,i=>if p x=true then i else fidx p l (i+1)
theorem fidx_drop {α:Type} (p:α→Bool) (z:α) (l:List α) (i:Nat) (h:i<l.length):fidx p (l.drop i) i=if p (l.getD i z)=true then (i:Int) else fidx p (l.drop (i+1)) ((i+1:Nat):Int):=by
 rw [List.drop_eq_getElem_cons h,List.getD_eq_getElem?_getD,List.getElem?_eq_getElem h]
 rfl
def itemCells (x:S79):Array Value:=#[.string x.f0, .string x.f1, .int .i64 x.f2.f0, .int .i64 x.f2.f1, .int .i64 x.f2.f2, .int .i64 x.f3.f0, .int .i64 x.f3.f1, .int .i64 x.f3.f2, .int .i64 x.f4.f0, .int .i64 x.f4.f1, .int .i64 x.f4.f2, .int .i64 x.f5]
set_option maxHeartbeats 1000000 in
set_option maxRecDepth 100000 in
theorem idxItem_calls (g:Nat) (lb:Array Value) (p:S79→Bool) (eg: ∀args w,(callFunc g args).run Try.prog w= .ok (.enter g args) w) (w:World)
    (hp: ∀W x,Below w.heap.size w W→Calls Try.prog g (#[.agg (itemCells x)]++lb) W fun e w'=>e= .returned (.bool (p x))∧Below W.heap.size W w')
    (A:Option Addr) (c:Nat) (l:List S79) (hr0:Kd.C k79 w A l.length l) (hc0:l.length≤c):
    Calls Try.prog 121 #[.slice A l.length c, .func (.func g) #[] lb] w fun e w'=>e= .returned (.int .i64 (fidx p l 0))∧Below w.heap.size w w':=by
  have hu79:=Try.underlying79;have HR0:=Aside0.mk hr0;have HP:=Aside0.mk hp;have HEG:=Aside0.mk eg;have hm:l.length≤9223372036854775807:=hr0.2.1;clear hr0 hp eg;go_enter Try.func121,Try.ntmps121;go_wp2
  go_loopg [5,8] l.length (fun kq s5 s8 wr=> ∃i:Nat,i≤l.length∧l.length - i≤kq∧s8= .int .i64 i∧Aside0 (Below w.heap.size w wr)∧Aside0 (fidx p l 0=fidx p (l.drop i) i))
  case atStart=>exact ⟨0,by omega,by omega,rfl,⟨Below.refl _ _⟩,⟨rfl⟩⟩
  case round=>
    obtain ⟨i,hi,hg,rfl,HB,HF⟩:=hrel;by_cases hlt:i<l.length;rotate_left
    · obtain rfl : i = l.length := by omega
      go_wp2
      go_ret
      refine ⟨?_,HB.out⟩
      rw [HF.out,List.drop_length]
      rfl


    have hltz:(i:Int)<(l.length:Int):=by omega
    obtain ⟨ad,e1,h0,h1,h2,h3,h4,h5,h6,h7,h8,h9,h10,h11⟩:=at_T79 HR0.out (i:Int) (by omega) (by omega);cases e1;simp only [Int.toNat_natCast] at h0 h1 h2 h3 h4 h5 h6 h7 h8 h9 h10 h11;replace h0:=zx_ HB h0;replace h1:=zx_ HB h1;replace h2:=zx_ HB h2;replace h3:=zx_ HB h3;replace h4:=zx_ HB h4;replace h5:=zx_ HB h5;replace h6:=zx_ HB h6;replace h7:=zx_ HB h7;replace h8:=zx_ HB h8;replace h9:=zx_ HB h9;replace h10:=zx_ HB h10;replace h11:=zx_ HB h11;have hd:Aside0 _:=⟨fidx_drop p z79 l i hlt⟩;have HC:=am_ (HP.out wr (rd_T79 l i) HB.out);generalize hy:rd_T79 l i=y at h0 h1 h2 h3 h4 h5 h6 h7 h8 h9 h10 h11 HC;have hq:p (l.getD i z79)=p y:=by rw [←hy];simp [rd_T79]
    have HQ:=Aside0.mk hq;clear hy hq;have eg:=HEG.out
    cases hb:p y with
    | true =>
      rw [hb] at HC HQ;clear hb;go_wp2_with (go_at_fn g;refine HC.out.mono ?_;rintro e w' ⟨rfl,hb'⟩;have HB':=am_ (below_step HB.out hb');clear hb')
      go_ret
      refine ⟨?_,HB'.out⟩;rw [HF.out,hd.out,HQ.out]
      rfl
    | false =>
      rw [hb] at HC HQ;clear hb;go_wp2_with (go_at_fn g;refine HC.out.mono ?_;rintro e w' ⟨rfl,hb'⟩;have HB':=am_ (below_step HB.out hb');clear hb')
      go_roundg (l.length - (i+1))
      case measure=>omega
      case rel=>exact ⟨i+1,by omega,by omega,by go_num,HB',⟨by rw [HF.out,hd.out,HQ.out];rfl⟩⟩
set_option maxHeartbeats 1000000 in
set_option maxRecDepth 100000 in
theorem treeFind1_calls (W:World) (b:Nat) (nm:ByteArray) (hb:W.heap[b]?=some (.cells #[.string nm] 9 (0,0))) (x:S79):
  Calls Try.prog 122 #[.agg (itemCells x), .pointer (some ⟨b,0,none⟩)] W fun e w'=>e= .returned (.bool (x.f0.toList==nm.toList))∧Below W.heap.size W w':=by
 unfold itemCells
 have hu79:=Try.underlying79
 have h0:=(blk_cell hb 0).trans rfl
 have hl:b<W.heap.size:=blk_lt hb
 clear hb
 go_enter Try.func122,Try.ntmps122
 go_wp2
 go_ret
 exact ⟨rfl,by repeat (first|(with_reducible first|exact Below.refl _ _|apply below_alloc|apply pw_below_drewN|apply below_drew1))⟩
def tree_Find.f (l0:List (S79)) (a1:ByteArray):Option Int:=some (fidx (fun x=>x.f0.toList==a1.toList) l0 0)
set_option maxHeartbeats 1000000 in
set_option maxRecDepth 100000 in
theorem tree_Find.calls (A0:Option Addr) (c0:Nat) (l0:List (S79)) (a1:ByteArray) (r:Int) (w:World) (hr0:Kd.C k79 w A0 l0.length l0) (hc0:l0.length≤c0) (h:tree_Find.f l0 a1=some r):
  Calls Try.prog 91 #[.slice A0 l0.length c0, .string a1] w fun e w'=>e= .returned (.int .i64 r)∧Below w.heap.size w w':=by
 have hr:fidx (fun x=>x.f0.toList==a1.toList) l0 0=r:=Option.some.inj h;obtain ⟨W1,hW1⟩: ∃W1,W1=w.alloc (.cells #[.string a1] 9):=⟨_,rfl⟩;have hn:W1.heap[w.heap.size]?=some (.cells #[.string a1] 9 (0,0)):=by rw [hW1];exact blk_new _ _
 have hB:Below w.heap.size w W1:=by rw [hW1];exact below_alloc (Below.refl _ _) _
 have HC:=am_ (idxItem_calls 122 #[.pointer (some ⟨w.heap.size,0,none⟩)] (fun x=>x.f0.toList==a1.toList) (enters_of Try.func122 (by kernel_rfl) rfl) W1 (fun W x hb=>treeFind1_calls W w.heap.size a1 (blk_below hn hb) x) A0 c0 l0 (Kd.C_below hr0 hB) hc0);rw [hr] at HC;have HW:=Aside0.mk hW1;have HB:=Aside0.mk hB;clear hr0 hr hW1 hn hB h;go_enter Try.func91,Try.ntmps91;go_wp2_with fail
 rw [←HW.out];refine HC.out.mono ?_;rintro e w' ⟨rfl,hb⟩;have HB':=am_ (below_step HB.out hb);clear hb;go_wp2
 go_ret
 exact ⟨rfl,HB'.out⟩


def shape_made.f (l0:List (S79)) (a1:ByteArray):Option ((List (S79))×Int):=(slices_Clone_Item.f l0).bind fun t2=>((tree_Find.f l0 a1).bind fun t5=>(some (t2,t5)))
set_option maxHeartbeats 8000000 in
set_option maxRecDepth 100000 in
theorem shape_made.calls (A0:Option Addr) (c0:Nat) (l0:List (S79)) (a1:ByteArray) (r1:List (S79)) (r2:Int) (w:World) (hr0:Kd.C k79 w A0 l0.length l0) (hc0:l0.length≤c0) (h:shape_made.f l0 a1=some (r1,r2)):
  Calls Try.prog 154 #[.slice A0 l0.length c0, .string a1] w fun e w'=> ∃v0_:Value,e= .returned (.agg #[v0_, .int .i64 r2])∧Kd.R k79 79 w' w.heap.size (fun _=>True) v0_ r1∧Below w.heap.size w w':=by
 have hu197:=Try.underlying197;have hu195:=Try.underlying195;have HR0:=Aside0.mk hr0;have HC0:=Aside0.mk hc0;clear hr0 hc0;have HB:=am_ (Below.refl w.heap.size w);have H:((slices_Clone_Item.f l0).bind fun t2=>((tree_Find.f l0 a1).bind fun t5=>(some (t2,t5))))=some (r1,r2):=h;clear h;replace H:=zbd_ H;obtain ⟨t2,A3,H⟩:=H;try dsimp only at H
 replace H:=zbd_ H;obtain ⟨t5,A4,H⟩:=H;try dsimp only at H
 simp only [Option.some.injEq,Prod.mk.injEq] at H;obtain ⟨rfl,rfl⟩:=H;go_enter Try.func154,Try.ntmps154;go_wp2_with (first|((with_reducible refine gate_dst (N:=4) rfl ?_);refine bx_ (N:=4) (cs:=#[.slice none 0 0, .int .i64 0]) (t:=197) ?_;intro gb1 hg w5 hbox hb;have BK1:=am_ (hbox);have GE1:=am_ ((zg0_ HB hg:w.heap.size≤gb1));replace HB:=am_ (below_step (zl0_ HB) hb);clear hb hbox hg)|((with_reducible refine gate_callee (f:=88) rfl ?_);refine gl_ (some 6) Try.func88 #[.slice A0 l0.length c0] ?_;(with_reducible refine (slices_Clone_Item.calls _ _ l0 t2 _ ?side1 ?side2 A3.out).mono ?_);(case side1=>exact zc_ (Kd.C_below HR0.out HB.out));(case side2=>exact HC0.out);rintro e w6 ⟨v3,rfl,ho0,hb⟩;refine ⟨_,rfl, ?_⟩;have HO4:=am_ (Kd.R_lower ho0 (below_size (zl1_ HB GE1)));replace BK1:=bb_ BK1 hb;replace HB:=am_ (below_step (zl1_ HB GE1) hb);(try clear hb ho0);obtain ⟨Ao7,co7,eo7⟩:=Kd.R_slice HO4.out;subst eo7)|((with_reducible refine gate_callee (f:=91) rfl ?_);refine gl_ (some 10) Try.func91 #[.slice A0 l0.length c0, .string a1] ?_;(with_reducible refine (tree_Find.calls _ _ l0 a1 t5 _ ?side1 ?side2 A4.out).mono ?_);(case side1=>exact zc_ (Kd.C_below HR0.out HB.out));(case side2=>exact HC0.out);rintro e w8 ⟨rfl,hb⟩;refine ⟨_,rfl, ?_⟩;replace HO4:=ob_ HO4 hb;replace BK1:=bb_ BK1 hb;replace HB:=am_ (below_step (zl1_ HB GE1) hb);(try clear hb);obtain ⟨hcz9_0,hcz9_1⟩:=x2_ BK1;have hfz9_0:=blk_frozen BK1.out 0;have hfz9_1:=blk_frozen BK1.out 1))
 refine bodyPost_ret (results_cell_row rfl _ _ gb1 197 #[.slice Ao7 t2.length co7, .int .i64 t5] (0,0) _ rfl (zw_ BK1) Try.underlying197 rfl (by kernel_rfl)) rfl ?_;exact ⟨_,by first|rfl|(simp [errW_none,errW_some]<;>rfl)|(simp [*,errW_none,errW_some]<;>rfl),zy_ HO4 BK1,zl1_ HB GE1⟩

def shape_change_parent.f (l0_0:List (S79)) (a0_1:Int) (a1:ByteArray):Option (Bool):=if a1.toList=([]:List UInt8) then (some true) else ((tree_Find.f l0_0 a1).bind fun t2=>(some (decide (t2≥0))))
set_option maxHeartbeats 8000000 in
set_option maxRecDepth 100000 in
theorem shape_change_parent.calls (A0_0:Option Addr) (c0_0:Nat) (l0_0:List (S79)) (a0_1:Int) (a1:ByteArray) (r:Bool) (w:World) (hr0_0:Kd.C k79 w A0_0 l0_0.length l0_0) (hc0_0:l0_0.length≤c0_0) (h:shape_change_parent.f l0_0 a0_1 a1=some r):
  Calls Try.prog 155 #[.agg #[.slice A0_0 l0_0.length c0_0, .int .i64 a0_1], .string a1] w fun e w'=>e= .returned (.bool r)∧Below w.heap.size w w':=by
 have hu197:=Try.underlying197;have HR0_0:=Aside0.mk hr0_0;have HC0_0:=Aside0.mk hc0_0;clear hr0_0 hc0_0;have HB:=am_ (Below.refl w.heap.size w);have H:(if a1.toList=([]:List UInt8) then (some true) else ((tree_Find.f l0_0 a1).bind fun t2=>(some (decide (t2≥0)))))=some r:=h;clear h;by_cases c3:a1.toList=([]:List UInt8)
 ·rw [if_pos c3] at H;have c3b0:=beq_iff_eq.mpr c3;have c3b1:=bne_eq_false_iff_eq.mpr c3;clear c3;obtain rfl:=Option.some.inj H;go_enter Try.func155,Try.ntmps155;go_wp2_with (first|((with_reducible refine gate_dst (N:=2) rfl ?_);refine bx_ (N:=2) (cs:=#[.slice A0_0 l0_0.length c0_0, .int .i64 a0_1]) (t:=197) ?_;intro gb1 hg w4 hbox hb;have BK1:=am_ (hbox);have GE1:=am_ ((zg0_ HB hg:w.heap.size≤gb1));replace HB:=am_ (below_step (zl0_ HB) hb);clear hb hbox hg))
  go_ret
  exact ⟨by first|rfl|(simp [errW_none,errW_some]<;>rfl)|(simp [*,errW_none,errW_some]<;>rfl),zl1_ HB GE1⟩
 rw [if_neg c3] at H;have c3b0:=beq_eq_false_iff_ne.mpr c3;have c3b1:=bne_iff_ne.mpr c3;replace H:=zbd_ H;obtain ⟨t2,A5,H⟩:=H;try dsimp only at H
 obtain rfl:=Option.some.inj H;go_enter Try.func155,Try.ntmps155;go_wp2_with (first|((with_reducible refine gate_dst (N:=2) rfl ?_);refine bx_ (N:=2) (cs:=#[.slice A0_0 l0_0.length c0_0, .int .i64 a0_1]) (t:=197) ?_;intro gb1 hg w6 hbox hb;have BK1:=am_ (hbox);have GE1:=am_ ((zg0_ HB hg:w.heap.size≤gb1));replace HB:=am_ (below_step (zl0_ HB) hb);clear hb hbox hg;obtain ⟨hcz7_0,hcz7_1⟩:=x2_ BK1;have hfz7_0:=blk_frozen BK1.out 0;have hfz7_1:=blk_frozen BK1.out 1)|(go_at_call 91;(with_reducible refine (tree_Find.calls _ _ l0_0 a1 t2 _ ?side1 ?side2 A5.out).mono ?_);(case side1=>exact zc_ (Kd.C_below HR0_0.out HB.out));(case side2=>exact HC0_0.out);rintro e w8 ⟨rfl,hb⟩;replace BK1:=bb_ BK1 hb;replace HB:=am_ (below_step (zl1_ HB GE1) hb);(try clear hb)))
 go_ret
 exact ⟨by first|rfl|(simp [errW_none,errW_some]<;>rfl)|(simp [*,errW_none,errW_some]<;>rfl),zl1_ HB GE1⟩

theorem sh_head {α:Type} {d:Kd α} {e base:Nat} {ok:Nat→Prop} {w:World} {v:Value} {xs:List α} (h:d.R e w base ok v xs) (hn:0<xs.length): ∃(g c:Nat),v= .slice (some ⟨g,0,none⟩) xs.length c∧base≤g∧g<w.heap.size:=by
  obtain ⟨_,inner,⟨_,h|⟨g,cap,cur,rfl,hg,hh,_⟩⟩,_⟩:=h
  · omega
  exact ⟨g,cap,rfl,hg,blk_lt hh⟩
def shCells (y:S79):List Value:=[.string y.f0, .string y.f1, .int .i64 y.f2.f0, .int .i64 y.f2.f1, .int .i64 y.f2.f2, .int .i64 y.f3.f0, .int .i64 y.f3.f1, .int .i64 y.f3.f2, .int .i64 y.f4.f0, .int .i64 y.f4.f1, .int .i64 y.f4.f2, .int .i64 y.f5]
theorem sh_cells {base:Nat} {w:World} {g c:Nat} {l:List S79} (h:Kd.R k79 79 w base (fun _=>True) (.slice (some ⟨g,0,none⟩) l.length c) l) (j:Int) (h0:0≤j) (h1:j<(l.length:Int)):
  ∀j' u,(shCells (rd_T79 l j))[j']?=some u→w.cell? ⟨g,j.toNat*12+j',none⟩=some u:=by
 obtain ⟨ad2,cc,e3,hcl,hK,hcc0⟩:=Kd.C_get (Kd.R_reads' h).2.2 z79 j h0 h1
 cases e3
 have hcc: ∀j' u,cc[j']?=some u→w.cell? (Addr.add ⟨g,0,none⟩ (j.toNat*12+j'))=some u:=hcc0
 obtain rfl:=k79_open hK
 intro j' u hu
 have:=hcc j' u hu
 rwa [Addr.add_lit,Nat.zero_add] at this
set_option maxHeartbeats 1000000 in
set_option maxRecDepth 100000 in
theorem shapeItem_calls (W:World) (ad:Addr) (n c:Nat) (j:Int) (h0:0≤j) (h1:j<(n:Int)):
  Calls Try.prog 159 #[.agg #[.slice (some ad) n c, .int .i64 j]] W fun e w'=>e= .returned (.pointer (some (ad.add (j.toNat*12))))∧Below W.heap.size W w':=by
 have hu197:=Try.underlying197;have hu195:=Try.underlying195;have q0:=eq_true h0;have q1:=eq_true h1;go_enter Try.func159,Try.ntmps159;go_wp2_with fail
 go_ret
 exact ⟨rfl,below_alloc (Below.refl _ _) _⟩
def guardF (l:List S79) (j ver:Int):Option Int:=if j<0 then some 2 else if j<(l.length:Int) then (if 0≤ver∧(rd_T79 l j).f5≠ver then some 14 else some 0) else none
set_option maxHeartbeats 2000000 in
set_option maxRecDepth 100000 in
theorem shapeGuard_calls (W:World) (base:Nat) (v:Value) (l:List S79) (j ver r:Int) (hr:Kd.R k79 79 W base (fun _=>True) v l) (h:guardF l j ver=some r):
    Calls Try.prog 157 #[.agg #[v, .int .i64 j], .int .i64 ver] W fun e w'=>e= .returned (.int .i64 r)∧Below W.heap.size W w':=by
  have hu197:=Try.underlying197;have hu195:=Try.underlying195;have hu79:=Try.underlying79;have hu37:=Try.underlying37;have HR:=Aside0.mk hr;clear hr;unfold guardF at h;by_cases hj:j<0
  · rw [if_pos hj] at h
    cases h
    have q0:=eq_true hj
    clear hj
    go_enter Try.func157,Try.ntmps157
    go_wp2_with fail
    go_ret
    exact ⟨rfl,below_alloc (Below.refl _ _) _⟩
  rw [if_neg hj] at h;by_cases h1:j<(l.length:Int);rotate_left
  · rw [if_neg h1] at h
    cases h
  rw [if_pos h1] at h;have h0:0≤j:=by omega
  obtain ⟨gb,cap,rfl,hgb,hgl⟩:=sh_head HR.out (by omega);have HC:=sh_cells HR.out j h0 h1;generalize rd_T79 l j=y at HC h;have k0:W.cell? ⟨gb,j.toNat*12+11,none⟩=some (.int .i64 y.f5):=HC 11 _ rfl;have q1:=eq_false hj;have H0:=Aside0.mk h0;have H1:=Aside0.mk h1;have HH:=Aside0.mk h;have HGL:=Aside0.mk hgl;have K0:=Aside0.mk k0;clear HC h hj k0;by_cases hv:0≤ver;rotate_left
  · have q2 := eq_false hv
    have hr0:=HH.out
    rw [if_neg (fun h=>hv h.1)] at hr0
    cases hr0
    go_enter Try.func157,Try.ntmps157
    go_wp2_with fail
    go_ret
    exact ⟨rfl,below_alloc (Below.refl _ _) _⟩
  have q2:=eq_true hv;by_cases hw:y.f5=ver
  · subst hw
    have hr0:=HH.out
    rw [if_neg (by simp)] at hr0
    cases hr0
    go_enter Try.func157,Try.ntmps157
    go_wp2_with (go_at_call 159;refine (shapeItem_calls _ ⟨gb,0,none⟩ l.length cap j H0.out H1.out).mono ?_;rintro e w3 ⟨rfl,hb⟩;have HB3:=am_ (below_then (below_alloc (Below.refl W.heap.size W) _) (by simp) hb);have k3:=(HB3.out.cell (p:=⟨gb,j.toNat*12+11,none⟩) HGL.out).trans K0.out;clear hb)
    go_ret
    exact ⟨rfl,HB3.out⟩
  have hr0:=HH.out;rw [if_pos ⟨hv,hw⟩] at hr0;cases hr0;have q3:=eq_false hw;go_enter Try.func157,Try.ntmps157;go_wp2_with (go_at_call 159;refine (shapeItem_calls _ ⟨gb,0,none⟩ l.length cap j H0.out H1.out).mono ?_;rintro e w3 ⟨rfl,hb⟩;have HB3:=am_ (below_then (below_alloc (Below.refl W.heap.size W) _) (by simp) hb);have k3:=(HB3.out.cell (p:=⟨gb,j.toNat*12+11,none⟩) HGL.out).trans K0.out;clear hb)
  go_ret
  exact ⟨rfl,HB3.out⟩
def verF (y:S79):S79:=⟨y.f0,y.f1,y.f2,y.f3,y.f4,wrap64 (y.f5+1)⟩
def olderF (l:List S79) (j:Int):Option (Int×List S79):=if 0≤j∧j<(l.length:Int) then (if (rd_T79 l j).f5≥9007199254740992 then some (4,l) else some (0,l.set j.toNat (verF (rd_T79 l j)))) else none
structure Turned (W w':World) (base:Nat) (v:Value):Prop where
 below:Below base W w'
 block: ∀(k:Nat) o,W.heap[k]?=some o→some k≠v.ownBlock→w'.heap[k]?=some o
theorem Turned.of_below {W w':World} {base:Nat} {v:Value} (h:Below W.heap.size W w') (hb:base≤W.heap.size):Turned W w' base v:=⟨⟨h.os,h.tape,h.output,h.size,fun k hk=>h.block k (Nat.lt_of_lt_of_le hk hb)⟩,fun k o hk _=>blk_below hk h⟩
theorem Turned.then_grown {W w1 w2:World} {base g n c:Nat} (h:Turned W w1 base (.slice (some ⟨g,0,none⟩) n c)) (hb:base≤W.heap.size) (hg0:base≤g) (hg:w1.grownBy w2 (some g)):Turned W w2 base (.slice (some ⟨g,0,none⟩) n c):=
 ⟨pw_below_grown h.below (some g) (Nat.le_trans hb h.below.size) hg (fun k e=>by cases e;exact hg0),fun b o hk hn=>blk_grown (h.block b o hk hn) hg (by intro e;cases e;exact hn rfl)⟩
set_option maxHeartbeats 2000000 in
set_option maxRecDepth 100000 in
theorem shapeOlder_calls (W:World) (base:Nat) (v:Value) (l r2:List S79) (j r1:Int) (hr:Kd.R k79 79 W base (fun _=>True) v l) (hbase:base≤W.heap.size) (h:olderF l j=some (r1,r2)):
    Calls Try.prog 158 #[.agg #[v, .int .i64 j]] W fun e w'=>e= .returned (.int .i64 r1)∧Kd.R k79 79 w' base (fun _=>True) v r2∧Turned W w' base v:=by
  have hu197:=Try.underlying197;have hu195:=Try.underlying195;have hu79:=Try.underlying79;have hu37:=Try.underlying37;have HR:=Aside0.mk hr;have HBS:=Aside0.mk hbase;clear hr hbase;unfold olderF at h;by_cases hj:0≤j∧j<(l.length:Int);rotate_left
  · rw [if_neg hj] at h
    cases h
  rw [if_pos hj] at h;obtain ⟨h0,h1⟩:=hj;obtain ⟨gb,cap,rfl,hgb,hgl⟩:=sh_head HR.out (by omega);have hc0:=sh_cells HR.out j h0 h1;generalize hy:rd_T79 l j=y at hc0 h;have HY:=Aside0.mk hy;clear hy;have k0:W.cell? ⟨gb,j.toNat*12+11,none⟩=some (.int .i64 y.f5):=hc0 11 _ rfl;have H0:=Aside0.mk h0;have H1:=Aside0.mk h1;have HC:=Aside0.mk hc0;have HGL:=Aside0.mk hgl;have HGB:=Aside0.mk hgb;have K0:=Aside0.mk k0;clear k0 h0 h1 hc0 hgl hgb;by_cases hv:y.f5≥9007199254740992
  · rw [if_pos hv] at h
    cases h
    have q0:=eq_true hv
    go_enter Try.func158,Try.ntmps158
    go_wp2_with (go_at_call 159;refine (shapeItem_calls _ ⟨gb,0,none⟩ l.length cap j H0.out H1.out).mono ?_;rintro e w3 ⟨rfl,hb⟩;have HB3:=am_ (below_then (below_alloc (Below.refl W.heap.size W) _) (by simp) hb);have k3:=(HB3.out.cell (p:=⟨gb,j.toNat*12+11,none⟩) HGL.out).trans K0.out;have BK3:=am_ (blk_below (blk_new W _) hb);have d0:=zz_ BK3 0;have d1:=zz_ BK3 1;clear hb)
    go_ret
    exact ⟨rfl,Kd.R_below HR.out HB3.out,Turned.of_below HB3.out HBS.out⟩
  rw [if_neg hv] at h;cases h;have q0:=eq_false hv;go_enter Try.func158,Try.ntmps158;go_wp2_with (go_at_call 159;refine (shapeItem_calls _ ⟨gb,0,none⟩ l.length cap j H0.out H1.out).mono ?_;rintro e w3 ⟨rfl,hb⟩;have HB3:=am_ (below_then (below_alloc (Below.refl W.heap.size W) _) (by simp) hb);have k3:=(HB3.out.cell (p:=⟨gb,j.toNat*12+11,none⟩) HGL.out).trans K0.out;have BK3:=am_ (blk_below (blk_new W _) hb);have d0:=zz_ BK3 0;have d1:=zz_ BK3 1;clear hb)
  clear k3;go_wp2_with (first|(go_at_call 159;refine (shapeItem_calls _ ⟨gb,0,none⟩ l.length cap j H0.out H1.out).mono ?_;rintro e w4 ⟨rfl,hb⟩;have HB4:=am_ (below_then HB3.out (HB3.out.size) hb);have k4:=(HB4.out.cell (p:=⟨gb,j.toNat*12+11,none⟩) HGL.out).trans K0.out;clear hb)|((with_reducible refine gate_store (t:=3) (p:=16) (v:= .tmp 14) rfl ?_);(refine Kd.R_store k79 (w0:=w4) base rfl rfl 3 (.tmp 16) (.tmp 14) rfl 79 (g:=gb) (n:=l.length) (cap:=cap) (o':=j.toNat*12+11) j 11 l (verF y) (.int .i64 (wrap64 (y.f5+1))) [.int .i64 (wrap64 (y.f5+1))] (shCells y) (fun _=>True) (fun _=>False) rfl rfl rfl rfl ?ct ?c1 (Kd.R_below HR.out HB4.out) ?c2 ?c3 rfl ?cc (by show 11+1≤12;omega) ?cM (fun _ h=>h.elim) (Below.refl _ _) ?_);(case ct=>kernel_rfl);(case c1=>intro q hq;simp only [List.mem_cons,List.not_mem_nil,or_false] at hq;rcases hq with rfl;rfl);(case c2=>exact H0.out);(case c3=>exact H1.out);(case cc=>exact fun j' u hu=>(HB4.out.cell (p:=⟨gb,j.toNat*12+j',none⟩) HGL.out).trans (HC.out j' u hu));(case cM=>exact k79_mkM _ _ _ (verF y));intro w5 ho hb hg;have HO5:=Aside0.mk ho;have HG5:=Aside0.mk hg;clear ho hb hg))
  go_ret
  refine ⟨rfl, ?_, ?_⟩
  · exact HO5.out
  exact (Turned.of_below HB4.out HBS.out).then_grown HBS.out HGB.out HG5.out
end Go.Proofs.Ytahidkjncljkaaa.Print

namespace Go.Proofs.Ytahidkjncljkaaa.Print
open Go.RowKit Go.Proofs.YtahidkjncljkaaaW.PrintWords Go.Proofs.YtahidkjncljkaaaW.PrintLast Go.Proofs.YtahidkjncljkaaaW.PrintMore
theorem run_copy_wide {P:Program} (w:World) (dT sT ty elem:TypeId) (sz:Nat) (b o dLen dCap:Nat) (a:Addr) (sLen sCap:Nat) (cs:List Value)
    (hu:P.underlying dT=some (.slice elem)) (hs:(P.info? elem).map (·.size)=some sz) (m:Nat) (hm:Nat.min sLen dLen=m) (hn:cs.length=m*sz)
    (hsrc: ∀j v,cs[j]?=some v→w.cell? (a.add j)=some v) (hc: ∀j,j<cs.length→(w.cell? ⟨b,o+j,none⟩).isSome=true) (hf: ∀j,j<cs.length→w.frozen? ⟨b,o+j,none⟩=false) (h1: ∀v∈cs,v.oneCell'=true):
    (Builtin.copy_ #[dT,sT] ty #[.slice (some ⟨b,o,none⟩) dLen dCap, .slice (some a) sLen sCap]).run P w= .ok (goInt m) (w.setCells b o cs):=by
  have hl:=run_loadCells_list (P:=P) w a cs hsrc
  have hst:=run_storeCells_cells (P:=P) b o cs 0 w (by simpa using hc) (by simpa using hf) h1
  cases hq:P.info? elem with
  |none=>simp [hq] at hs
  | some i =>
    have hi:i.size=sz:=by simpa [hq] using hs
    simp [Builtin.copy_,run_underlying hu,Builtin.lenOf,Builtin.firstCells,sizeOf,typeInfo,hq,hi,hm,←hn,hl,hst]
theorem run_clear_one {P:Program} (w:World) (t e ty:TypeId) (z:Value) (zs:List Value) (ht:P.underlying t=some (.slice e)) (hv: ∀w,(zeroValue e).run P w= .ok z w) (hz:(Builtin.zeroCells z.cells 1).toList=zs) (h1: ∀u∈zs,u.oneCell'=true) (b o c:Nat)
  (hc: ∀j,j<zs.length→(w.cell? ⟨b,o+j,none⟩).isSome=true) (hf: ∀j,j<zs.length→w.frozen? ⟨b,o+j,none⟩=false):
  (Builtin.clear_ #[t] ty #[.slice (some ⟨b,o,none⟩) 1 c]).run P w= .ok (.tuple #[]) (w.setCells b o zs):=by
 have hst:=run_storeCells_cells (P:=P) b o zs 0 w (by simpa using hc) (by simpa using hf) h1;simp only [Nat.add_zero] at hst
 simp [Builtin.clear_,run_underlying ht,hv,hz,hst]
def zCells:List Value:=[.string ⟨#[]⟩, .string ⟨#[]⟩, .int .i64 0, .int .i64 0, .int .i64 0, .int .i64 0, .int .i64 0, .int .i64 0, .int .i64 0, .int .i64 0, .int .i64 0, .int .i64 0]
def flat (l:List S79):List Value:=l.flatMap shCells
theorem shCells_len (y:S79):(shCells y).length=12:=rfl
theorem flat_lenI: ∀l:List S79,(flat l).length=l.length*12
  |[]=>rfl
  | y :: l => by
    show (shCells y++flat l).length=_
    rw [List.length_append,flat_lenI l,shCells_len,List.length_cons]
    omega
theorem flat_append (a b:List S79):flat (a++b)=flat a++flat b:=by simp [flat]
theorem flat_one (l:List S79): ∀u∈flat l,u.oneCell'=true:=by
 intro u hu;obtain ⟨y,_,hy⟩:=List.mem_flatMap.1 hu;simp only [shCells,List.mem_cons,List.not_mem_nil,or_false] at hy
 rcases hy with rfl|rfl|rfl|rfl|rfl|rfl|rfl|rfl|rfl|rfl|rfl|rfl<;>rfl
theorem flat_take (l:List S79) (i:Nat) (h:i≤l.length):(flat l).take (i*12)=flat (l.take i):=by
 have:=flat_append (l.take i) (l.drop i)
 rw [List.take_append_drop] at this;rw [this];exact List.take_left' (by rw [flat_lenI,List.length_take];omega)
theorem flat_drop (l:List S79) (i:Nat) (h:i≤l.length):(flat l).drop (i*12)=flat (l.drop i):=by
 have:=flat_append (l.take i) (l.drop i)
 rw [List.take_append_drop] at this;rw [this];exact List.drop_left' (by rw [flat_lenI,List.length_take];omega)
theorem flat_reps (w:World) (base:Nat) (ok:Nat→Prop): ∀l:List S79,Reps (k79.M w base ok) 12 l (flat l):=by
 intro l;refine ⟨flat_lenI l,fun j p hj=> ?_⟩;have hjl:j<l.length:=(List.getElem?_eq_some_iff.1 hj).1;rw [flat_drop l j (by omega),List.drop_eq_getElem_cons hjl]
 show k79.M w base ok p ((shCells l[j]++flat (l.drop (j+1))).take 12)
 rw [show (12:Nat)=(shCells l[j]).length from rfl,List.take_left];obtain ⟨_,rfl⟩:=List.getElem?_eq_some_iff.1 hj;exact k79_mkM w base ok _
theorem reps_flatI {w:World} {base:Nat} {ok:Nat→Prop} {l:List S79} {cs:List Value} (h:Reps (k79.M w base ok) 12 l cs):cs=flat l:=by
  obtain ⟨hl,hr⟩:=h
  apply List.ext_getElem?
  intro q
  rcases Nat.lt_or_ge q cs.length with hq|hq
  rotate_left
  · rw [List.getElem?_eq_none hq,List.getElem?_eq_none (by rw [flat_lenI,←hl];exact hq)]
  have hj:q / 12<l.length:=by rw [hl] at hq;omega
  have h1:=k79_open (k79.K_of_M (hr (q / 12) _ (List.getElem?_eq_getElem hj)));have h2:=k79_open (k79.K_of_M ((flat_reps w base ok l).2 (q / 12) _ (List.getElem?_eq_getElem hj)));have h3:=congrArg (·[q % 12]?) (h1.trans h2.symm);simp only [List.getElem?_take,List.getElem?_drop,if_pos (show q % 12<12 by omega)] at h3
  rwa [show q / 12*12+q % 12=q by omega] at h3
theorem R_cells {w:World} {base g n c:Nat} {ok:Nat→Prop} {l:List S79} (h:Kd.R k79 79 w base ok (.slice (some ⟨g,0,none⟩) n c) l):
    n=l.length∧base≤g∧n≤c∧c≤9223372036854775807∧ ∃cur,w.heap[g]?=some (.cells cur 79 (0,0))∧cur.size=c*12∧cur.toList.take (l.length*12)=flat l:=by
  obtain ⟨_,inner,⟨_,h|⟨g',cap',cur,hv,hg,hh,hnc,hcm,hcs,ht⟩⟩,hr⟩:=h
  · cases h.1
  cases hv
  have:=reps_flatI hr
  subst this
  exact ⟨rfl,hg,hnc,hcm,cur,hh,hcs,ht⟩
theorem R_of_cells {w:World} {base g c:Nat} {l:List S79} {cur:Array Value} (hg:base≤g) (hnc:l.length≤c) (hcm:c≤9223372036854775807) (hh:w.heap[g]?=some (.cells cur 79 (0,0))) (hcs:cur.size=c*12) (ht:cur.toList.take (l.length*12)=flat l):
  Kd.R k79 79 w base (fun _=>True) (.slice (some ⟨g,0,none⟩) l.length c) l:=
 ⟨fun _ _=>trivial,flat l,⟨flat_lenI l, .inr ⟨g,c,cur,rfl,hg,hh,hnc,hcm,hcs,ht⟩⟩,flat_reps _ _ _ l⟩
theorem Below.setCells_ {a w:World} {base g:Nat} (h:Below base a w) (hg:base≤g) (o:Nat) (vs:List Value):Below base a (w.setCells g o vs):=by
 obtain ⟨s1,s2,s3,s4⟩:=setCells_same g vs o w;exact ⟨s1.trans h.os,s2.trans h.tape,s3.trans h.output,by rw [s4];exact h.size,fun k hk=>(setCells_far vs o k (by omega)).trans (h.block k hk)⟩
theorem plain_there {w:World} {g:Nat} {cur:Array Value} {e:Nat} (h:w.heap[g]?=some (.cells cur e (0,0))) {j:Nat} (hj:j<cur.size):(w.cell? ⟨g,j,none⟩).isSome=true:=by
 rw [blk_cell h j,Array.getElem?_eq_getElem hj]
 rfl
theorem plain_cell {w:World} {g:Nat} {cur:Array Value} {e:Nat} (h:w.heap[g]?=some (.cells cur e (0,0))) {j:Nat} {v:Value} (hj:cur.toList[j]?=some v):w.cell? ⟨g,j,none⟩=some v:=by
 rw [blk_cell h j,←hj,Array.getElem?_toList]
end Go.Proofs.Ytahidkjncljkaaa.Print

namespace Go.Proofs.Ytahidkjncljkaaa.Print
open Go.RowKit Go.Proofs.YtahidkjncljkaaaW.PrintWords Go.Proofs.YtahidkjncljkaaaW.PrintLast Go.Proofs.YtahidkjncljkaaaW.PrintMore
attribute [local go_sem] max2_int min2_int max_two min_two max_three min_three max_four min_four
theorem step_copy {P:Program} {ops:Array Oper} {o:Oper} {a:Act} {w w':World} {K:Act→World→Prop} {Q:Exit→Act→World→Prop} {E:Prop} (hg:o.guard=none) (d x:Operand) (dT sT:TypeId)
  (hop:o.op=Op.call {callee:=Callee.builtin .copy,args:=#[d,x],argTypes:=#[dT,sT]}) (v u:Value) (hd:a.eval d=v) (hx:a.eval x=u) {v':Value}
  (hr:(Builtin.copy_ #[dT,sT] o.type #[v,u]).run P w= .ok v' w') (hK:K (a.put o.dst v') w'):if Region.wanted o (yielded ops a.tmps)=true then Oper.wp P o a w K Q else E:=by
 have hw:Region.wanted o (yielded ops a.tmps)=true:=by simp [Region.wanted,hg]
 rw [if_pos hw];unfold Oper.wp execOp;simp only [hop,resolve,invoke,builtin,Sem.run_bind,Sem.run_pure,Result.andThen_ok,List.map_toArray,List.map_cons,List.map_nil,hd,hx,hr];exact hK
theorem sh_read {w:World} {vb:Nat} {x:S79} (h:w.heap[vb]?=some (.cells (shCells x).toArray 79 (0,0))):Kd.C k79 w (some ⟨vb,0,none⟩) 1 [x]:=
 (Kd.R_reads' (R_of_cells (base:=0) (l:=[x]) (c:=1) (Nat.zero_le _) (Nat.le_refl _) (by decide) h rfl (by simp [flat,shCells]))).2.2
set_option maxHeartbeats 4000000 in
set_option maxRecDepth 100000 in
theorem sliInsert_end (w:World) (base:Nat) (v:Value) (l:List S79) (x:S79) (vb:Nat) (hr:Kd.R k79 79 w base (fun _=>True) v l) (hv:w.heap[vb]?=some (.cells (shCells x).toArray 79 (0,0))) (hbase:base≤w.heap.size) (hlim:l.length<1000000):
    Calls Try.prog 156 #[v, .int .i64 l.length, .slice (some ⟨vb,0,none⟩) 1 1] w fun e w'=> ∃v',e= .returned v'∧Kd.R k79 79 w' base (fun _=>True) v' (l++ [x])∧Below base w w':=by
  have HR:=Aside0.mk hr;have HC:=am_ (sh_read hv);have HB:=am_ (Below.refl base w);obtain ⟨A,c,rfl⟩:=Kd.R_slice hr;have hle:=(Kd.R_reads' hr).2.1;clear hr hv;have HBASE:=Aside0.mk hbase;clear hbase
  cases A with
  | none =>
    go_enter Try.func156,Try.ntmps156;go_wp2_with ((with_reducible refine gate_builtin (b:= .append) (xs:=#[.tmp 23, .tmp 24]) rfl ?_);at_builtin;refine Kd.R_append_rows k79 (w0:=w) base rfl (.tmp 23) (.tmp 24) 46 79 (.agg #[(.string ⟨#[]⟩),(.string ⟨#[]⟩),(.int .i64 0),(.int .i64 0),(.int .i64 0),(.int .i64 0),(.int .i64 0),(.int .i64 0),(.int .i64 0),(.int .i64 0),(.int .i64 0),(.int .i64 0)]) 112 rfl Try.underlying46 info79 rfl (by decide) (by omega) (.slice none l.length c) l [x] _ _ _ (fun _=>True) (fun _=>False) rfl rfl HR.out HC.out (fun _ _ h=>h) (fun _ h=>h.elim) (fun _ _=>trivial) HB.out HBASE.out (by omega) ?_;intro v5 w5 ho hb hg hat;have HO5:=Aside0.mk ho;have HB5:=Aside0.mk hb;clear ho hb hg hat)
    all_goals (go_ret;exact ⟨_,rfl,HO5.out,HB5.out⟩)
  | some ad =>
    go_enter Try.func156,Try.ntmps156;go_wp2_with ((with_reducible refine gate_builtin (b:= .append) (xs:=#[.tmp 23, .tmp 24]) rfl ?_);at_builtin;refine Kd.R_append_rows k79 (w0:=w) base rfl (.tmp 23) (.tmp 24) 46 79 (.agg #[(.string ⟨#[]⟩),(.string ⟨#[]⟩),(.int .i64 0),(.int .i64 0),(.int .i64 0),(.int .i64 0),(.int .i64 0),(.int .i64 0),(.int .i64 0),(.int .i64 0),(.int .i64 0),(.int .i64 0)]) 112 rfl Try.underlying46 info79 rfl (by decide) (by omega) (.slice (some ad) l.length c) l [x] _ _ _ (fun _=>True) (fun _=>False) rfl rfl HR.out HC.out (fun _ _ h=>h) (fun _ h=>h.elim) (fun _ _=>trivial) HB.out HBASE.out (by omega) ?_;intro v5 w5 ho hb hg hat;have HO5:=Aside0.mk ho;have HB5:=Aside0.mk hb;clear ho hb hg hat)
    all_goals (go_ret;exact ⟨_,rfl,HO5.out,HB5.out⟩)
set_option maxHeartbeats 4000000 in
set_option maxRecDepth 100000 in
theorem sliInsert_shift (w:World) (g n c i vb:Nat) (cs vs:List Value) (cur:Array Value) (hh:w.heap[g]?=some (.cells cur 79 (0,0))) (hsz:cur.size=c*12) (hi:i<n) (hroom:n+1≤c) (hc63:c≤9223372036854775807) (hvb:vb≠g)
    (hcs:cur.toList.take (n*12)=cs) (hv:w.heap[vb]?=some (.cells vs.toArray 79 (0,0))) (hvl:vs.length=12) (h1c: ∀u∈cs,u.oneCell'=true) (h1v: ∀u∈vs,u.oneCell'=true):
    Calls Try.prog 156 #[.slice (some ⟨g,0,none⟩) n c, .int .i64 i, .slice (some ⟨vb,0,none⟩) 1 1] w fun e w'=>e= .returned (.slice (some ⟨g,0,none⟩) (n+1) c)∧w'=(w.drew.setCells g ((i+1)*12) (cs.drop (i*12))).setCells g (i*12) vs:=by
  have hcl:cs.length=n*12:=by rw [←hcs,List.length_take,Array.length_toList,hsz];omega
  have hdl:(cs.drop (i*12)).length=(n - i)*12:=by rw [List.length_drop,hcl];omega
  have hget: ∀j u,cs[j]?=some u→w.cell? ⟨g,j,none⟩=some u:=by
    intro j u hu;rw [←hcs,List.getElem?_take] at hu
    split at hu
    · exact plain_cell hh hu
    cases hu
  have hS:(Try.prog.info? 79).map (·.size)=some 12:=by
    obtain ⟨i0,hi0,_,h1,_⟩:=info_parts info79;rw [hi0]
    simp [h1]
  have hov: ∀o lb cb,(callFunc 172 #[.slice (some ⟨vb,0,none⟩) 1 1, .slice (some ⟨g,o,none⟩) lb cb]).run Try.prog w= .ok (.value (.bool false)) w:=fun o lb cb=>by
    rw [run_callFunc_extern Try.func172 (by kernel_rfl) (by kernel_rfl) (by kernel_rfl) (e:=Extern.SlicesOverlaps.overlaps #[46,46] #[4]) (by kernel_rfl),
      Lib.run_overlaps_apart w 46 4 79 Try.underlying46 12 Try.sizeOf79 ⟨vb,0,none⟩ ⟨g,o,none⟩ 1 1 lb cb hvb 79 79 12 (c*12) (by rw [←hvl];simp [World.shape?,hv]) (by rw [←hsz];simp [World.shape?,hh]) (by omega) (blk_frozen hv _) (blk_frozen hv _)]
    rfl
  have hcp1: ∀ty o1 n1 dc o2 n2 sc,o1=(i+1)*12→n1=n - i→o2=i*12→n2=n+1 - i→(Builtin.copy_ #[46,46] ty #[.slice (some ⟨g,o1,none⟩) n1 dc, .slice (some ⟨g,o2,none⟩) n2 sc]).run Try.prog w.drew= .ok (goInt (n - i:Nat)) (w.drew.setCells g ((i+1)*12) (cs.drop (i*12))):=by
    rintro ty _ _ dc _ _ sc rfl rfl rfl rfl
    exact run_copy_wide w.drew _ _ ty 79 12 g ((i+1)*12) (n - i) dc ⟨g,i*12,none⟩ (n+1 - i) sc (cs.drop (i*12)) Try.underlying46 hS (n - i) (by simp only [Nat.min_def];split<;>omega) hdl
      (fun j u hj=>by rw [Addr.add_lit];exact hget (i*12+j) u (by rwa [List.getElem?_drop] at hj))
      (fun j hj=>plain_there (w:=w.drew) (blk_drew hh) (by rw [hdl] at hj;omega)) (fun j hj=>blk_frozen (w:=w.drew) (blk_drew hh) _) (fun u hu=>h1c u (List.mem_of_mem_drop hu))
  obtain ⟨W1,hW1⟩: ∃W1,W1=w.drew.setCells g ((i+1)*12) (cs.drop (i*12)):=⟨_,rfl⟩
  have hg1: ∃cur1,W1.heap[g]?=some (.cells cur1 79 (0,0))∧cur1.size=cur.size:=by
    obtain ⟨cur',a,b,_⟩:=setCells_row (cs.drop (i*12)) ((i+1)*12) w.drew cur (blk_drew hh) (by rw [hdl];omega);exact ⟨cur',by rw [hW1];exact a,b⟩
  obtain ⟨cur1,hg1,hz1⟩:=hg1;have hvb1:W1.heap[vb]?=some (.cells vs.toArray 79 (0,0)):=by rw [hW1,setCells_far _ _ _ hvb];exact blk_drew hv
  have hcp2: ∀ty o1 n1 dc,o1=i*12→n1=n+1 - i→(Builtin.copy_ #[46,46] ty #[.slice (some ⟨g,o1,none⟩) n1 dc, .slice (some ⟨vb,0,none⟩) 1 1]).run Try.prog W1= .ok (goInt (1:Nat)) (W1.setCells g (i*12) vs):=by
    rintro ty _ _ dc rfl rfl
    exact run_copy_wide W1 _ _ ty 79 12 g (i*12) (n+1 - i) dc ⟨vb,0,none⟩ 1 1 vs Try.underlying46 hS 1 (by simp only [Nat.min_def];split<;>omega) (by omega)
      (fun j u hj=>by rw [Addr.add_lit,Nat.zero_add];exact plain_cell hvb1 (by simpa using hj))
      (fun j hj=>plain_there hg1 (by omega)) (fun j hj=>blk_frozen hg1 _) h1v
  have HW:=Aside0.mk hW1;rw [←hW1] at hcp1;have CP1:=Aside0.mk hcp1;have CP2:=Aside0.mk hcp2;have HOV:=Aside0.mk hov;have hz1: ¬((1:Int)=0):=by omega
  have hz2: ¬((i:Int)=(n:Int)):=by omega
  have hz3: ¬((c:Int)<(n:Int)+1):=by omega
  have hin:i≤n:=by omega
  have hz4:(0:Int)≤(i:Int)+1:=by omega
  have hz5:(i:Int)+1≤(n:Int)+1:=by omega
  have hz6:(i:Int)≤(n:Int)+1:=by omega
  have hz7: ¬(c=i+1):=by omega
  have hz8: ¬(c=i):=by omega
  have hw1:IntKind.i64.wrap ((i:Int)+1)=(i:Int)+1:=by rw [IntKind.wrap_i64];omega
  have htn:((i:Int)+1).toNat=i+1:=by omega
  have mixed:Try.prog.follows .mixedOrders=true:=by kernel_rfl
  clear hcl hdl hget hS hov hcp1 hcp2 hW1 hg1 hz1 hvb1 hh hsz hcs hv hvl h1c h1v;go_enter Try.func156,Try.ntmps156;go_wp2_with (rw [HOV.out])
  go_region_law_o (refine step_copy rfl _ _ 46 46 rfl (.slice (some ⟨g,(i+1)*12,none⟩) (n - i) (c - (i+1))) (.slice (some ⟨g,i*12,none⟩) (n+1 - i) (c - i)) (by simp [Act.eval,Act.put]) (by simp [Act.eval,Act.put]) (CP1.out _ _ _ _ _ _ _ rfl rfl rfl rfl) ?_)
  go_wp2_with fail
  rw [CP2.out _ _ _ _ rfl rfl];go_wp2
  go_ret
  refine ⟨rfl, ?_⟩;rw [HW.out]
set_option maxHeartbeats 4000000 in
set_option maxRecDepth 100000 in
theorem sliInsert_grow (w:World) (g n c i vb:Nat) (cs vs:List Value) (cur:Array Value) (hh:w.heap[g]?=some (.cells cur 79 (0,0))) (hsz:cur.size=c*12) (hi:i<n) (hnc:n≤c) (hroom:c<n+1) (hlim:n<1000000)
    (hcs:cur.toList.take (n*12)=cs) (hv:w.heap[vb]?=some (.cells vs.toArray 79 (0,0))) (hvl:vs.length=12) (h1c: ∀u∈cs,u.oneCell'=true) (h1v: ∀u∈vs,u.oneCell'=true):
    Calls Try.prog 156 #[.slice (some ⟨g,0,none⟩) n c, .int .i64 i, .slice (some ⟨vb,0,none⟩) 1 1] w fun e w'=> ∃(G:Nat) (cur':Array Value),e= .returned (.slice (some ⟨w.heap.size,0,none⟩) (n+1) G)∧n+1≤G∧G≤9223372036854775807∧
      w'.heap[w.heap.size]?=some (.cells cur' 79 (0,0))∧cur'.size=G*12∧cur'.toList.take ((n+1)*12)=cs.take (i*12)++vs++cs.drop (i*12)∧Below w.heap.size w w':=by
  have hcl:cs.length=n*12:=by rw [←hcs,List.length_take,Array.length_toList,hsz];omega
  have hdl:(cs.drop (i*12)).length=(n - i)*12:=by rw [List.length_drop,hcl];omega
  have htl:(cs.take (i*12)).length=i*12:=by rw [List.length_take,hcl];omega
  have hget: ∀j u,cs[j]?=some u→w.cell? ⟨g,j,none⟩=some u:=by
    intro j u hu;rw [←hcs,List.getElem?_take] at hu
    split at hu
    · exact plain_cell hh hu
    cases hu
  obtain ⟨i0,hi0,hz0,hzs,hzb⟩:=info_parts info79
  have hS:(Try.prog.info? 79).map (·.size)=some 12:=by
    rw [hi0]
    simp [hzs]
  have hgw:g<w.heap.size:=blk_lt hh;have hvw:vb<w.heap.size:=blk_lt hv;have hkk:(n:Int)+1 - (i:Int)=((n+1 - i:Nat):Int):=by omega
  have hik:i+(n+1 - i)=n+1:=by omega
  have hold:(Builtin.firstCells i0.size i (.slice (some ⟨g,0,none⟩) i c)).run Try.prog w.drew= .ok (cs.take (i*12)).toArray w.drew:=by
    rw [hzs]
    exact run_firstCells_some w.drew 12 i ⟨g,0,none⟩ i c (cs.take (i*12)) htl (fun j u hj=>by
      rw [Addr.add_lit,Nat.zero_add];rw [List.getElem?_take] at hj
      split at hj
      · exact hget j u hj
      cases hj)
  obtain ⟨G,hG⟩: ∃G,G=grownCap w (n+1) c 79:=⟨_,rfl⟩;obtain ⟨ROW,hROW⟩: ∃ROW:Array Value,ROW=(cs.take (i*12)).toArray++Builtin.zeroCells (Value.agg zCells.toArray).cells (n+1 - i)++Builtin.zeroCells (Value.agg zCells.toArray).cells (G - (n+1)):=⟨_,rfl⟩
  have hrz: ∀ty k,k=(n:Int)+1 - (i:Int)→(Builtin.append_ #[46,3] ty #[.slice (some ⟨g,0,none⟩) i c, .int .i64 k]).run Try.prog w=
      .ok (.slice (some ⟨w.heap.size,0,none⟩) (n+1) G) (w.drew.alloc (.cells ROW 79)):=fun ty k hk=>by
    have h:=Lib.run_append_grow_zeros w 46 3 ty 79 i0 _ .i64 .i64 Try.underlying46 Try.underlying3 hi0 hz0 (some ⟨g,0,none⟩) i c (cs.take (i*12)) hold (n+1 - i) (by omega) (by omega) (by omega) (by omega) (by rw [hzb];omega) (by rw [hzb,hik];exact growslice_fits hroom (by omega))
    rw [hik] at h
    rw [hk,hkk,hG,hROW,hG]
    exact h
  have hGn:n+1≤G:=by rw [hG];exact grownCap_ge w _ _ _
  have hG63:G≤9223372036854775807:=by
    have:=grownCap_le_maxLen w (n+1) c 79 (by unfold maxLen;omega)
    rw [←hG] at this;unfold maxLen at this
    omega
  have hRl:ROW.size=G*12:=by
    rw [hROW]
    simp [Builtin.zeroCells,Value.cells,zCells,htl]
    omega
  have hRt:ROW.toList.take (i*12)=cs.take (i*12):=by
    rw [hROW];simp only [Array.toList_append,List.append_assoc];exact List.take_left' htl
  obtain ⟨W1,hW1⟩: ∃W1,W1=w.drew.alloc (.cells ROW 79):=⟨_,rfl⟩;rw [←hW1] at hrz;have hN:W1.heap[w.heap.size]?=some (.cells ROW 79 (0,0)):=by rw [hW1];exact blk_new w.drew _
  have hg1:W1.heap[g]?=some (.cells cur 79 (0,0)):=by rw [hW1];exact blk_alloc (blk_drew hh) _
  have hv1:W1.heap[vb]?=some (.cells vs.toArray 79 (0,0)):=by rw [hW1];exact blk_alloc (blk_drew hv) _
  have hB1:Below w.heap.size w W1:=by rw [hW1];exact below_alloc (below_drew (Below.refl _ _)) _
  have hcpA: ∀ty o1 n1 dc,o1=i*12→n1=n+1 - i→(Builtin.copy_ #[46,46] ty #[.slice (some ⟨w.heap.size,o1,none⟩) n1 dc, .slice (some ⟨vb,0,none⟩) 1 1]).run Try.prog W1= .ok (goInt (1:Nat)) (W1.setCells w.heap.size (i*12) vs):=by
    rintro ty _ _ dc rfl rfl
    exact run_copy_wide W1 _ _ ty 79 12 w.heap.size (i*12) (n+1 - i) dc ⟨vb,0,none⟩ 1 1 vs Try.underlying46 hS 1 (by simp only [Nat.min_def];split<;>omega) (by omega)
      (fun j u hj=>by rw [Addr.add_lit,Nat.zero_add];exact plain_cell hv1 (by simpa using hj))
      (fun j hj=>plain_there hN (by omega)) (fun j hj=>blk_frozen hN _) h1v
  obtain ⟨W2,hW2⟩: ∃W2,W2=W1.setCells w.heap.size (i*12) vs:=⟨_,rfl⟩;rw [←hW2] at hcpA;obtain ⟨R2,hN2,hR2,hT2⟩:=setCells_row vs (i*12) W1 ROW hN (by omega);rw [←hW2] at hN2;have hg2:W2.heap[g]?=some (.cells cur 79 (0,0)):=by rw [hW2,setCells_far _ _ _ (by omega)];exact hg1
  have hB2:Below w.heap.size w W2:=by rw [hW2];exact Below.setCells_ hB1 (Nat.le_refl _) _ _
  have hcpB: ∀ty o1 n1 dc o2 n2 sc,o1=(i+1)*12→n1=n - i→o2=i*12→n2=n - i→(Builtin.copy_ #[46,46] ty #[.slice (some ⟨w.heap.size,o1,none⟩) n1 dc, .slice (some ⟨g,o2,none⟩) n2 sc]).run Try.prog W2.drew= .ok (goInt (n - i:Nat)) (W2.drew.setCells w.heap.size ((i+1)*12) (cs.drop (i*12))):=by
    rintro ty _ _ dc _ _ sc rfl rfl rfl rfl
    exact run_copy_wide W2.drew _ _ ty 79 12 w.heap.size ((i+1)*12) (n - i) dc ⟨g,i*12,none⟩ (n - i) sc (cs.drop (i*12)) Try.underlying46 hS (n - i) (by simp only [Nat.min_def];split<;>omega) hdl
      (fun j u hj=>by
        rw [Addr.add_lit];rw [List.getElem?_drop] at hj;refine plain_cell (w:=W2.drew) (blk_drew hg2) ?_;rw [←hcs,List.getElem?_take] at hj
        split at hj
        · exact hj
        cases hj)
      (fun j hj=>plain_there (w:=W2.drew) (blk_drew hN2) (by rw [hdl] at hj;omega)) (fun j hj=>blk_frozen (w:=W2.drew) (blk_drew hN2) _) (fun u hu=>h1c u (List.mem_of_mem_drop hu))
  obtain ⟨W3,hW3⟩: ∃W3,W3=W2.drew.setCells w.heap.size ((i+1)*12) (cs.drop (i*12)):=⟨_,rfl⟩;rw [←hW3] at hcpB;obtain ⟨R3,hN3,hR3,hT3⟩:=setCells_row (cs.drop (i*12)) ((i+1)*12) W2.drew R2 (blk_drew hN2) (by omega);rw [←hW3] at hN3;have hB3:Below w.heap.size w W3:=by rw [hW3];exact Below.setCells_ (below_drew hB2) (Nat.le_refl _) _ _
  have hFin:R3.toList.take ((n+1)*12)=cs.take (i*12)++vs++cs.drop (i*12):=by
    have e1:R2.toList.take ((i+1)*12)=cs.take (i*12)++vs:=by
      rw [hT2,hRt];exact List.take_left' (by simp only [List.length_append,htl,hvl];omega)
    rw [hT3,e1];exact List.take_left' (by simp only [List.length_append,htl,hvl,hdl];omega)
  have hz1: ¬((1:Int)=0):=by omega
  have hz2: ¬((i:Int)=(n:Int)):=by omega
  have hz3:(c:Int)<(n:Int)+1:=by omega
  have hin:i≤n:=by omega
  have hz4:(0:Int)≤(i:Int)+1:=by omega
  have hz5:(i:Int)+1≤(n:Int)+1:=by omega
  have hz6:(i:Int)≤(n:Int)+1:=by omega
  have hz7: ¬(G=i+1):=by omega
  have hz8: ¬(G=i):=by omega
  have hz9: ¬(c=i):=by omega
  have hw1:IntKind.i64.wrap ((i:Int)+1)=(i:Int)+1:=by rw [IntKind.wrap_i64];omega
  have hw2:IntKind.i64.wrap ((n:Int)+1)=(n:Int)+1:=by rw [IntKind.wrap_i64];omega
  have hw3:IntKind.i64.wrap ((n:Int)+1 - (i:Int))=(n:Int)+1 - (i:Int):=by rw [IntKind.wrap_i64];omega
  have htn:((i:Int)+1).toNat=i+1:=by omega
  have hic:i≤c:=by omega
  have mixed:Try.prog.follows .mixedOrders=true:=by kernel_rfl
  have RZ:=Aside0.mk hrz;have CA:=Aside0.mk hcpA;have CB:=Aside0.mk hcpB;have E1:=Aside0.mk hGn;have E2:=Aside0.mk hG63;have E3:=Aside0.mk hN3;have E4:=am_ (show R3.size=G*12 by omega);have E5:=Aside0.mk hFin;have E6:=Aside0.mk hB3;clear hcl hdl htl hget hi0 hz0 hzs hzb hS hgw hvw hkk hik hold hG hROW hrz hRl hRt hW1 hN hg1 hv1 hB1 hcpA hW2 hN2 hR2 hT2 hg2 hB2 hcpB hW3 hN3 hR3 hT3 hB3 hFin hh hsz hcs hv hvl h1c h1v hGn hG63 i0 ROW R2;go_enter Try.func156,Try.ntmps156;go_wp2_with ((with_reducible refine gate_builtin (b:= .append) (xs:=#[.tmp 34, .tmp 39]) rfl ?_);at_builtin;refine Lib.wpList_append_run _ rfl _ _ _ _ rfl _ _ rfl rfl _ _ (RZ.out _ _ rfl) ?_)
  rw [CA.out _ _ _ _ rfl rfl];go_wp2_with fail
  go_region_law_o (refine step_copy rfl _ _ 46 46 rfl (.slice (some ⟨w.heap.size,(i+1)*12,none⟩) (n - i) (G - (i+1))) (.slice (some ⟨g,i*12,none⟩) (n - i) (c - i)) (by simp [Act.eval,Act.put]) (by simp [Act.eval,Act.put]) (CB.out _ _ _ _ _ _ _ rfl rfl rfl rfl) ?_)
  go_wp2_with fail
  go_ret
  exact ⟨G,R3,rfl,E1.out,E2.out,E3.out,E4.out,E5.out,E6.out⟩
theorem Below.lower_ {a w:World} {b base:Nat} (h:Below b a w) (hb:base≤b):Below base a w:=⟨h.os,h.tape,h.output,h.size,fun k hk=>h.block k (Nat.lt_of_lt_of_le hk hb)⟩
theorem sliInsert_calls (w:World) (base:Nat) (v:Value) (l:List S79) (i:Nat) (x:S79) (vb:Nat) (hr:Kd.R k79 79 w base (fun _=>True) v l) (hi:i≤l.length) (hv:w.heap[vb]?=some (.cells (shCells x).toArray 79 (0,0))) (hvb:v.ownBlock≠some vb) (hbase:base≤w.heap.size) (hlim:l.length<1000000):
    Calls Try.prog 156 #[v, .int .i64 i, .slice (some ⟨vb,0,none⟩) 1 1] w fun e w'=> ∃v',e= .returned v'∧Kd.R k79 79 w' base (fun _=>True) v' (l.take i++x::l.drop i)∧Below base w w':=by
  rcases Nat.eq_or_lt_of_le hi with rfl|hlt
  · rw [List.take_length, List.drop_length]
    exact sliInsert_end w base v l x vb hr hv hbase hlim
  obtain ⟨g,c,rfl,hg,hgl⟩:=sh_head hr (by omega)
  obtain ⟨_,_,hnc,hcm,cur,hh,hcs,ht⟩:=R_cells hr
  have h1v: ∀u∈shCells x,u.oneCell'=true:=fun u hu=>flat_one [x] u (by simpa [flat] using hu)
  have h1c: ∀u∈flat l,u.oneCell'=true:=flat_one l
  have hvg:vb≠g:=by rintro rfl;exact hvb (by simp [Value.ownBlock])
  have hll:(l.take i++x::l.drop i).length=l.length+1:=by simp;omega
  have hfl:flat (l.take i++x::l.drop i)=(flat l).take (i*12)++shCells x++(flat l).drop (i*12):=by
    rw [flat_append,flat_take l i hi,flat_drop l i hi,List.append_assoc]
    rfl
  by_cases hroom:l.length+1≤c
  rotate_left
  · refine (sliInsert_grow w g l.length c i vb (flat l) (shCells x) cur hh hcs hlt hnc (by omega) hlim ht hv rfl h1c h1v).mono ?_
    rintro e w' ⟨G,cur',rfl,h1,h2,h3,h4,h5,h6⟩
    refine ⟨_,rfl, ?_,Below.lower_ h6 hbase⟩
    have:=R_of_cells (l:=l.take i++x::l.drop i) hbase (by rw [hll];omega) h2 h3 h4 (by rw [hll,hfl,h5])
    rw [hll] at this
    exact this
  refine (sliInsert_shift w g l.length c i vb (flat l) (shCells x) cur hh hcs hlt hroom hcm hvg ht hv rfl h1c h1v).mono ?_
  rintro e w' ⟨rfl,rfl⟩
  have hlc:(l.length+1)*12≤cur.size:=by rw [hcs];exact Nat.mul_le_mul_right _ hroom
  have hl1:((flat l).drop (i*12)).length=(l.length - i)*12:=by rw [List.length_drop,flat_lenI];omega
  obtain ⟨cur1,h1,s1,t1⟩:=setCells_row ((flat l).drop (i*12)) ((i+1)*12) w.drew cur (blk_drew hh) (by rw [hl1];omega)
  obtain ⟨cur2,h2,s2,t2⟩:=setCells_row (shCells x) (i*12) _ cur1 h1 (by rw [s1];show _+12≤_;omega)
  refine ⟨_,rfl, ?_,Below.setCells_ (Below.setCells_ (below_drew (Below.refl _ _)) hg _ _) hg _ _⟩
  have:=R_of_cells (l:=l.take i++x::l.drop i) hg (by rw [hll];omega) hcm h2 (by rw [s2,s1,hcs]) (by
    rw [hll,hfl,t2]
    have e1:cur1.toList.take (i*12)=(flat l).take (i*12):=by
      rw [t1,List.append_assoc,List.take_append_of_le_length (by simp [Array.length_toList];omega),List.take_take,Nat.min_eq_left (by omega),←ht,List.take_take,Nat.min_eq_left (by omega)]
    have e2:(cur1.toList.drop (i*12+(shCells x).length)).take ((l.length - i)*12)=(flat l).drop (i*12):=by
      rw [t1,show i*12+(shCells x).length=(i+1)*12 by rw [shCells_len];omega,List.append_assoc,List.drop_left' (by simp [Array.length_toList];omega)]
      exact List.take_left' hl1
    have e3:(cur1.toList.take (i*12)++shCells x).length=(i+1)*12:=by
      rw [List.length_append,List.length_take,Array.length_toList,shCells_len,Nat.min_eq_left (by omega)]
      omega
    rw [List.take_append,List.take_of_length_le (by rw [e3];omega),e3,show (l.length+1)*12 - (i+1)*12=(l.length - i)*12 by omega,e1,e2])
  rw [hll] at this
  exact this
end Go.Proofs.Ytahidkjncljkaaa.Print

namespace Go.Proofs.Ytahidkjncljkaaa.Print
open Go.RowKit Go.Proofs.YtahidkjncljkaaaW.PrintWords Go.Proofs.YtahidkjncljkaaaW.PrintLast Go.Proofs.YtahidkjncljkaaaW.PrintMore
section
variable {P:Program} {ops:Array Oper} {rest:List Oper} {o:Oper} {a:Act} {Q:Exit→Act→World→Prop} {Kc:Act→World→Prop} {W:World}
theorem put_run {gb e:Nat} {zs:Array Value} (hh:W.heap[gb]?=some (.cells zs e (0,0))) (t:TypeId) (u:Value) (off:Nat) (seg:List Value) (hu:u.cells.toList=seg) (ht:(P.info? t).map (·.size)=some seg.length) (hfit:off+seg.length≤zs.size) (h1: ∀q∈seg,q.oneCell'=true):
  ∃w' cur,(Instr.storeAt t (.pointer (some ⟨gb,off,none⟩)) u).run P W= .ok () w'∧w'.heap[gb]?=some (.cells cur e (0,0))∧cur.size=zs.size∧cur.toList=zs.toList.take off++seg++zs.toList.drop (off+seg.length)∧W.grownBy w' (some gb):=by
 have hrun:=run_store_run (P:=P) t u seg hh hu ht (o:=off) hfit h1;obtain ⟨cur,hc,hs,hl⟩:=setCells_row seg off W zs hh hfit;obtain ⟨s1,s2,s3,s4⟩:=setCells_same gb seg off W;exact ⟨_,cur,hrun,hc,hs,hl,⟨s1,s2,s3,by rw [s4];exact Nat.le_refl _,fun k hk hne=>setCells_far seg off k (by rintro rfl;exact hne rfl)⟩⟩
theorem store_all {gb e:Nat} {zs:Array Value} (hh:W.heap[gb]?=some (.cells zs e (0,0))) (t:TypeId) (p x:Operand) (ho:o.op= .store t p x) (hN:o.dst=none) (hgd:o.guard=none) (u:Value) (seg:List Value)
  (hp:a.eval p= .pointer (some ⟨gb,0,none⟩)) (hx:a.eval x=u) (hu:u.cells.toList=seg) (ht:(P.info? t).map (·.size)=some seg.length) (hz:zs.size=seg.length) (h1: ∀q∈seg,q.oneCell'=true)
  (h: ∀w',w'.heap[gb]?=some (.cells seg.toArray e (0,0))→W.grownBy w' (some gb)→wpList P ops Q rest a w'):wpList P ops Q (o::rest) a W:=by
 obtain ⟨w',cur,hrun,hc,hs,hl,hg⟩:=put_run (P:=P) hh t u 0 seg hu ht (by omega) h1
 have e1:cur=seg.toArray:=by
  apply Array.ext'
  rw [hl,List.take_zero,List.nil_append,Nat.zero_add,List.drop_of_length_le (by simp [Array.length_toList];omega),List.append_nil]
 subst e1
 refine wpList_plain hgd fun K hK=> ?_
 unfold Oper.wp execOp
 simp only [ho,hp,hx,Sem.run_bind,Sem.run_pure,Result.andThen_ok,hrun]
 show K (a.put o.dst undef) _
 rw [hN]
 exact hK a _ (h _ hc hg)
theorem store_part {gb e:Nat} {zs:Array Value} (hh:W.heap[gb]?=some (.cells zs e (0,0))) (t:TypeId) (p x:Operand) (ho:o.op= .store t p x) (hN:o.dst=none) (hgd:o.guard=none) (off:Nat) (u:Value) (seg new:List Value)
  (hp:a.eval p= .pointer (some ⟨gb,off,none⟩)) (hx:a.eval x=u) (hu:u.cells.toList=seg) (ht:(P.info? t).map (·.size)=some seg.length) (hz:off+seg.length≤zs.size) (h1: ∀q∈seg,q.oneCell'=true) (hnew:zs.toList.take off++seg++zs.toList.drop (off+seg.length)=new)
  (h: ∀w',w'.heap[gb]?=some (.cells new.toArray e (0,0))→W.grownBy w' (some gb)→wpList P ops Q rest a w'):wpList P ops Q (o::rest) a W:=by
 obtain ⟨w',cur,hrun,hc,hs,hl,hg⟩:=put_run (P:=P) hh t u off seg hu ht hz h1
 have e1:cur=new.toArray:=by
  apply Array.ext'
  rw [hl,hnew]
 subst e1
 refine wpList_plain hgd fun K hK=> ?_
 unfold Oper.wp execOp
 simp only [ho,hp,hx,Sem.run_bind,Sem.run_pure,Result.andThen_ok,hrun]
 show K (a.put o.dst undef) _
 rw [hN]
 exact hK a _ (h _ hc hg)
end
theorem R_put {α:Type} {d:Kd α} {e base:Nat} {w w1:World} {v:Value} {xs:List α} (h:d.R e w base (fun _=>True) v xs) {g t:Nat} {cells:Array Value} (hb:w.heap[g]?=some (.cells cells t (0,0))) (ht: ∀q,q∈e::d.E→q≠t) (hg:w.grownBy w1 (some g)):d.R e w1 base (fun _=>True) v xs:=
 Kd.R_mono (Kd.R_grown (Kd.R_types h hb ht) hg (fun _ hk e=>hk.2 (Option.some.inj e))) (fun _ _=>trivial)
theorem below_put {a w w1:World} {base g:Nat} (h:Below base a w) (hb:base≤w.heap.size) (hg:w.grownBy w1 (some g)) (hge:base≤g):Below base a w1:=pw_below_grown h (some g) hb hg (fun k e=>by cases e;exact hge)
theorem blk_put_other {w w1:World} {g k:Nat} {ob:Obj} (h:w.heap[k]?=some ob) (hg:w.grownBy w1 (some g)) (hne:k≠g):w1.heap[k]?=some ob:=by
  rw [hg.block k (by
    rcases Nat.lt_or_ge k w.heap.size with hl|hl
    · exact hl
    rw [Array.getElem?_eq_none hl] at h;cases h) (by intro e;cases e;exact hne rfl)]
  exact h
end Go.Proofs.Ytahidkjncljkaaa.Print

namespace Go.Proofs.Ytahidkjncljkaaa.Print
open Go.RowKit Go.Proofs.YtahidkjncljkaaaW.PrintWords Go.Proofs.YtahidkjncljkaaaW.PrintLast Go.Proofs.YtahidkjncljkaaaW.PrintMore
attribute [local go_sem] max2_int min2_int max_two min_two max_three min_three max_four min_four

def placeL (l:List S79) (n:ByteArray):Nat:=(l.takeWhile fun y=>Op.bytesLess y.f0.toList n.toList).length
theorem placeL_le (l:List S79) (n:ByteArray):placeL l n≤l.length:=(List.takeWhile_sublist _).length_le
theorem placeL_lt: ∀(l:List S79) (n:ByteArray) (i:Nat),i<placeL l n→Op.bytesLess (rd_T79 l (i:Int)).f0.toList n.toList=true
  |[],n,i,h=>by simp [placeL] at h
  | y :: l, n, i, h => by
    unfold placeL at h;rw [List.takeWhile_cons] at h
    split at h
    rotate_left
    · simp at h
    rename_i hy
    cases i with
    |zero=>exact hy
    | succ i =>
      have:=placeL_lt l n i (by unfold placeL;simpa using h)
      simpa [rd_T79] using this
theorem placeL_at: ∀(l:List S79) (n:ByteArray),placeL l n<l.length→Op.bytesLess (rd_T79 l (placeL l n:Int)).f0.toList n.toList=false
  |[],n,h=>by simp at h
  | y :: l, n, h => by
    by_cases hy:Op.bytesLess y.f0.toList n.toList=true
    · have e : placeL (y :: l) n = placeL l n + 1 := by unfold placeL; rw [List.takeWhile_cons, if_pos hy, List.length_cons]
      rw [e] at h ⊢
      have:=placeL_at l n (by simpa using h)
      simpa [rd_T79] using this
    have e:placeL (y::l) n=0:=by unfold placeL;rw [List.takeWhile_cons,if_neg hy,List.length_nil]
    rw [e]
    simpa [rd_T79] using hy
def shape_Create.f (l0:List (S79)) (a1:ByteArray) (a2:ByteArray) (a3_0:Int) (a3_1:Int) (a3_2:Int):Option ((List (S79))×Int):=
 (shape_made.f l0 a1).bind fun p=>if a1.toList=([]:List UInt8) then some ([],1) else if (a1.size:Int)>24 then some ([],1) else (vec_May.f a3_0 a3_1 a3_2).bind fun m=>if m=false then some ([],1) else
  if p.2≥0 then some ([],3) else (shape_change_parent.f p.1 p.2 a2).bind fun q=>if q=false then some ([],2) else if (l0.length:Int)≥120 then some ([],4) else
   some (p.1.take (placeL l0 a1)++⟨a1,a2,⟨a3_0,a3_1,a3_2⟩,⟨0,0,0⟩,⟨0,0,0⟩,1⟩::p.1.drop (placeL l0 a1),0)
set_option maxHeartbeats 8000000 in
set_option maxRecDepth 100000 in
theorem shape_Create.calls (A0:Option Addr) (c0:Nat) (l0:List (S79)) (a1:ByteArray) (a2:ByteArray) (a3_0:Int) (a3_1:Int) (a3_2:Int) (r1:List (S79)) (r2:Int) (w:World) (hr0:Kd.C k79 w A0 l0.length l0) (hc0:l0.length≤c0) (h:shape_Create.f l0 a1 a2 a3_0 a3_1 a3_2=some (r1,r2)):
    Calls Try.prog 138 #[.slice A0 l0.length c0, .string a1, .string a2, .agg #[.int .i64 a3_0, .int .i64 a3_1, .int .i64 a3_2]] w fun e w'=> ∃v0_:Value,e= .returned (.tuple #[v0_, .int .i64 r2])∧Kd.R k79 79 w' w.heap.size (fun _=>True) v0_ r1∧Below w.heap.size w w':=by
  have hu197:=Try.underlying197;have hu195:=Try.underlying195;have hu79:=Try.underlying79;have hu37:=Try.underlying37;unfold shape_Create.f at h;obtain ⟨⟨out,j⟩,hmd,h1⟩:=Option.bind_eq_some_iff.1 h;clear h
  have hout:out=l0∧l0.length<1256584717458:=by
    unfold shape_made.f slices_Clone_Item.f at hmd
    split at hmd
    rotate_left
    · cases hmd
    obtain ⟨_,h1,h2⟩:=Option.bind_eq_some_iff.1 hmd;obtain ⟨_,h3,h4⟩:=Option.bind_eq_some_iff.1 h2;cases h4;exact ⟨(Option.some.inj h1).symm,by assumption⟩
  obtain ⟨rfl,hlim⟩:=hout;have HR:=Aside0.mk hr0;have HC:=Aside0.mk hc0;have HM:=Aside0.mk hmd;have HB:=am_ (Below.refl w.heap.size w);have HH:=Aside0.mk h1;clear hr0 hc0 hmd h1 hlim;go_enter Try.func138,Try.ntmps138;go_wp2_with (first|((with_reducible refine gate_dst (N:=7) rfl ?_);refine bx_ (N:=7) (cs:=#[.int .i64 a3_0, .int .i64 a3_1, .int .i64 a3_2]) (t:=37) ?_;intro gb1 hg w1 hbox hb;have BK1:=am_ (hbox);have GE1:=am_ ((by rw [hg];exact below_size HB.out:w.heap.size≤gb1));replace HB:=am_ (below_step HB.out hb);have EQ1:=am_ (hg);clear hb hbox hg))
  refine (shape_made.calls _ _ _ _ _ _ _ (Kd.C_below HR.out HB.out) HC.out HM.out).mono ?_;rintro e w3 ⟨v0,rfl,ho,hb⟩;have HO:=am_ (Kd.R_lower ho (below_size HB.out));have HLT:=am_ (Kd.R_lt ho);have GT1:=am_ (Nat.lt_of_lt_of_le (blk_lt BK1.out) hb.size);replace BK1:=am_ (blk_below BK1.out hb);replace HB:=am_ (below_step HB.out hb);clear ho hb;obtain ⟨A5,c5,rfl⟩: ∃A5 c5,v0= .slice A5 out.length c5:=Kd.R_slice HO.out;have h1:=HH.out;clear HH;by_cases c1:a1.toList=([]:List UInt8)
  · rw [if_pos c1] at h1
    have c1b2:a1.toList.isEmpty=true:=by rw [c1];rfl
    cases h1
    clear c1
    go_wp2_with (first|((with_reducible refine gate_dst (N:=10) rfl ?_);refine bx_ (N:=10) (cs:=#[.slice none 0 0, .int .i64 0]) (t:=197) ?_;intro gb2 hg w4 hbox hb;replace HO:=am_ (Kd.R_below HO.out hb);replace BK1:=am_ (blk_below BK1.out hb);have BK2:=am_ (hbox);have GE2:=am_ ((by rw [hg];exact below_size HB.out:w.heap.size≤gb2));replace HB:=am_ (below_step HB.out hb);have EQ2:=am_ (hg);clear hb hbox hg)|((with_reducible refine gate_store (t:=197) (p:=10) (v:= .tmp 14) rfl ?_);refine store_all BK2.out 197 (.tmp 10) (.tmp 14) rfl rfl rfl (.agg #[.slice A5 out.length c5, .int .i64 j]) [.slice A5 out.length c5, .int .i64 j] rfl rfl rfl (by kernel_rfl) rfl (by intro q hq;simp only [List.mem_cons,List.not_mem_nil,or_false] at hq;rcases hq with rfl|rfl<;>rfl) ?_;intro w5 hbk hg;replace HO:=am_ (R_put HO.out BK2.out (by decide) hg);replace BK1:=am_ (blk_put_other BK1.out hg (by have:=EQ2.out;have:=GT1.out;omega));replace HB:=am_ (below_put HB.out (below_size HB.out) hg GE2.out);replace BK2:=am_ (hbk);clear hbk hg;have cgb1_0:=zz_ BK1 0;have cgb1_1:=zz_ BK1 1;have cgb1_2:=zz_ BK1 2;have cgb2_0:=zz_ BK2 0;have cgb2_1:=zz_ BK2 1))
    go_ret2
    exact ⟨_,rfl,Kd.R_nil _ _ _ _ _,HB.out⟩
  rw [if_neg c1] at h1;have c1b2:a1.toList.isEmpty=false:=by simpa using c1
  clear c1;by_cases c2:(a1.size:Int)>24
  · rw [if_pos c2] at h1
    cases h1
    have q2:=eq_true c2
    go_wp2_with (first|((with_reducible refine gate_dst (N:=10) rfl ?_);refine bx_ (N:=10) (cs:=#[.slice none 0 0, .int .i64 0]) (t:=197) ?_;intro gb2 hg w4 hbox hb;replace HO:=am_ (Kd.R_below HO.out hb);replace BK1:=am_ (blk_below BK1.out hb);have BK2:=am_ (hbox);have GE2:=am_ ((by rw [hg];exact below_size HB.out:w.heap.size≤gb2));replace HB:=am_ (below_step HB.out hb);have EQ2:=am_ (hg);clear hb hbox hg)|((with_reducible refine gate_store (t:=197) (p:=10) (v:= .tmp 14) rfl ?_);refine store_all BK2.out 197 (.tmp 10) (.tmp 14) rfl rfl rfl (.agg #[.slice A5 out.length c5, .int .i64 j]) [.slice A5 out.length c5, .int .i64 j] rfl rfl rfl (by kernel_rfl) rfl (by intro q hq;simp only [List.mem_cons,List.not_mem_nil,or_false] at hq;rcases hq with rfl|rfl<;>rfl) ?_;intro w5 hbk hg;replace HO:=am_ (R_put HO.out BK2.out (by decide) hg);replace BK1:=am_ (blk_put_other BK1.out hg (by have:=EQ2.out;have:=GT1.out;omega));replace HB:=am_ (below_put HB.out (below_size HB.out) hg GE2.out);replace BK2:=am_ (hbk);clear hbk hg;have cgb1_0:=zz_ BK1 0;have cgb1_1:=zz_ BK1 1;have cgb1_2:=zz_ BK1 2;have cgb2_0:=zz_ BK2 0;have cgb2_1:=zz_ BK2 1))
    go_ret2
    exact ⟨_,rfl,Kd.R_nil _ _ _ _ _,HB.out⟩
  rw [if_neg c2] at h1;have q2:=eq_false c2;obtain ⟨m,hm,h2⟩:=Option.bind_eq_some_iff.1 h1;have HMAY:=Aside0.mk hm;have HH:=Aside0.mk h2;clear hm h1 h2 c2;go_wp2_with (first|((with_reducible refine gate_dst (N:=10) rfl ?_);refine bx_ (N:=10) (cs:=#[.slice none 0 0, .int .i64 0]) (t:=197) ?_;intro gb2 hg w4 hbox hb;replace HO:=am_ (Kd.R_below HO.out hb);replace BK1:=am_ (blk_below BK1.out hb);have BK2:=am_ (hbox);have GE2:=am_ ((by rw [hg];exact below_size HB.out:w.heap.size≤gb2));replace HB:=am_ (below_step HB.out hb);have EQ2:=am_ (hg);clear hb hbox hg)|((with_reducible refine gate_store (t:=197) (p:=10) (v:= .tmp 14) rfl ?_);refine store_all BK2.out 197 (.tmp 10) (.tmp 14) rfl rfl rfl (.agg #[.slice A5 out.length c5, .int .i64 j]) [.slice A5 out.length c5, .int .i64 j] rfl rfl rfl (by kernel_rfl) rfl (by intro q hq;simp only [List.mem_cons,List.not_mem_nil,or_false] at hq;rcases hq with rfl|rfl<;>rfl) ?_;intro w5 hbk hg;replace HO:=am_ (R_put HO.out BK2.out (by decide) hg);replace BK1:=am_ (blk_put_other BK1.out hg (by have:=EQ2.out;have:=GT1.out;omega));replace HB:=am_ (below_put HB.out (below_size HB.out) hg GE2.out);replace BK2:=am_ (hbk);clear hbk hg;have cgb1_0:=zz_ BK1 0;have cgb1_1:=zz_ BK1 1;have cgb1_2:=zz_ BK1 2;have cgb2_0:=zz_ BK2 0;have cgb2_1:=zz_ BK2 1))
  refine (vec_May.calls _ _ _ _ _ HMAY.out).mono ?_;rintro e w6 ⟨rfl,hb⟩;clear cgb2_0 cgb2_1;replace HO:=am_ (Kd.R_below HO.out hb);replace BK1:=am_ (blk_below BK1.out hb);replace BK2:=am_ (blk_below BK2.out hb);replace HB:=am_ (below_step HB.out hb);clear hb;have cgb2_0:=zz_ BK2 0;have cgb2_1:=zz_ BK2 1;have h1:=HH.out;clear HH
  cases m with
  | false =>
    rw [if_pos rfl] at h1;cases h1;go_wp2_with fail
    go_ret2
    exact ⟨_,rfl,Kd.R_nil _ _ _ _ _,HB.out⟩
  | true =>
    rw [if_neg (by simp)] at h1;by_cases c3:j≥0
    · rw [if_pos c3] at h1
      cases h1
      have q3:=eq_true c3
      clear c3
      go_wp2_with fail
      go_ret2
      exact ⟨_,rfl,Kd.R_nil _ _ _ _ _,HB.out⟩
    rw [if_neg c3] at h1;have q3:=eq_false c3;obtain ⟨q,hq,h2⟩:=Option.bind_eq_some_iff.1 h1;have HQ:=Aside0.mk hq;have HH:=Aside0.mk h2;clear hq h1 h2 c3;go_wp2_with fail
    refine (shape_change_parent.calls _ _ _ _ _ _ _ (Kd.R_reads' HO.out).2.2 (Kd.R_reads' HO.out).2.1 HQ.out).mono ?_;rintro e w7 ⟨rfl,hb⟩;clear cgb2_0 cgb2_1;replace HO:=am_ (Kd.R_below HO.out hb);replace BK1:=am_ (blk_below BK1.out hb);replace BK2:=am_ (blk_below BK2.out hb);replace HB:=am_ (below_step HB.out hb);clear hb;have cgb2_0:=zz_ BK2 0;have cgb2_1:=zz_ BK2 1;have h1:=HH.out;clear HH
    cases q with
    | false =>
      rw [if_pos rfl] at h1;cases h1;go_wp2_with fail
      go_ret2
      exact ⟨_,rfl,Kd.R_nil _ _ _ _ _,HB.out⟩
    | true =>
      rw [if_neg (by simp)] at h1;by_cases c4:(out.length:Int)≥120
      · rw [if_pos c4] at h1
        cases h1
        have q4:=eq_true c4
        go_wp2_with fail
        go_ret2
        exact ⟨_,rfl,Kd.R_nil _ _ _ _ _,HB.out⟩
      rw [if_neg c4] at h1;cases h1;have q4:=eq_false c4;have HL:=am_ (show out.length<1000000 by omega);have HPL:=am_ (placeL_le out a1);clear c4;have cgb1_0:=zz_ BK1 0;have cgb1_1:=zz_ BK1 1;have cgb1_2:=zz_ BK1 2;go_wp2_with fail
      go_loopg [11] (placeL out a1) (fun kq s11 wr=>wr=w7∧ ∃i:Nat,i≤placeL out a1∧placeL out a1 - i≤kq∧s11= .int .i64 i)
      case atStart=>exact ⟨rfl,0,by omega,by omega,rfl⟩
      case round=>
        obtain ⟨rfl,i,hi,hg,rfl⟩:=hrel;have hlen:=HPL.out;by_cases hlt:i<out.length;rotate_left
        · have q5 : ((i : Int) < (out.length : Int)) = False := eq_false (by omega)
          obtain rfl:i=placeL out a1:=by omega
          go_wp2_with fail
          refine (sliInsert_calls _ w.heap.size _ out (placeL out a1) ⟨a1,a2,⟨a3_0,a3_1,a3_2⟩,⟨0,0,0⟩,⟨0,0,0⟩,1⟩ _ (Kd.R_below HO.out (below_alloc (Below.refl _ _) _)) HPL.out (blk_new _ _) (fun e=>absurd (Kd.R_lt HO.out _ e) (by omega)) (below_size (below_alloc HB.out _)) HL.out).mono ?_
          rintro e w9 ⟨v1,rfl,ho,hb⟩
          have HO9:=Aside0.mk ho
          have HB9:=am_ ((below_alloc HB.out _).trans hb)
          clear ho hb
          go_wp2_with fail
          go_ret2
          exact ⟨_,rfl,HO9.out,HB9.out⟩


        have q5:((i:Int)<(out.length:Int))=True:=eq_true (by omega);have q6:((0:Int)≤(i:Int))=True:=eq_true (by omega);obtain ⟨ad,e1,k0,_⟩:=at_T79 (Kd.C_below HR.out HB.out) (i:Int) (by omega) (by omega);cases e1;simp only [Int.toNat_natCast] at k0;by_cases hp:i<placeL out a1
        · have q7 := placeL_lt out a1 i hp
          go_wp2_with fail
          have hL:=HL.out
          go_roundg (placeL out a1 - (i+1))
          case measure=>omega
          case rel=>exact ⟨rfl,i+1,by omega,by omega,by rw [show wrap64 ((i:Int)+1)=((i+1:Nat):Int) from by unfold wrap64;omega]⟩
        obtain rfl:i=placeL out a1:=by omega
        have q7:=placeL_at out a1 hlt;go_wp2_with fail
        refine (sliInsert_calls _ w.heap.size _ out (placeL out a1) ⟨a1,a2,⟨a3_0,a3_1,a3_2⟩,⟨0,0,0⟩,⟨0,0,0⟩,1⟩ _ (Kd.R_below HO.out (below_alloc (Below.refl _ _) _)) HPL.out (blk_new _ _) (fun e=>absurd (Kd.R_lt HO.out _ e) (by omega)) (below_size (below_alloc HB.out _)) HL.out).mono ?_;rintro e w9 ⟨v1,rfl,ho,hb⟩;have HO9:=Aside0.mk ho;have HB9:=am_ ((below_alloc HB.out _).trans hb);clear ho hb;go_wp2_with fail
        go_ret2
        exact ⟨_,rfl,HO9.out,HB9.out⟩
end Go.Proofs.Ytahidkjncljkaaa.Print

namespace Go.Proofs.Ytahidkjncljkaaa.Print
open Go.RowKit Go.Proofs.YtahidkjncljkaaaW.PrintWords Go.Proofs.YtahidkjncljkaaaW.PrintLast Go.Proofs.YtahidkjncljkaaaW.PrintMore
theorem R_base_ {α:Type} {d:Kd α} {e base:Nat} {ok:Nat→Prop} {w:World} {v:Value} {xs:List α} (h:d.R e w base ok v xs) (k:Nat) (hk:v.ownBlock=some k):base≤k:=Kd.R_base h k hk
theorem older_zero {l r:List S79} {j:Int} (h:olderF l j=some (0,r)):0≤j∧j<(l.length:Int):=by
  unfold olderF at h
  split at h
  · assumption
  cases h
theorem older_len {l r:List S79} {j e:Int} (h:olderF l j=some (e,r)):r.length=l.length:=by
  unfold olderF at h
  split at h
  rotate_left
  · cases h
  split at h
  · cases h;rfl
  cases h;simp
theorem sh_cells' {base:Nat} {w:World} {g c n:Nat} {l:List S79} (h:Kd.R k79 79 w base (fun _=>True) (.slice (some ⟨g,0,none⟩) n c) l) (hn:l.length=n) (j:Int) (h0:0≤j) (h1:j<(n:Int)):
  ∀j' u,(shCells (rd_T79 l j))[j']?=some u→w.cell? ⟨g,j.toNat*12+j',none⟩=some u:=by
 subst hn;exact sh_cells h j h0 h1
theorem sh_block {α:Type} {d:Kd α} {e base:Nat} {ok:Nat→Prop} {w:World} {g n c:Nat} {xs:List α} (h:d.R e w base ok (.slice (some ⟨g,0,none⟩) n c) xs): ∃cur,w.heap[g]?=some (.cells cur e (0,0))∧n*d.sz≤cur.size:=by
  obtain ⟨_,inner,⟨_,h|⟨g',cap',cur,hv,hg,hh,hnc,hcm,hcs,_⟩⟩,_⟩:=h
  · cases h.1
  cases hv
  exact ⟨cur,hh,by rw [hcs];exact Nat.mul_le_mul_right _ (by omega)⟩
theorem sh_store {P:Program} {ops:Array Oper} {o:Oper} {a:Act} {Q:Exit→Act→World→Prop} {Kc:Act→World→Prop} {α:Type} (d:Kd α) {W:World} (base:Nat) (hw:Region.wanted o (yielded ops a.tmps)=true) (t:TypeId) (p x:Operand) (ho:o.op= .store t p x) (hN:o.dst=none) (e:TypeId) {g n cap:Nat} (i:Int) (j:Nat) (xs:List α) (x':α) (u:Value) (seg c:List Value) (ok okp:Nat→Prop)
  (haddr:a.eval p= .pointer (some ⟨g,i.toNat*d.sz+j,none⟩)) (hx:a.eval x=u) (hu:u.cells.toList=seg) (ht:(P.info? t).map (·.size)=some seg.length) (h1: ∀q∈seg,q.oneCell'=true)
  (HO:d.R e W base ok (.slice (some ⟨g,0,none⟩) n cap) xs) (h0:0≤i) (hi:i<n) (hcl:c.length=d.sz) (hcc: ∀j u,c[j]?=some u→W.cell? ⟨g,i.toNat*d.sz+j,none⟩=some u)
  (hj:j+seg.length≤d.sz) (hM:d.M W base okp x' (c.take j++seg++c.drop (j+seg.length))) (hokp: ∀k,okp k→ok k∧k≠g)
  (h: ∀w1,d.R e w1 base ok (.slice (some ⟨g,0,none⟩) n cap) (xs.set i.toNat x')→W.grownBy w1 (some g)→Kc a w1):if Region.wanted o (yielded ops a.tmps)=true then Oper.wp P o a W Kc Q else Kc (a.put none undef) W:=by
 obtain ⟨hrow,hg⟩:=Kd.R_seg HO i h0 hi hcl hcc hj hM hokp
 obtain ⟨cur,hh,hsz⟩:=sh_block HO
 have h2:i.toNat*d.sz+d.sz≤n*d.sz:=by rw [←Nat.succ_mul];exact Nat.mul_le_mul_right _ (by omega)
 have hrun:=run_store_run (P:=P) t u seg hh hu ht (o:=i.toNat*d.sz+j) (by omega) h1
 rw [if_pos hw]
 unfold Oper.wp execOp
 simp only [ho,haddr,hx,Sem.run_bind,Sem.run_pure,Result.andThen_ok,hrun]
 show Kc (a.put o.dst undef) _
 rw [hN]
 exact h _ hrow hg
theorem R_turned {α:Type} {d:Kd α} {e base base0:Nat} {w w1:World} {u v:Value} {xs:List α} {l:List S79} (h:d.R e w base0 (fun _=>True) u xs) (hv:Kd.R k79 79 w base (fun _=>True) v l) (ht: ∀q,q∈e::d.E→q≠79) (hT:Turned w w1 base v):d.R e w1 base0 (fun _=>True) u xs:=by
  have hcase:v.ownBlock=none∨ ∃g cells,v.ownBlock=some g∧w.heap[g]?=some (.cells cells 79 (0,0)):=by
    cases hb:v.ownBlock with
    |none=>exact .inl rfl
    | some g =>
      obtain ⟨inner,ho⟩:=Kd.R_own hv
      obtain ⟨cells,hc⟩:=own_typed ho g hb
      exact .inr ⟨g,cells,rfl,hc⟩
  rcases hcase with hn|⟨g,cells,hb,hc⟩
  · refine Kd.R_step h (fun k _ hk => ?_)
    rw [Array.getElem?_eq_getElem hk]
    exact hT.block k _ (Array.getElem?_eq_getElem hk) (by rw [hn];simp)
  refine Kd.R_mono (Kd.R_step (Kd.R_types h hc ht) (fun k hk hlt=> ?_)) (fun _ _=>trivial)
  rw [Array.getElem?_eq_getElem hlt]
  exact hT.block k _ (Array.getElem?_eq_getElem hlt) (by rw [hb];intro q;exact hk.2 (Option.some.inj q))
theorem Turned.trans_ {W w1 w2:World} {base:Nat} {v:Value} (h:Turned W w1 base v) (k:Turned w1 w2 base v):Turned W w2 base v:=⟨h.below.trans k.below,fun b o hk hn=>k.block b o (h.block b o hk hn) hn⟩
theorem Turned.below_ {W w1 w2:World} {base:Nat} {v:Value} (h:Turned W w1 base v) (hb:base≤w1.heap.size) (k:Below w1.heap.size w1 w2):Turned W w2 base v:=h.trans_ (Turned.of_below k hb)
theorem Turned.grown_ {W w1 w2:World} {base g n c:Nat} (h:Turned W w1 base (.slice (some ⟨g,0,none⟩) n c)) (hb:base≤w1.heap.size) (hg0:base≤g) (hg:w1.grownBy w2 (some g)):Turned W w2 base (.slice (some ⟨g,0,none⟩) n c):=
 h.trans_ (Turned.then_grown (Turned.of_below (Below.refl _ _) hb) hb hg0 hg)
def shSub (op:S37→S37) (y:S79):S79:=⟨y.f0,y.f1,y.f2,y.f3,op y.f4,y.f5⟩
def shiftF (op:S37→S37):List ByteArray→List S79→Option (List S79)
 |[],out=>some out
 |s::us,out=>(tree_Find.f out s).bind fun j=>if 0≤j∧j<(out.length:Int) then shiftF op us (out.set j.toNat (shSub op (rd_T79 out j))) else none
end Go.Proofs.Ytahidkjncljkaaa.Print

namespace Go.Proofs.Ytahidkjncljkaaa.Print
open Go.RowKit Go.Proofs.YtahidkjncljkaaaW.PrintWords Go.Proofs.YtahidkjncljkaaaW.PrintLast Go.Proofs.YtahidkjncljkaaaW.PrintMore
attribute [local go_sem] max2_int min2_int max_two min_two max_three min_three max_four min_four

def limF (v:S37) (y:S79):S79:=⟨y.f0,y.f1,v,y.f3,y.f4,y.f5⟩
def shape_Limit.f (l0:List (S79)) (a1:ByteArray) (a2_0:Int) (a2_1:Int) (a2_2:Int) (a3:Int):Option ((List (S79))×Int):=
 (vec_May.f a2_0 a2_1 a2_2).bind fun m=>if m=false then some ([],1) else (shape_made.f l0 a1).bind fun p=>(guardF p.1 p.2 a3).bind fun e=>if e≠0 then some ([],e) else (olderF p.1 p.2).bind fun q=>if q.1≠0 then some ([],q.1) else
  (vec_Le.f (rd_T79 q.2 p.2).f4.f0 (rd_T79 q.2 p.2).f4.f1 (rd_T79 q.2 p.2).f4.f2 a2_0 a2_1 a2_2).bind fun b=>if b=false then some ([],12) else some (q.2.set p.2.toNat (limF ⟨a2_0,a2_1,a2_2⟩ (rd_T79 q.2 p.2)),0)
set_option maxHeartbeats 8000000 in
set_option maxRecDepth 100000 in
theorem shape_Limit.calls (A0:Option Addr) (c0:Nat) (l0:List (S79)) (a1:ByteArray) (a2_0:Int) (a2_1:Int) (a2_2:Int) (a3:Int) (r1:List (S79)) (r2:Int) (w:World) (hr0:Kd.C k79 w A0 l0.length l0) (hc0:l0.length≤c0) (h:shape_Limit.f l0 a1 a2_0 a2_1 a2_2 a3=some (r1,r2)):
    Calls Try.prog 139 #[.slice A0 l0.length c0, .string a1, .agg #[.int .i64 a2_0, .int .i64 a2_1, .int .i64 a2_2], .int .i64 a3] w fun e w'=> ∃v0_:Value,e= .returned (.tuple #[v0_, .int .i64 r2])∧Kd.R k79 79 w' w.heap.size (fun _=>True) v0_ r1∧Below w.heap.size w w':=by
  have hu197:=Try.underlying197;have hu195:=Try.underlying195;have hu79:=Try.underlying79;have hu37:=Try.underlying37;unfold shape_Limit.f at h;obtain ⟨m,hm,h1⟩:=Option.bind_eq_some_iff.1 h;clear h;have HMAY:=Aside0.mk hm;have HR:=Aside0.mk hr0;have HC:=Aside0.mk hc0;have HB:=am_ (Below.refl w.heap.size w);have HH:=Aside0.mk h1;clear hr0 hc0 hm h1;go_enter Try.func139,Try.ntmps139;go_wp2_with (first|((with_reducible refine gate_dst (N:=6) rfl ?_);refine bx_ (N:=6) (cs:=#[.int .i64 a2_0, .int .i64 a2_1, .int .i64 a2_2]) (t:=37) ?_;intro gb1 hg w1 hbox hb;have BK1:=am_ (hbox);have GE1:=am_ ((by rw [hg];exact below_size HB.out:w.heap.size≤gb1));replace HB:=am_ (below_step HB.out hb);have EQ1:=am_ (hg);clear hb hbox hg;have cgb1_0:=zz_ BK1 0;have cgb1_1:=zz_ BK1 1;have cgb1_2:=zz_ BK1 2))
  refine (vec_May.calls _ _ _ _ _ HMAY.out).mono ?_;rintro e w2 ⟨rfl,hb⟩;clear cgb1_0 cgb1_1 cgb1_2;replace BK1:=am_ (blk_below BK1.out hb);replace HB:=am_ (below_step HB.out hb);clear hb;have h1:=HH.out;clear HH
  cases m with
  | false =>
    rw [if_pos rfl] at h1;cases h1;go_wp2_with fail
    go_ret2
    exact ⟨_,rfl,Kd.R_nil _ _ _ _ _,HB.out⟩
  | true =>
    rw [if_neg (by simp)] at h1;obtain ⟨⟨out,j⟩,hmd,h2⟩:=Option.bind_eq_some_iff.1 h1;clear h1;obtain ⟨e0,hgd,h3⟩:=Option.bind_eq_some_iff.1 h2;clear h2;dsimp only at hgd h3;have HM:=Aside0.mk hmd;have HG:=Aside0.mk hgd;have HH:=Aside0.mk h3;clear hmd hgd h3;go_wp2_with fail
    refine (shape_made.calls _ _ _ _ _ _ _ (Kd.C_below HR.out HB.out) HC.out HM.out).mono ?_;rintro e w3 ⟨v0,rfl,ho,hb⟩;have HO:=am_ (Kd.R_lower ho (below_size HB.out));have HRB:=am_ (R_base_ ho);have GT0:=am_ (blk_lt BK1.out);have GT1:=am_ (Nat.lt_of_lt_of_le (blk_lt BK1.out) hb.size);replace BK1:=am_ (blk_below BK1.out hb);replace HB:=am_ (below_step HB.out hb);clear ho hb;obtain ⟨A5,c5,rfl⟩: ∃A5 c5,v0= .slice A5 out.length c5:=Kd.R_slice HO.out;have HLT:=am_ (Kd.R_lt HO.out);have NE1:=am_ (show some gb1≠(Value.slice A5 out.length c5).ownBlock from fun e=>by have:=HRB.out _ e.symm;have:=GT0.out;omega)
    go_wp2_with (first|((with_reducible refine gate_dst (N:=10) rfl ?_);refine bx_ (N:=10) (cs:=#[.slice none 0 0, .int .i64 0]) (t:=197) ?_;intro gb2 hg w4 hbox hb;replace HO:=am_ (Kd.R_below HO.out hb);replace BK1:=am_ (blk_below BK1.out hb);have BK2:=am_ (hbox);have GE2:=am_ ((by rw [hg];exact below_size HB.out:w.heap.size≤gb2));replace HB:=am_ (below_step HB.out hb);have EQ2:=am_ (hg);clear hb hbox hg)|((with_reducible refine gate_store (t:=197) (p:=10) (v:= .tmp 18) rfl ?_);refine store_all BK2.out 197 (.tmp 10) (.tmp 18) rfl rfl rfl (.agg #[.slice A5 out.length c5, .int .i64 j]) [.slice A5 out.length c5, .int .i64 j] rfl rfl rfl (by kernel_rfl) rfl (by intro q hq;simp only [List.mem_cons,List.not_mem_nil,or_false] at hq;rcases hq with rfl|rfl<;>rfl) ?_;intro w5 hbk hg;replace HO:=am_ (R_put HO.out BK2.out (by decide) hg);replace BK1:=am_ (blk_put_other BK1.out hg (by have:=EQ2.out;have:=GT1.out;omega));replace HB:=am_ (below_put HB.out (below_size HB.out) hg GE2.out);replace BK2:=am_ (hbk);clear hbk hg;have cgb2_0:=zz_ BK2 0;have cgb2_1:=zz_ BK2 1))
    have NE2:=am_ (show some gb2≠(Value.slice A5 out.length c5).ownBlock from fun e=>by have:=HLT.out _ e.symm;have:=EQ2.out;omega);refine (shapeGuard_calls _ _ _ out j a3 e0 HO.out HG.out).mono ?_;rintro e w6 ⟨rfl,hb⟩;clear cgb2_0 cgb2_1;replace HO:=am_ (Kd.R_below HO.out hb);replace BK1:=am_ (blk_below BK1.out hb);replace BK2:=am_ (blk_below BK2.out hb);replace HB:=am_ (below_step HB.out hb);clear hb;have cgb2_0:=zz_ BK2 0;have cgb2_1:=zz_ BK2 1;have h3:=HH.out;clear HH;by_cases c1:e0=0;rotate_left
    · rw [if_pos c1] at h3
      cases h3
      have q1:(r2==0)=false:=by simpa using c1
      go_wp2_with fail
      go_ret2
      exact ⟨_,rfl,Kd.R_nil _ _ _ _ _,HB.out⟩


    cases c1;rw [if_neg (by simp)] at h3;obtain ⟨⟨e1,l2⟩,hol,h4⟩:=Option.bind_eq_some_iff.1 h3;clear h3;have HOL:=Aside0.mk hol;have HH:=Aside0.mk h4;clear hol h4;go_wp2_with fail
    refine (shapeOlder_calls _ _ _ out l2 j e1 HO.out (below_size HB.out) HOL.out).mono ?_;rintro e w7 ⟨rfl,ho,ht⟩;clear cgb2_0 cgb2_1;replace HO:=am_ (ho);replace BK1:=am_ (ht.block _ _ BK1.out NE1.out);replace BK2:=am_ (ht.block _ _ BK2.out NE2.out);replace HB:=am_ (HB.out.trans ht.below);clear ho ht;have cgb2_0:=zz_ BK2 0;have cgb2_1:=zz_ BK2 1;have h4:=HH.out;clear HH;by_cases c2:e1=0;rotate_left
    · rw [if_pos c2] at h4
      cases h4
      have q2:(r2==0)=false:=by simpa using c2
      go_wp2_with fail
      go_ret2
      exact ⟨_,rfl,Kd.R_nil _ _ _ _ _,HB.out⟩
    cases c2;rw [if_neg (by simp)] at h4;obtain ⟨b,hle,h5⟩:=Option.bind_eq_some_iff.1 h4;clear h4;obtain ⟨hj0,hj1⟩:=older_zero HOL.out;obtain ⟨gb,cap,hv0,hgb,hgl⟩:=sh_head HO.out (by have:=older_len HOL.out;omega);rw [older_len HOL.out] at hv0;cases hv0;have hcs:=sh_cells' HO.out (older_len HOL.out) j hj0 hj1;have HJ0:=Aside0.mk hj0;have HJ1:=Aside0.mk hj1;generalize hy:rd_T79 l2 j=y at hcs hle h5;have HY:=Aside0.mk hy;have HGB:=Aside0.mk hgb;have HGL:=Aside0.mk hgl;have HLE:=Aside0.mk hle;have HH:=Aside0.mk h5;have HCS:=Aside0.mk hcs;have k8:=hcs 8 _ rfl;have k9:=hcs 9 _ rfl;have k10:=hcs 10 _ rfl;have v0_:=zz_ BK1 0;have v1_:=zz_ BK1 1;have v2_:=zz_ BK1 2;have hB0:Below w7.heap.size w7 w7:=Below.refl _ _;have hBd:Below w7.heap.size w7 w7.drew:=below_drew hB0;clear hj0 hj1 hy hgb hgl hle h5 hcs;go_wp2_with fail
    go_region_held3 (fun w'=>w'.cell? ⟨gb2,0,none⟩=some (.slice (some ⟨gb,0,none⟩) out.length c5)∧w'.cell? ⟨gb2,1,none⟩=some (.int .i64 j)∧w'.cell? ⟨gb,j.toNat*12+8,none⟩=some (.int .i64 y.f4.f0)∧w'.cell? ⟨gb,j.toNat*12+9,none⟩=some (.int .i64 y.f4.f1)∧w'.cell? ⟨gb,j.toNat*12+10,none⟩=some (.int .i64 y.f4.f2)∧w'.cell? ⟨gb1,0,none⟩=some (.int .i64 a2_0)∧w'.cell? ⟨gb1,1,none⟩=some (.int .i64 a2_1)∧w'.cell? ⟨gb1,2,none⟩=some (.int .i64 a2_2)∧Below w7.heap.size w7 w')
      (first|(go_keep;done)|(go_split_ands;refine ⟨?_, ?_, ?_, ?_, ?_, ?_, ?_, ?_, ?_⟩<;>first|exact below_step (by assumption) hb|exact pw_cell_below hb (by first|assumption|(go_keep;done))))
      (first|(go_at_call 159;refine (shapeItem_calls _ ⟨gb,0,none⟩ out.length c5 j HJ0.out HJ1.out).mono ?_;rintro e w' ⟨rfl,hb⟩)|(go_at_call 114;refine (vec_Le.calls _ _ _ _ _ _ _ _ HLE.out).mono ?_;rintro e w' ⟨rfl,hb⟩))
    rename_i hHeld
    have hBz:Below w7.heap.size w7 w':=hHeld.2.2.2.2.2.2.2.2;clear hHeld cgb2_0 cgb2_1 k8 k9 k10 v0_ v1_ v2_ hB0 hBd;have HGL2:=am_ (Nat.lt_of_lt_of_le HGL.out hBz.size);have HCS2:=am_ (fun j' u hu=>(hBz.cell (p:=⟨gb,j.toNat*12+j',none⟩) HGL.out).trans (HCS.out j' u hu));replace HO:=am_ (Kd.R_below HO.out hBz);replace BK1:=am_ (blk_below BK1.out hBz);replace BK2:=am_ (blk_below BK2.out hBz);replace HB:=am_ (below_step HB.out hBz);(try clear hb);clear hBz HCS;have cgb2_0:=zz_ BK2 0;have cgb2_1:=zz_ BK2 1;have v0_:=zz_ BK1 0;have v1_:=zz_ BK1 1;have v2_:=zz_ BK1 2;have h5:=HH.out;clear HH
    cases b with
    | false =>
      rw [if_pos rfl] at h5;cases h5;go_wp2_with fail
      go_ret2
      exact ⟨_,rfl,Kd.R_nil _ _ _ _ _,HB.out⟩
    | true =>
      rw [if_neg (by simp)] at h5;cases h5;go_wp2_with fail
      have LB:=am_ (blk_lt BK2.out);have LB1:=am_ (blk_lt BK1.out);refine start_ (n:=6) (S:=fun w'=>w'.cell? ⟨gb2,0,none⟩=some (.slice (some ⟨gb,0,none⟩) out.length c5)∧w'.cell? ⟨gb2,1,none⟩=some (.int .i64 j)∧w'.cell? ⟨gb1,0,none⟩=some (.int .i64 a2_0)∧w'.cell? ⟨gb1,1,none⟩=some (.int .i64 a2_1)∧w'.cell? ⟨gb1,2,none⟩=some (.int .i64 a2_2)) (ds:=[5]) (bt_ 6 0) (by kernel_rfl) rfl rfl ⟨cgb2_0,cgb2_1,v0_,v1_,v2_⟩ (fun hHeld=> ?_);refine tv_ (i:=0) (N:=some 38) (bt_ 6 1) hHeld ?_;refine tv_ (i:=2) (N:=some 40) (bt_ 6 5) hHeld ?_;refine one_ (i:=1) (N:=some 39) (bt_ 6 7) rfl rfl (by kernel_rfl) (by decide) (fun K hK=> ?_);refine goes_ Try.func159 (by kernel_rfl) rfl #[.agg #[.slice (some ⟨gb,0,none⟩) out.length c5, .int .i64 j]] (by rfl) rfl rfl (by (try simp only [List.map_toArray,List.map_cons,List.map_nil]);rfl) ?_;refine (shapeItem_calls _ ⟨gb,0,none⟩ out.length c5 j HJ0.out HJ1.out).mono ?_;rintro e w9 ⟨rfl,hb⟩;refine ⟨_,rfl, ?_⟩;refine hK.out _ _ ⟨(hb.cell (p:=⟨gb2,0,none⟩) LB.out).trans hHeld.1,(hb.cell (p:=⟨gb2,1,none⟩) LB.out).trans hHeld.2.1,(hb.cell (p:=⟨gb1,0,none⟩) LB1.out).trans hHeld.2.2.1,(hb.cell (p:=⟨gb1,1,none⟩) LB1.out).trans hHeld.2.2.2.1,(hb.cell (p:=⟨gb1,2,none⟩) LB1.out).trans hHeld.2.2.2.2⟩ (fun hHeld=> ?_);clear hK K;refine norm_ (a':= ?_) ?_ ?_;rotate_left
      · show Act.put _ (some 39) _ = _
        simp only [Act.put,List.setIfInBounds_toArray,List.set_cons_zero,List.set_cons_succ,i64_w,i32_w]
        rfl
      refine pv_ (i:=3) (N:=some 41) (bt_ 6 15) ?_;refine pv_ (i:=4) (N:=some 42) (bt_ 6 31) ?_;refine last_ (i:=5) (N:=none) (bt_ 6 63) rfl rfl (by kernel_rfl) (by decide) (fun K hK=> ?_);refine sh_store k79 w.heap.size (by rfl) 37 (.tmp 42) (.tmp 40) rfl rfl 79 (g:=gb) (n:=out.length) (cap:=c5) j 2 l2 (limF ⟨a2_0,a2_1,a2_2⟩ y) (.agg #[.int .i64 a2_0, .int .i64 a2_1, .int .i64 a2_2]) [.int .i64 a2_0, .int .i64 a2_1, .int .i64 a2_2] (shCells y) (fun _=>True) (fun _=>False) rfl rfl rfl (by kernel_rfl) (by intro q hq;simp only [List.mem_cons,List.not_mem_nil,or_false] at hq;rcases hq with rfl|rfl|rfl<;>rfl) (Kd.R_below (Kd.R_below HO.out (below_drew (Below.refl _ _))) hb) HJ0.out HJ1.out rfl (fun j' u hu=>(hb.cell (p:=⟨gb,j.toNat*12+j',none⟩) HGL2.out).trans (HCS2.out j' u hu)) (by show 2+3≤12;omega) (k79_mkM _ _ _ (limF ⟨a2_0,a2_1,a2_2⟩ y)) (fun _ h=>h.elim) ?_;intro w10 ho hg;have HO10:=Aside0.mk ho;have BK10:=am_ (blk_put_other (blk_below (blk_drew BK2.out) hb) hg (fun e=>NE2.out (by rw [e];rfl)));have HB10:=am_ (below_put (below_step (below_drew HB.out) hb) (below_size (below_step (below_drew HB.out) hb)) hg HGB.out);clear ho hg hb;have c10_0:=zz_ BK10 0;refine hK.out _ _ ?_;clear hK K;refine done_ (by kernel_rfl) ?_;go_wp2_with fail
      go_ret2
      refine ⟨_,rfl, ?_,HB10.out⟩;exact HO10.out
def vecByF (op:Int→Int→Int):List S37→Int→Int→Int→Int×Int×Int
 |[],a,b,d=>(a,b,d)
 |v::l,a,b,d=>vecByF op l (op a v.f0) (op b v.f1) (op d v.f2)
theorem vecByF_snoc (op:Int→Int→Int) (v:S37): ∀(l:List S37) (a b d:Int),vecByF op (l++ [v]) a b d=(op (vecByF op l a b d).1 v.f0,op (vecByF op l a b d).2.1 v.f1,op (vecByF op l a b d).2.2 v.f2)
 |[],_,_,_=>rfl
 |_::l,_,_,_=>vecByF_snoc op v l _ _ _
theorem vecByF_take (op:Int→Int→Int) (l:List S37) (a b d:Int) (i:Nat) (h:i<l.length):vecByF op (l.take (i+1)) a b d=(op (vecByF op (l.take i) a b d).1 (rd_T37 l i).f0,op (vecByF op (l.take i) a b d).2.1 (rd_T37 l i).f1,op (vecByF op (l.take i) a b d).2.2 (rd_T37 l i).f2):=by
 have e:rd_T37 l i=l[i]:=by simp [rd_T37,h]
 rw [List.take_succ_eq_append_getElem h,vecByF_snoc,e]
set_option maxHeartbeats 1000000 in
set_option maxRecDepth 100000 in
theorem vecBy_calls (g:Nat) (op:Int→Int→Int) (eg: ∀args w,(callFunc g args).run Try.prog w= .ok (.enter g args) w) (hop: ∀x y W,Calls Try.prog g #[.int .i64 x, .int .i64 y] W fun e w'=>e= .returned (.int .i64 (op x y))∧w'=W)
    (A:Option Addr) (c:Nat) (l:List S37) (a b d:Int) (w:World) (hr0:Kd.C k37 w A l.length l) (hc0:l.length≤c) (hm:l.length≤maxLen):
    Calls Try.prog 145 #[.func (.func g) #[] #[], .agg #[.int .i64 a, .int .i64 b, .int .i64 d], .slice A l.length c] w fun e w'=>e= .returned (.agg #[.int .i64 (vecByF op l a b d).1, .int .i64 (vecByF op l a b d).2.1, .int .i64 (vecByF op l a b d).2.2])∧Below w.heap.size w w':=by
  have hu37:=Try.underlying37;have HR0:=Aside0.mk hr0;have HOP:=Aside0.mk hop;have HEG:=Aside0.mk eg;have HBT:=am_ (vecByF_take op l a b d);clear hr0 hop eg;unfold maxLen at hm;go_enter Try.func145,Try.ntmps145;go_wp2
  go_loopg [11] l.length (fun kq s11 wr=> ∃i:Nat,i≤l.length∧l.length - i≤kq∧s11= .int .i64 i∧Aside0 (Below w.heap.size w wr)∧Aside0 (wr.heap[w.heap.size]?=some (.cells #[.int .i64 (vecByF op (l.take i) a b d).1, .int .i64 (vecByF op (l.take i) a b d).2.1, .int .i64 (vecByF op (l.take i) a b d).2.2] 37 (0,0)))∧Aside0 (wr.heap[w.heap.size+1]?=some (.cells #[.int .i64 0, .int .i64 0, .int .i64 0] 37 (0,0))))
  case atStart=>
    exact ⟨0,by omega,by omega,rfl,⟨below_alloc (below_alloc (Below.refl _ _) _) _⟩,⟨blk_alloc (blk_new _ _) _⟩,⟨by have:=blk_new (w.alloc (.cells #[.int .i64 a, .int .i64 b, .int .i64 d] 37)) (.cells #[.int .i64 0, .int .i64 0, .int .i64 0] 37);simpa using this⟩⟩
  case round=>
    obtain ⟨i,hi,hg,rfl,HB,HF,HZ⟩:=hrel;generalize hq:vecByF op (l.take i) a b d=q at HF;have HQ:=Aside0.mk hq;clear hq;by_cases hlt:i<l.length;rotate_left
    · obtain rfl : i = l.length := by omega
      have hq:q=vecByF op l a b d:=HQ.out.symm.trans (by rw [List.take_length])
      subst hq
      have HQ':=HQ
      clear HQ HBT
      have f0:=zz_ HF 0
      have f1:=zz_ HF 1
      have f2:=zz_ HF 2
      have g0:=zz_ HZ 0
      have g1:=zz_ HZ 1
      have g2:=zz_ HZ 2
      have z0:=blk_frozen HZ.out 0
      have z1:=blk_frozen HZ.out 1
      have z2:=blk_frozen HZ.out 2
      have hs1:w.heap.size+1<wr.heap.size:=blk_lt HZ.out
      go_wp2
      refine bodyPost_ret (results_cell_row rfl _ _ (w.heap.size+1) 37 #[.int .i64 (vecByF op l a b d).1, .int .i64 (vecByF op l a b d).2.1, .int .i64 (vecByF op l a b d).2.2] (0,0) _ rfl (blk_put (blk_put (blk_put HZ.out 0 _ rfl) 1 _ rfl) 2 _ rfl) Try.underlying37 rfl (by kernel_rfl)) rfl ?_
      exact ⟨rfl,below_set (below_set (below_set HB.out (Nat.le_succ _)) (Nat.le_succ _)) (Nat.le_succ _)⟩


    have hltz:(i:Int)<(l.length:Int):=by omega
    obtain ⟨ad,e1,h0,h1,h2⟩:=at_T37 HR0.out (i:Int) (by omega) (by omega);cases e1;simp only [Int.toNat_natCast] at h0 h1 h2;replace h0:=zx_ HB h0;replace h1:=zx_ HB h1;replace h2:=zx_ HB h2;have hsz:w.heap.size+1<wr.heap.size:=blk_lt HZ.out;go_wp2
    obtain ⟨W1,hW1⟩: ∃W1,W1=(wr.alloc (.cells #[.int .i64 (rd_T37 l i).f0, .int .i64 (rd_T37 l i).f1, .int .i64 (rd_T37 l i).f2] 37)).drew:=⟨_,rfl⟩;have hF1:W1.heap[w.heap.size]?=some (.cells #[.int .i64 q.1, .int .i64 q.2.1, .int .i64 q.2.2] 37 (0,0)):=by rw [hW1];exact blk_alloc HF.out _
    have hZ1:W1.heap[w.heap.size+1]?=some (.cells #[.int .i64 0, .int .i64 0, .int .i64 0] 37 (0,0)):=by rw [hW1];exact blk_alloc HZ.out _
    have hV1:W1.heap[wr.heap.size]?=some (.cells #[.int .i64 (rd_T37 l i).f0, .int .i64 (rd_T37 l i).f1, .int .i64 (rd_T37 l i).f2] 37 (0,0)):=by rw [hW1];exact blk_new _ _
    have hB1:Below w.heap.size w W1:=by rw [hW1];exact below_drew (below_alloc HB.out _)
    refine wp_region_still_tail 19 (by kernel_rfl) (by kernel_rfl) ?_
    change wpStill _ _ (World.drew _) _ _ _
    rw [←hW1];simp only [List.take_succ_cons,List.take_zero,List.drop_succ_cons,List.drop_zero];have HV1:=Aside0.mk hV1;have HF1:=Aside0.mk hF1;have HZ1:=Aside0.mk hZ1;have HB1:=Aside0.mk hB1;have f0:=(blk_cell hF1 0).trans rfl;have f1:=(blk_cell hF1 1).trans rfl;have f2:=(blk_cell hF1 2).trans rfl;have g0:=(blk_cell hV1 0).trans rfl;have g1:=(blk_cell hV1 1).trans rfl;have g2:=(blk_cell hV1 2).trans rfl;have HW1:=Aside0.mk hW1;clear hW1 hF1 hZ1 hV1 hB1;have eg:=HEG.out
    repeat still_step
    still_call (HOP.out _ _ _)
    repeat still_step
    still_call (HOP.out _ _ _)
    repeat still_step
    still_call (HOP.out _ _ _)
    repeat still_step
    refine wpStill_nil ?_
    change wpList _ _ _ _ _ (World.drew _)
    rw [←HW1.out];have z0:=blk_frozen HF1.out 0;have z1:=blk_frozen HF1.out 1;have z2:=blk_frozen HF1.out 2;have hs1:w.heap.size<W1.heap.size:=blk_lt HF1.out;go_wp2
    have hb:=HBT.out i hlt;rw [HQ.out] at hb;have HH:=Aside0.mk hb;clear hb;go_roundg (l.length - (i+1))
    case measure=>omega
    case rel=>
      refine ⟨i+1,by omega,by omega,by go_num,⟨below_set (below_set (below_set HB1.out (Nat.le_refl _)) (Nat.le_refl _)) (Nat.le_refl _)⟩,⟨?_⟩,⟨blk_far (blk_far (blk_far HZ1.out (by simp) _) (by simp) _) (by simp) _⟩⟩;rw [HH.out];exact blk_put (blk_put (blk_put HF1.out 0 _ rfl) 1 _ rfl) 2 _ rfl
theorem vecAdd1_calls (x y:Int) (W:World):Calls Try.prog 146 #[.int .i64 x, .int .i64 y] W fun e w'=>e= .returned (.int .i64 (wrap64 (x+y)))∧w'=W:=by
 go_enter Try.func146,Try.ntmps146
 go_wp2
 go_ret
 exact ⟨rfl,rfl⟩
def vec_Add.f (l0:List (S37)):Option (Int×Int×Int):=some (vecByF (fun x y=>wrap64 (x+y)) l0 0 0 0)
set_option maxHeartbeats 1000000 in
set_option maxRecDepth 100000 in
theorem vec_Add.calls (A0:Option Addr) (c0:Nat) (l0:List (S37)) (r1:Int) (r2:Int) (r3:Int) (w:World) (hr0:Kd.C k37 w A0 l0.length l0) (hc0:l0.length≤c0) (h:vec_Add.f l0=some (r1,r2,r3)):
  Calls Try.prog 115 #[.slice A0 l0.length c0] w fun e w'=>e= .returned (.agg #[.int .i64 r1, .int .i64 r2, .int .i64 r3])∧Below w.heap.size w w':=by
 have hu37:=Try.underlying37;have hm:l0.length≤maxLen:=hr0.2.1;have HC:=am_ (vecBy_calls 146 (fun x y=>wrap64 (x+y)) (enters_of Try.func146 (by kernel_rfl) rfl) vecAdd1_calls A0 c0 l0 0 0 0 (w.alloc (.cells #[.int .i64 0, .int .i64 0, .int .i64 0] 37)) (Kd.C_below hr0 (below_alloc (Below.refl _ _) _)) hc0 hm);have HH:=Aside0.mk h;clear hr0 h;go_enter Try.func115,Try.ntmps115;go_wp2_with fail
 refine HC.out.mono ?_;rintro e w1 ⟨rfl,hb⟩;have h:=Option.some.inj (show some (vecByF (fun x y=>wrap64 (x+y)) l0 0 0 0)=some (r1,r2,r3) from HH.out);rw [h];have hZ:=blk_below (blk_new w (.cells #[.int .i64 0, .int .i64 0, .int .i64 0] 37)) hb;have HB:=Aside0.mk hb;have HZ:=Aside0.mk hZ;clear h hb hZ;have g0:=zz_ HZ 0;have g1:=zz_ HZ 1;have g2:=zz_ HZ 2;have z0:=blk_frozen HZ.out 0;have z1:=blk_frozen HZ.out 1;have z2:=blk_frozen HZ.out 2;have hs1:w.heap.size<w1.heap.size:=blk_lt HZ.out;go_wp2
 refine bodyPost_ret (results_cell_row rfl _ _ w.heap.size 37 #[.int .i64 r1, .int .i64 r2, .int .i64 r3] (0,0) _ rfl (blk_put (blk_put (blk_put HZ.out 0 _ rfl) 1 _ rfl) 2 _ rfl) Try.underlying37 rfl (by kernel_rfl)) rfl ?_;exact ⟨rfl,below_set (below_set (below_set (below_step (below_alloc (Below.refl _ _) _) HB.out) (Nat.le_refl _)) (Nat.le_refl _)) (Nat.le_refl _)⟩


def tree_Up.l0:Nat→List (S79)→List ByteArray→Int→Option (List ByteArray)
 |0,_,_,_=>none
 |k+1,x0,x5,x6=>if x6≥0 then (if (x5.length:Int)≤(x0.length:Int) then (if 0≤x6 then (if x6<(x0.length:Int) then (if x5.length<8796093022208 then ((tree_Find.f x0 ((rd_T79 x0 x6).f1)).bind fun t7=>(tree_Up.l0 k x0 (x5++ [(rd_T79 x0 x6).f0]) t7)) else (none)) else (none)) else (none)) else (some x5)) else (some x5)
def tree_Up.f (k:Nat) (l0:List (S79)) (a1:ByteArray):Option (List ByteArray):=(tree_Find.f l0 a1).bind fun t1=>(tree_Up.l0 k l0 ([]:List ByteArray) t1)
theorem tree_Up.mono_l: ∀k,(∀y0 y1 y2,LeO (tree_Up.l0 k y0 y1 y2) (tree_Up.l0 (k+1) y0 y1 y2))
 |0=>fun _ _ _ r h=>by simp [tree_Up.l0] at h
 |k+1=>by
  have ih0:=tree_Up.mono_l k;intro y0 y1 y2;unfold tree_Up.l0
  repeat' with_reducible first|apply ih0|apply LeO.refl|apply LeO.none|apply LeO.ite|refine LeO.bind ?_ fun _=> ?_
theorem tree_Up.mono: ∀a0 a1 k,LeO (tree_Up.f k a0 a1) (tree_Up.f (k+1) a0 a1):=by
 intro a0 a1 k;have ih0:=tree_Up.mono_l k;unfold tree_Up.f
 repeat' with_reducible first|apply ih0|apply LeO.refl|apply LeO.none|apply LeO.ite|refine LeO.bind ?_ fun _=> ?_
set_option maxHeartbeats 8000000 in
set_option maxRecDepth 100000 in
theorem tree_Up.calls (k:Nat) (A0:Option Addr) (c0:Nat) (l0:List (S79)) (a1:ByteArray) (r:List ByteArray) (w:World) (hr0:Kd.C k79 w A0 l0.length l0) (hc0:l0.length≤c0) (h:tree_Up.f k l0 a1=some r):
  Calls Try.prog 153 #[.slice A0 l0.length c0, .string a1] w fun e w'=> ∃v0_:Value,e= .returned (v0_)∧Kd.R Kd.string 9 w' w.heap.size (fun _=>True) v0_ r∧Below w.heap.size w w':=by
 have HR0:=Aside0.mk hr0;have HC0:=Aside0.mk hc0;clear hr0 hc0;have HB:=am_ (Below.refl w.heap.size w);have H:((tree_Find.f l0 a1).bind fun t1=>(tree_Up.l0 k l0 ([]:List ByteArray) t1))=some r:=h;clear h;replace H:=zbd_ H;obtain ⟨t1,A3,H⟩:=H;try dsimp only at H
 have H':=Aside0.mk H;clear H;go_enter Try.func153,Try.ntmps153;go_wp2_with (first|((with_reducible refine gate_callee (f:=91) rfl ?_);refine gl_ (some 9) Try.func91 #[.slice A0 l0.length c0, .string a1] ?_;(with_reducible refine (tree_Find.calls _ _ l0 a1 t1 _ ?side1 ?side2 A3.out).mono ?_);(case side1=>repeat (first|exact HR0.out|(with_reducible refine Kd.C_alloc ?_ _)|(with_reducible refine Kd.C_drewN ?_ _)|(with_reducible refine Kd.C_drew ?_)));(case side2=>exact HC0.out);rintro e w4 ⟨rfl,hb⟩;refine ⟨_,rfl, ?_⟩;replace HB:=am_ (below_step (zl0_ HB) hb);(try clear hb)))
 go_loopg [5,6] k (fun kq v5 v6 w'=> ∃(x5_1:List ByteArray) (x6_1:Int),v6= .int .i64 x6_1∧Aside0 (tree_Up.l0 kq l0 x5_1 x6_1=some r)∧Aside0 (kq≤k)∧Aside0 (Kd.R Kd.string 9 w' w.heap.size (fun _=>True) v5 x5_1)∧Aside0 (Below w.heap.size w w'))
 case atStart=>exact ⟨(([]:List ByteArray)),(t1),rf_,H',⟨Nat.le_refl _⟩,⟨by first|exact Kd.R_nil _ _ _ _ _|exact Kd.N_nil _ _ _ _ _|exact Kd.V_nil _ _ _ _ _|exact Kd.Q_nil _ _ _ _ _|exact Kd.S_nil _ _ _ _ _⟩,⟨zl0_ HB⟩⟩
 case round=>
  clear H';obtain ⟨x5_1,x6_1,rfl,HA,HK1,HO_5,HB⟩:=hrel
  cases gk with
  |zero=>exact absurd HA.out (by simp [tree_Up.l0])
  |succ k1=>
   have H:=HA.out;clear HA;simp only [tree_Up.l0] at H;by_cases c5:x6_1≥0;rotate_left
   ·rw [if_neg c5] at H;have c5b0:decide (0≤x6_1)=false:=decide_eq_false c5;clear c5;obtain rfl:=Option.some.inj H;go_wp2
    go_ret
    exact ⟨_,by first|rfl|(simp [errW_none,errW_some]<;>rfl)|(simp [*,errW_none,errW_some]<;>rfl),zr_ HO_5,zl0_ HB⟩

   rw [if_pos c5] at H;have c5b0:decide (0≤x6_1)=true:=decide_eq_true c5;clear c5;by_cases c6:(x5_1.length:Int)≤(l0.length:Int);rotate_left
   ·rw [if_neg c6] at H;have c6b0:=decide_eq_false c6;have c6b1:decide (x5_1.length≤l0.length)=false:=decide_eq_false (fun h=>c6 (Int.ofNat_le.mpr h));clear c6;obtain rfl:=Option.some.inj H;obtain ⟨Ao14,co14,eo14⟩:=Kd.R_slice HO_5.out;subst eo14;go_wp2
    go_ret
    exact ⟨_,by first|rfl|(simp [errW_none,errW_some]<;>rfl)|(simp [*,errW_none,errW_some]<;>rfl),zr_ HO_5,zl0_ HB⟩
   rw [if_pos c6] at H;have c6b0:=decide_eq_true c6;have c6b1:decide (x5_1.length≤l0.length)=true:=decide_eq_true (Int.ofNat_le.mp c6);clear c6;replace H:=zif_ H;obtain ⟨c7,H⟩:=H;have c7b0:=decide_eq_true c7;clear c7;replace H:=zif_ H;obtain ⟨c8,H⟩:=H;have c8b0:=decide_eq_true c8;clear c8;replace H:=zif_ H;obtain ⟨c9,H⟩:=H;have LMc9:=Aside0.mk c9;clear c9;obtain ⟨y3,hy3⟩: ∃y_:List ByteArray,y_=(x5_1++ [(rd_T79 l0 x6_1).f0]):=⟨_,rfl⟩;(first|replace H:=zsb_ hy3 H|rw [←hy3] at H);have Ny3:=Aside0.mk hy3;clear hy3;replace H:=zbd_ H;obtain ⟨t7,A10,H⟩:=H;try dsimp only at H
   have H':=Aside0.mk H;clear H;obtain ⟨Ao11,co11,eo11⟩:=Kd.R_slice HO_5.out;subst eo11;obtain ⟨p2,q2,ad2,e2,hx2_0,hx2_1,hx2_2,hx2_3,hx2_4,hx2_5,hx2_6,hx2_7,hx2_8,hx2_9,hx2_10,hx2_11⟩:=zat_ (at_T79 HR0.out x6_1);cases e2;replace hx2_0:=zx12_ HB hx2_0 hx2_1 hx2_2 hx2_3 hx2_4 hx2_5 hx2_6 hx2_7 hx2_8 hx2_9 hx2_10 hx2_11;clear hx2_1 hx2_2 hx2_3 hx2_4 hx2_5 hx2_6 hx2_7 hx2_8 hx2_9 hx2_10 hx2_11;obtain ⟨hx2_0,hx2_1,hx2_2,hx2_3,hx2_4,hx2_5,hx2_6,hx2_7,hx2_8,hx2_9,hx2_10,hx2_11⟩:=hx2_0
   go_wp2_with (first|((with_reducible refine gate_builtin (b:= .append) (xs:=#[.tmp 26, .tmp 32]) rfl ?_);(try (refine gate_guard (by rfl) ?_;dsimp only));at_builtin;refine Kd.R_append Kd.string (w0:=w) w.heap.size rfl (.tmp 26) (.tmp 32) 85 9 (.string ⟨#[]⟩) 16 rfl Try.underlying85 info9 rfl (by decide) (by omega) (.slice Ao11 x5_1.length co11) x5_1 ((rd_T79 l0 x6_1).f0) [.string ((rd_T79 l0 x6_1).f0)] (fun _=>True) (fun _=>False) rfl rfl ?aP (fun _ hk=>hk.elim) ?aF ?aO ?aB ?aS ?aL ?_;(case aP=>exact rfl);(case aB=>exact (zl0_ HB));(case aF=>exact (fun _ _=>trivial));(case aO=>exact (zr_ HO_5));(case aS=>exact (below_size (zl0_ HB)));(case aL=>have:=LMc9.out;omega);intro v4 w12 ho hb hg hat;rw [←Ny3.out] at ho;have n0_:=am_ (hb);have n1_:=am_ (ho);clear HB;clear HO_5;have HB:=n0_;have HO5:=n1_;clear n0_ n1_;clear ho hb hg hat;have p6:0≤(x6_1:Int):=of_decide_eq_true zq_;have q6:x6_1<(l0.length:Int):=of_decide_eq_true zq_;obtain ⟨ad6,e6,hx6_0,hx6_1,hx6_2,hx6_3,hx6_4,hx6_5,hx6_6,hx6_7,hx6_8,hx6_9,hx6_10,hx6_11⟩:=at_T79 HR0.out x6_1 p6 q6;obtain rfl:ad2=ad6:=(by injection e6);replace hx6_0:=zx12_ HB hx6_0 hx6_1 hx6_2 hx6_3 hx6_4 hx6_5 hx6_6 hx6_7 hx6_8 hx6_9 hx6_10 hx6_11;clear hx6_1 hx6_2 hx6_3 hx6_4 hx6_5 hx6_6 hx6_7 hx6_8 hx6_9 hx6_10 hx6_11;obtain ⟨hx6_0,hx6_1,hx6_2,hx6_3,hx6_4,hx6_5,hx6_6,hx6_7,hx6_8,hx6_9,hx6_10,hx6_11⟩:=hx6_0;replace p6:=eq_true p6;replace q6:=eq_true q6)|((with_reducible refine gate_callee (f:=91) rfl ?_);refine gl_ (some 25) Try.func91 #[.slice (some ad2) l0.length c0, .string ((rd_T79 l0 x6_1).f1)] ?_;(with_reducible refine (tree_Find.calls _ _ l0 ((rd_T79 l0 x6_1).f1) t7 _ ?side1 ?side2 A10.out).mono ?_);(case side1=>exact zc_ (Kd.C_below HR0.out HB.out));(case side2=>exact HC0.out);rintro e w13 ⟨rfl,hb⟩;refine ⟨_,rfl, ?_⟩;replace HO5:=ob_ HO5 hb;replace HB:=am_ (below_step (zl0_ HB) hb);(try clear hb)))
   go_roundg k1
   case measure=>have:=HK1.out;omega
   case rel=>exact ⟨(y3),(t7),rf_,H',⟨by have:=HK1.out;omega⟩,am_ (zr_ HO5),⟨zl0_ HB⟩⟩
def slices_Index_string_string.l0:Nat→List ByteArray→ByteArray→Int→Int→Option (Int)
 |0,_,_,_,_=>none
 |k+1,x0,x1,x7,x8=>if x8<x7 then (if 0≤x8 then (if x8<(x0.length:Int) then (if x1.toList=(rdOf ByteArray.empty x0 x8).toList then (some x8) else (slices_Index_string_string.l0 k x0 x1 x7 (wrap64 (x8+1)))) else (none)) else (none)) else (some (-1))
def slices_Index_string_string.f (k:Nat) (l0:List ByteArray) (a1:ByteArray):Option (Int):=slices_Index_string_string.l0 k l0 a1 (l0.length:Int) 0
theorem slices_Index_string_string.mono_l: ∀k,(∀y0 y1 y2 y3,LeO (slices_Index_string_string.l0 k y0 y1 y2 y3) (slices_Index_string_string.l0 (k+1) y0 y1 y2 y3))
 |0=>fun _ _ _ _ r h=>by simp [slices_Index_string_string.l0] at h
 |k+1=>by
  have ih0:=slices_Index_string_string.mono_l k;intro y0 y1 y2 y3;unfold slices_Index_string_string.l0
  repeat' with_reducible first|apply ih0|apply LeO.refl|apply LeO.none|apply LeO.ite|refine LeO.bind ?_ fun _=> ?_
theorem slices_Index_string_string.mono: ∀a0 a1 k,LeO (slices_Index_string_string.f k a0 a1) (slices_Index_string_string.f (k+1) a0 a1):=by
 intro a0 a1 k;have ih0:=slices_Index_string_string.mono_l k;unfold slices_Index_string_string.f
 repeat' with_reducible first|apply ih0|apply LeO.refl|apply LeO.none|apply LeO.ite|refine LeO.bind ?_ fun _=> ?_
set_option maxHeartbeats 8000000 in
set_option maxRecDepth 100000 in
theorem slices_Index_string_string.calls (k:Nat) (A0:Option Addr) (c0:Nat) (l0:List ByteArray) (a1:ByteArray) (r:Int) (w:World) (hr0:Kd.C Kd.string w A0 l0.length l0) (hc0:l0.length≤c0) (h:slices_Index_string_string.f k l0 a1=some r):
  Calls Try.prog 174 #[.slice A0 l0.length c0, .string a1] w fun e w'=>e= .returned (.int .i64 r)∧Drawn0 w w':=by
 have HR0:=Aside0.mk hr0;have HC0:=Aside0.mk hc0;clear hr0 hc0;have H:(slices_Index_string_string.l0 k l0 a1 (l0.length:Int) 0)=some r:=h;clear h;have H':=Aside0.mk H;clear H;go_enter Try.func174,Try.ntmps174;go_wp2
 go_loopg [8] k (fun kq v8 w'=> ∃(x8_1:Int),v8= .int .i64 x8_1∧Aside0 (slices_Index_string_string.l0 kq l0 a1 (l0.length:Int) x8_1=some r)∧Aside0 (kq≤k)∧Drawn0 w w')
 case atStart=>exact ⟨(0),rf_,H',⟨Nat.le_refl _⟩,by repeat (first|exact Drawn0.refl _|apply Drawn0.step)⟩
 case round=>
  clear H';obtain ⟨x8_1,rfl,HA,HK1,⟨m1,rfl⟩⟩:=hrel
  cases gk with
  |zero=>exact absurd HA.out (by simp [slices_Index_string_string.l0])
  |succ k1=>
   have H:=HA.out;clear HA;simp only [slices_Index_string_string.l0] at H;by_cases c3:x8_1<(l0.length:Int);rotate_left
   ·rw [if_neg c3] at H;have c3b0:=decide_eq_false c3;clear c3;obtain rfl:=Option.some.inj H;go_wp2
    go_ret
    exact ⟨by first|rfl|(simp;done)|(simp [*];done),by repeat (first|exact Drawn0.refl _|apply Drawn0.step)⟩

   rw [if_pos c3] at H;have c3b0:=decide_eq_true c3;clear c3;replace H:=zif_ H;obtain ⟨c4,H⟩:=H;have c4b0:=decide_eq_true c4;clear c4;replace H:=zif_ H;obtain ⟨c5,H⟩:=H;have c5b0:=decide_eq_true c5;clear c5;by_cases c6:a1.toList=(rdOf ByteArray.empty l0 x8_1).toList
   ·rw [if_pos c6] at H;have c6b0:=beq_iff_eq.mpr c6;have c6b1:=bne_eq_false_iff_eq.mpr c6;clear c6;obtain rfl:=Option.some.inj H;obtain ⟨p1,q1,ad1,e1,hx1_0⟩:=zat_ (Kd.at_string HR0.out x8_1);cases e1;go_wp2
    go_ret
    exact ⟨by first|rfl|(simp;done)|(simp [*];done),by repeat (first|exact Drawn0.refl _|apply Drawn0.step)⟩
   rw [if_neg c6] at H;have c6b0:=beq_eq_false_iff_ne.mpr c6;have c6b1:=bne_iff_ne.mpr c6;have H':=Aside0.mk H;clear H;obtain ⟨p1,q1,ad1,e1,hx1_0⟩:=zat_ (Kd.at_string HR0.out x8_1);cases e1;go_wp2
   go_roundg k1
   case measure=>have:=HK1.out;omega
   case rel=>exact ⟨(wrap64 (x8_1+1)),rf_,H',⟨by have:=HK1.out;omega⟩,by repeat (first|exact Drawn0.refl _|apply Drawn0.step)⟩
def slices_Contains_string_string.f (k:Nat) (l0:List ByteArray) (a1:ByteArray):Option (Bool):=(slices_Index_string_string.f k l0 a1).bind fun t1=>(some (decide (t1≥0)))
theorem slices_Contains_string_string.mono: ∀a0 a1 k,LeO (slices_Contains_string_string.f k a0 a1) (slices_Contains_string_string.f (k+1) a0 a1):=by
 intro a0 a1 k;unfold slices_Contains_string_string.f
 repeat' with_reducible first|apply slices_Index_string_string.mono|apply LeO.refl|apply LeO.none|apply LeO.ite|refine LeO.bind ?_ fun _=> ?_
set_option maxHeartbeats 8000000 in
set_option maxRecDepth 100000 in
theorem slices_Contains_string_string.calls (k:Nat) (A0:Option Addr) (c0:Nat) (l0:List ByteArray) (a1:ByteArray) (r:Bool) (w:World) (hr0:Kd.C Kd.string w A0 l0.length l0) (hc0:l0.length≤c0) (h:slices_Contains_string_string.f k l0 a1=some r):
  Calls Try.prog 160 #[.slice A0 l0.length c0, .string a1] w fun e w'=>e= .returned (.bool r)∧Drawn0 w w':=by
 have HR0:=Aside0.mk hr0;have HC0:=Aside0.mk hc0;clear hr0 hc0;have H:((slices_Index_string_string.f k l0 a1).bind fun t1=>(some (decide (t1≥0))))=some r:=h;clear h;replace H:=zbd_ H;obtain ⟨t1,A3,H⟩:=H;try dsimp only at H
 obtain rfl:=Option.some.inj H;go_enter Try.func160,Try.ntmps160;go_wp2_with (first|((with_reducible refine gate_callee (f:=174) rfl ?_);refine gl_ (some 7) Try.func174 #[.slice A0 l0.length c0, .string a1] ?_;(with_reducible refine (slices_Index_string_string.calls k _ _ l0 a1 t1 _ ?side1 ?side2 A3.out).mono ?_);(case side1=>repeat (first|exact HR0.out|(with_reducible refine Kd.C_alloc ?_ _)|(with_reducible refine Kd.C_drewN ?_ _)|(with_reducible refine Kd.C_drew ?_)));(case side2=>exact HC0.out);rintro e w' ⟨rfl,⟨nd,rfl⟩⟩;refine ⟨_,rfl, ?_⟩))
 go_ret
 exact ⟨by first|rfl|(simp;done)|(simp [*];done),by repeat (first|exact Drawn0.refl _|apply Drawn0.step)⟩

end Go.Proofs.Ytahidkjncljkaaa.Print

namespace Go.Proofs.Ytahidkjncljkaaa.Print
open Go.RowKit Go.Proofs.YtahidkjncljkaaaW.PrintWords Go.Proofs.YtahidkjncljkaaaW.PrintLast Go.Proofs.YtahidkjncljkaaaW.PrintMore
theorem at_str {w:World} {A:Option Addr} {n:Nat} {xs:List ByteArray} (h:Kd.C Kd.string w A n xs) (i:Int) (h0:0≤i) (h1:i<n): ∃ad,A=some ad∧w.cell? (ad.add i.toNat)=some (.string (rdOf ByteArray.empty xs i)):=by
 obtain ⟨ad,c,e,_,hK,hc⟩:=Kd.C_get h ByteArray.empty i h0 h1;have hc0: ∀j u,c[j]?=some u→w.cell? (ad.add (i.toNat*1+j))=some u:=hc;obtain rfl:c=[.string (xs.getD i.toNat ByteArray.empty)]:=hK;have:=hc0 0 _ rfl
 rw [Nat.mul_one,Nat.add_zero] at this;exact ⟨ad,e,this⟩
end Go.Proofs.Ytahidkjncljkaaa.Print

namespace Go.Proofs.Ytahidkjncljkaaa.Print
open Go.RowKit Go.Proofs.YtahidkjncljkaaaW.PrintWords Go.Proofs.YtahidkjncljkaaaW.PrintLast Go.Proofs.YtahidkjncljkaaaW.PrintMore
attribute [local go_sem] max2_int min2_int max_two min_two max_three min_three max_four min_four

set_option maxHeartbeats 8000000 in
set_option maxRecDepth 100000 in
theorem shapeShift_calls (g:Nat) (lb:Array Value) (op:S37→S37) (gS:Nat) (ob:Obj) (base bu:Nat) (v:Value) (out r:List S79) (j0:Int) (Au:Option Addr) (cu:Nat) (us:List ByteArray) (w:World)
    (eg: ∀args w,(callFunc g args).run Try.prog w= .ok (.enter g args) w) (hr:Kd.R k79 79 w base (fun _=>True) v out) (hbase:base≤w.heap.size) (hs:w.heap[gS]?=some ob) (hne:some gS≠v.ownBlock)
    (hu:Kd.R Kd.string 9 w bu (fun _=>True) (.slice Au us.length cu) us)
    (hp: ∀W' u,W'.heap[gS]?=some ob→Calls Try.prog g (#[.agg #[.int .i64 u.f0, .int .i64 u.f1, .int .i64 u.f2]]++lb) W' fun e w'=>e= .returned (.agg #[.int .i64 (op u).f0, .int .i64 (op u).f1, .int .i64 (op u).f2])∧Below W'.heap.size W' w')
    (h:shiftF op us out=some r):
    Calls Try.prog 161 #[.agg #[v, .int .i64 j0], .slice Au us.length cu, .func (.func g) #[] lb] w fun e w'=>e= .returned (.tuple #[])∧Kd.R k79 79 w' base (fun _=>True) v r∧Turned w w' base v:=by
  have hu197:=Try.underlying197
  have hu195:=Try.underlying195
  have hu79:=Try.underlying79
  have hu37:=Try.underlying37
  have hm:us.length≤9223372036854775807:=(Kd.R_reads' hu).2.2.2.1
  have hm2:out.length≤9223372036854775807:=by obtain ⟨A,c,rfl,_,hh⟩:=Kd.R_reads hr;exact hh.2.1
  have HO:=Aside0.mk hr
  have HU:=Aside0.mk hu
  have HP:=Aside0.mk hp
  have HS:=Aside0.mk hs
  have HF:=Aside0.mk h
  have HNE:=Aside0.mk hne
  have HB:=am_ (Below.refl w.heap.size w)
  have HBS:=Aside0.mk hbase
  have HLT:=am_ (Kd.R_lt hr)
  obtain ⟨A5,c5,rfl⟩: ∃A5 c5,v= .slice A5 out.length c5:=Kd.R_slice hr
  clear hr hu hp hs hne h hbase
  obtain ⟨n,hn⟩: ∃n,n=out.length:=⟨_,rfl⟩
  rw [←hn] at HO HNE HLT hm2 ⊢
  have HN:=Aside0.mk hn.symm
  clear hn
  go_enter Try.func161,Try.ntmps161
  go_wp2_with (first|((with_reducible refine gate_dst (N:=3) rfl ?_);refine bx_ (N:=3) (cs:=#[.slice A5 n c5, .int .i64 j0]) (t:=197) ?_;intro gb3 hg w1 hbox hb;replace HO:=am_ (Kd.R_below HO.out hb);replace HU:=am_ (Kd.R_below HU.out hb);replace HS:=am_ (blk_below HS.out hb);have BK3:=am_ (hbox);have GE3:=am_ ((by rw [hg];exact below_size HB.out:w.heap.size≤gb3));replace HB:=am_ (below_step HB.out hb);have EQ3:=am_ (hg);clear hb hbox hg;have cgb3_0:=(blk_cell BK3.out 0).trans rfl;have cgb3_1:=(blk_cell BK3.out 1).trans rfl))
  have NE3:=am_ (show some gb3≠(Value.slice A5 n c5).ownBlock from fun e=>by have:=HLT.out _ e.symm;have:=EQ3.out;omega)
  have HT:=am_ (Turned.of_below (base:=base) (v:= .slice A5 n c5) HB.out HBS.out)
  clear HB GE3 EQ3
  go_loopg [7,8,11] us.length (fun kq s7 s8 s11 wr=> ∃(i:Nat) (cur:List S79),i≤us.length∧us.length - i≤kq∧s11= .int .i64 i∧Aside0 (cur.length=n)∧Aside0 (shiftF op (us.drop i) cur=some r)∧Aside0 (Turned w wr base (.slice A5 n c5))∧Aside0 (wr.heap[gb3]?=some (.cells #[.slice A5 n c5, .int .i64 j0] 197 (0,0)))∧Aside0 (wr.heap[gS]?=some ob)∧Aside0 (Kd.R k79 79 wr base (fun _=>True) (.slice A5 n c5) cur)∧Aside0 (Kd.R Kd.string 9 wr bu (fun _=>True) (.slice Au us.length cu) us))
  case atStart=>exact ⟨0,out,by omega,by omega,rfl,HN,HF,HT,BK3,HS,HO,HU⟩
  case round=>
    clear HO BK3 HT HF HS HU HN cgb3_0 cgb3_1
    obtain ⟨i,cur,hi,hg,rfl,HN,HF,HT,BK3,HS,HO,HU⟩:=hrel
    have cgb3_0:=(blk_cell BK3.out 0).trans rfl
    have cgb3_1:=(blk_cell BK3.out 1).trans rfl
    by_cases hlt:i<us.length
    rotate_left
    · obtain rfl : i = us.length := by omega
      have hf:=HF.out
      rw [List.drop_length] at hf
      cases hf
      go_wp2_with fail
      first|go_end0|refine bodyPost_end (results_none rfl _ _ _) rfl ?_
      exact ⟨rfl,HO.out,HT.out⟩


    have hltz:(i:Int)<(us.length:Int):=by omega
    have hdr:us.drop i=us[i]::us.drop (i+1):=List.drop_eq_getElem_cons hlt
    have hf:=HF.out
    rw [hdr] at hf
    unfold shiftF at hf
    obtain ⟨j,hj,hf2⟩:=Option.bind_eq_some_iff.1 hf
    split at hf2
    case isFalse=>cases hf2
    case isTrue hjb=>
    obtain ⟨hj0,hj1⟩:=hjb
    have hst:rdOf ByteArray.empty us (i:Int)=us[i]:=by simp [rdOf,hlt]
    rw [←hst] at hj
    obtain ⟨ad,e1,h0⟩:=at_str (Kd.R_reads' HU.out).2.2 (i:Int) (by omega) (by omega)
    cases e1
    simp only [Int.toNat_natCast] at h0
    obtain ⟨gb,cap,hv5,hgb,hgl⟩:=sh_head HO.out (by omega)
    rw [HN.out] at hv5
    cases hv5
    have hcs:=sh_cells' HO.out HN.out j hj0 (by rw [HN.out] at hj1;exact hj1)
    have HJ:=Aside0.mk hj
    have HF2:=Aside0.mk hf2
    have HJ0:=Aside0.mk hj0
    have HJ1:=am_ (show j<(n:Int) from by rw [HN.out] at hj1;exact hj1)
    generalize hy:rd_T79 cur j=y at hcs
    have HY:=Aside0.mk hy
    have HCS:=Aside0.mk hcs
    have HGB:=Aside0.mk hgb
    have HGL:=Aside0.mk hgl
    have HB0:=am_ (Below.refl wr.heap.size wr)
    have q0:(0≤j)=True:=eq_true hj0
    have q1:(j<(n:Int))=True:=eq_true HJ1.out
    have hB0:Below wr.heap.size wr wr:=Below.refl _ _
    have hBd:Below wr.heap.size wr wr.drew:=below_drew hB0
    clear hf hf2 hdr hst hcs hy hgb hgl hj hj0 hj1 HF
    go_wp2_with fail
    go_region_held3 (fun w'=>w'.cell? ⟨gb3,0,none⟩=some (.slice (some ⟨gb,0,none⟩) n c5)∧Below wr.heap.size wr w')
      (first|(go_keep;done)|(go_split_ands;refine ⟨?_, ?_⟩<;>first|exact below_step (by assumption) hb|exact pw_cell_below hb (by first|assumption|(go_keep;done))))
      (first|(go_at_call 91;refine calls_of_args (args':=#[.slice (some ⟨gb,0,none⟩) cur.length c5, .string (rdOf ByteArray.empty us i)]) (by rw [HN.out]) ((tree_Find.calls _ _ cur _ j _ (Kd.R_reads' (HN.out▸Kd.R_below HO.out (by first|assumption|(go_split_ands;assumption)))).2.2 (by have:=(Kd.R_reads' HO.out).2.1;rw [HN.out];exact this) HJ.out).mono ?_);rintro e w' ⟨rfl,hb⟩))
    rename_i hHeld
    have hBz:Below wr.heap.size wr w':=hHeld.2
    clear hHeld hB0 hBd cgb3_0 cgb3_1 h0
    (try clear hb)
    have HT4:=am_ (HT.out.below_ (Nat.le_trans HBS.out HT.out.below.size) hBz)
    have BK4:=am_ (blk_below BK3.out hBz)
    have HS4:=am_ (blk_below HS.out hBz)
    have HO4:=am_ (Kd.R_below HO.out hBz)
    have HU4:=am_ (Kd.R_below HU.out hBz)
    have HGL4:=am_ (Nat.lt_of_lt_of_le HGL.out hBz.size)
    have HCS4:=am_ (fun j' u hu=>(hBz.cell (p:=⟨gb,j.toNat*12+j',none⟩) HGL.out).trans (HCS.out j' u hu))
    clear hBz HT BK3 HS HO HU HGL HCS
    have k8:w'.cell? ⟨gb,j.toNat*12+8,none⟩=some (.int .i64 y.f4.f0):=HCS4.out 8 _ rfl
    have k9:w'.cell? ⟨gb,j.toNat*12+8+1,none⟩=some (.int .i64 y.f4.f1):=HCS4.out 9 _ rfl
    have k10:w'.cell? ⟨gb,j.toNat*12+8+2,none⟩=some (.int .i64 y.f4.f2):=HCS4.out 10 _ rfl
    go_wp2_with fail
    refine (HP.out w' y.f4 HS4.out).mono ?_
    rintro e w4 ⟨rfl,hb⟩
    have HT5:=am_ (HT4.out.below_ (Nat.le_trans HBS.out HT4.out.below.size) hb)
    have BK5:=am_ (blk_below BK4.out hb)
    have HS5:=am_ (blk_below HS4.out hb)
    have HO5:=am_ (Kd.R_below HO4.out hb)
    have HU5:=am_ (Kd.R_below HU4.out hb)
    have HCS5:=am_ (fun j' u hu=>(hb.cell (p:=⟨gb,j.toNat*12+j',none⟩) HGL4.out).trans (HCS4.out j' u hu))
    clear hb HT4 BK4 HS4 HO4 HU4 HCS4 k8 k9 k10
    clear eg
    go_wp2_with ((with_reducible refine gate_store (t:=37) (p:=32) (v:= .tmp 30) rfl ?_);refine Kd.R_store k79 (w0:=w4) base rfl rfl 37 (.tmp 32) (.tmp 30) rfl 79 (g:=gb) (n:=n) (cap:=c5) (o':=j.toNat*12+8) j 8 cur (shSub op y) (.agg #[.int .i64 (op y.f4).f0, .int .i64 (op y.f4).f1, .int .i64 (op y.f4).f2]) [.int .i64 (op y.f4).f0, .int .i64 (op y.f4).f1, .int .i64 (op y.f4).f2] (shCells y) (fun _=>True) (fun _=>False) rfl rfl rfl rfl ?ct ?c1 HO5.out ?c2 ?c3 rfl HCS5.out (by show 8+3≤12;omega) ?cM (fun _ h=>h.elim) (Below.refl _ _) ?_;(case ct=>kernel_rfl);(case c1=>intro q hq;simp only [List.mem_cons,List.not_mem_nil,or_false] at hq;rcases hq with rfl|rfl|rfl<;>rfl);(case c2=>exact HJ0.out);(case c3=>exact HJ1.out);(case cM=>exact k79_mkM _ _ _ (shSub op y));intro w5 ho hb hg;have HO6:=Aside0.mk ho;have HG6:=Aside0.mk hg;clear ho hb hg)
    have HT6:=am_ (HT5.out.grown_ (Nat.le_trans HBS.out HT5.out.below.size) HGB.out HG6.out)
    have BK6:=am_ (blk_put_other BK5.out HG6.out (fun e=>NE3.out (by rw [e];rfl)))
    have HS6:=am_ (blk_put_other HS5.out HG6.out (fun e=>HNE.out (by rw [e];rfl)))
    have HU6:=am_ (R_turned HU5.out HO5.out (by decide) ((Turned.of_below (Below.refl _ _) (Nat.le_trans HBS.out HT5.out.below.size)).then_grown (Nat.le_trans HBS.out HT5.out.below.size) HGB.out HG6.out))
    go_roundg (us.length - (i+1))
    case measure=>omega
    case rel=>
      refine ⟨i+1,cur.set j.toNat (shSub op y),by omega,by omega,by go_num,⟨by rw [List.length_set];exact HN.out⟩,⟨?_⟩,HT6,BK6,HS6,HO6,HU6⟩
      have:=HF2.out
      rw [HY.out] at this
      exact this
theorem vecSub1_calls (x y:Int) (W:World):Calls Try.prog 175 #[.int .i64 x, .int .i64 y] W fun e w'=>e= .returned (.int .i64 (wrap64 (x - y)))∧w'=W:=by
 go_enter Try.func175,Try.ntmps175
 go_wp2
 go_ret
 exact ⟨rfl,rfl⟩
theorem vec_one_row {W:World} {g:Nat} (x:S37) (h:W.heap[g]?=some (.cells #[.int .i64 x.f0, .int .i64 x.f1, .int .i64 x.f2] 37 (0,0))):Kd.C k37 W (some ⟨g,0,none⟩) [x].length [x]:=by
 refine ⟨rfl,by simp,fun _=>⟨_,rfl,fun j p hj=> ?_⟩⟩
 obtain ⟨rfl,rfl⟩:j=0∧x=p:=by
  cases j with
  |zero=>exact ⟨rfl,by simpa using hj⟩
  |succ j=>simp at hj
 refine ⟨_,rfl,k37_mk W x,fun i u hi=> ?_⟩
 rw [Addr.add_lit,blk_cell h,←hi]
 simp
theorem vec_two_row {W:World} {g:Nat} (x y:S37) (h:W.heap[g]?=some (.cells #[.int .i64 x.f0, .int .i64 x.f1, .int .i64 x.f2, .int .i64 y.f0, .int .i64 y.f1, .int .i64 y.f2] 37 (0,0))):Kd.C k37 W (some ⟨g,0,none⟩) [x,y].length [x,y]:=by
  refine ⟨rfl,by simp,fun _=>⟨_,rfl,fun j p hj=> ?_⟩⟩
  match j,hj with
  | 0, hj =>
    obtain rfl:x=p:=by simpa using hj
    refine ⟨_,rfl,k37_mk W x,fun i u hi=> ?_⟩
    rw [Addr.add_lit,blk_cell h]
    match i,hi with
    |0,hi=>exact hi
    |1,hi=>exact hi
    |2,hi=>exact hi
    |i+3,hi=>simp at hi
  | 1, hj =>
    obtain rfl:y=p:=by simpa using hj
    refine ⟨_,rfl,k37_mk W y,fun i u hi=> ?_⟩
    rw [Addr.add_lit,blk_cell h]
    match i,hi with
    |0,hi=>exact hi
    |1,hi=>exact hi
    |2,hi=>exact hi
    |i+3,hi=>simp at hi
  |j+2,hj=>simp at hj
def vec_Sub.f (a0_0:Int) (a0_1:Int) (a0_2:Int) (a1_0:Int) (a1_1:Int) (a1_2:Int):Option (Int×Int×Int):=some (wrap64 (a0_0 - a1_0),wrap64 (a0_1 - a1_1),wrap64 (a0_2 - a1_2))
set_option maxHeartbeats 1000000 in
set_option maxRecDepth 100000 in
theorem vec_Sub.calls (a0_0:Int) (a0_1:Int) (a0_2:Int) (a1_0:Int) (a1_1:Int) (a1_2:Int) (r1:Int) (r2:Int) (r3:Int) (w:World) (h:vec_Sub.f a0_0 a0_1 a0_2 a1_0 a1_1 a1_2=some (r1,r2,r3)):
  Calls Try.prog 163 #[.agg #[.int .i64 a0_0, .int .i64 a0_1, .int .i64 a0_2], .agg #[.int .i64 a1_0, .int .i64 a1_1, .int .i64 a1_2]] w fun e w'=>e= .returned (.agg #[.int .i64 r1, .int .i64 r2, .int .i64 r3])∧Below w.heap.size w w':=by
 have hu37:=Try.underlying37;have HC:=am_ (fun (W:World) (g:Nat) (hb:W.heap[g]?=some (.cells #[.int .i64 a1_0, .int .i64 a1_1, .int .i64 a1_2] 37 (0,0)))=>vecBy_calls 175 (fun x y=>wrap64 (x - y)) (enters_of Try.func175 (by kernel_rfl) rfl) vecSub1_calls (some ⟨g,0,none⟩) 1 [⟨a1_0,a1_1,a1_2⟩] a0_0 a0_1 a0_2 W (vec_one_row ⟨a1_0,a1_1,a1_2⟩ hb) (Nat.le_refl _) (by simp [maxLen]));have HH:=Aside0.mk h;clear h;go_enter Try.func163,Try.ntmps163;go_wp2_with fail
 obtain ⟨w3,hw3⟩: ∃w3,w3=((w.alloc (.cells #[.int .i64 a0_0, .int .i64 a0_1, .int .i64 a0_2] 37)).alloc (.cells #[.int .i64 a1_0, .int .i64 a1_1, .int .i64 a1_2] 37)).alloc (.cells #[.int .i64 0, .int .i64 0, .int .i64 0] 37):=⟨_,rfl⟩;have hs3:w3.heap.size=w.heap.size+1+1+1:=by rw [hw3];simp
 have hz3:w3.heap[w.heap.size+1+1]?=some (.cells #[.int .i64 0, .int .i64 0, .int .i64 0] 37 (0,0)):=by rw [hw3];have:=blk_new ((w.alloc (.cells #[.int .i64 a0_0, .int .i64 a0_1, .int .i64 a0_2] 37)).alloc (.cells #[.int .i64 a1_0, .int .i64 a1_1, .int .i64 a1_2] 37)) (.cells #[.int .i64 0, .int .i64 0, .int .i64 0] 37);simpa using this
 have hb3:Below w.heap.size w w3:=by rw [hw3];exact below_alloc (below_alloc (below_alloc (Below.refl _ _) _) _) _
 rw [←hw3,←hs3];clear hw3;have hn:=blk_new w3 (.cells #[.int .i64 a1_0, .int .i64 a1_1, .int .i64 a1_2] 37);refine (HC.out _ _ hn).mono ?_;rintro e w1 ⟨rfl,hb⟩;have h:=Option.some.inj (show some (vecByF (fun x y=>wrap64 (x - y)) [⟨a1_0,a1_1,a1_2⟩] a0_0 a0_1 a0_2)=some (r1,r2,r3) from HH.out);rw [h];have HB:=am_ (below_step (below_step hb3 (below_alloc (Below.refl _ _) _)) hb);have HZ:=am_ (blk_below (blk_alloc hz3 (.cells #[.int .i64 a1_0, .int .i64 a1_1, .int .i64 a1_2] 37)) hb);clear h hb hn hb3 hz3 HC;have HS3:=Aside0.mk hs3;clear hs3;have g0:=zz_ HZ 0;have g1:=zz_ HZ 1;have g2:=zz_ HZ 2;have z0:=blk_frozen HZ.out 0;have z1:=blk_frozen HZ.out 1;have z2:=blk_frozen HZ.out 2;have hs1:w.heap.size+1+1<w1.heap.size:=blk_lt HZ.out;go_wp2
 refine bodyPost_ret (results_cell_row rfl _ _ (w.heap.size+1+1) 37 #[.int .i64 r1, .int .i64 r2, .int .i64 r3] (0,0) _ rfl (blk_put (blk_put (blk_put HZ.out 0 _ rfl) 1 _ rfl) 2 _ rfl) Try.underlying37 rfl (by kernel_rfl)) rfl ?_;have hle:w.heap.size≤w.heap.size+1+1:=by omega
 exact ⟨rfl,below_set (below_set (below_set HB.out hle) hle) hle⟩


def mvAdd (v u:S37):S37:=⟨((vec_Add.f [u,v]).getD (0,0,0)).1,((vec_Add.f [u,v]).getD (0,0,0)).2.1,((vec_Add.f [u,v]).getD (0,0,0)).2.2⟩
def mvSub (v u:S37):S37:=⟨wrap64 (u.f0 - v.f0),wrap64 (u.f1 - v.f1),wrap64 (u.f2 - v.f2)⟩
set_option maxHeartbeats 1000000 in
set_option maxRecDepth 100000 in
theorem shMove2_calls (W:World) (b:Nat) (v u:S37) (hb:W.heap[b]?=some (.cells #[.int .i64 v.f0, .int .i64 v.f1, .int .i64 v.f2] 37 (0,0))):
  Calls Try.prog 164 #[.agg #[.int .i64 u.f0, .int .i64 u.f1, .int .i64 u.f2], .pointer (some ⟨b,0,none⟩)] W fun e w'=>e= .returned (.agg #[.int .i64 (mvAdd v u).f0, .int .i64 (mvAdd v u).f1, .int .i64 (mvAdd v u).f2])∧Below W.heap.size W w':=by
 have hu37:=Try.underlying37;obtain ⟨⟨q1,q2,q3⟩,hq⟩: ∃q:Int×Int×Int,vec_Add.f [u,v]=some q:=⟨_,rfl⟩;rw [show mvAdd v u=⟨q1,q2,q3⟩ from by unfold mvAdd;rw [hq];rfl];have HQ:=Aside0.mk hq;clear hq;have h0:=(blk_cell hb 0).trans rfl;have h01:=(blk_cell hb 1).trans rfl;have h02:=(blk_cell hb 2).trans rfl;have hl:b<W.heap.size:=blk_lt hb;clear hb;go_enter Try.func164,Try.ntmps164;go_wp2_with fail
 obtain ⟨w3,hw3⟩: ∃w3,w3=(W.alloc (.cells #[.int .i64 u.f0, .int .i64 u.f1, .int .i64 u.f2] 37)).alloc (.cells #[.int .i64 0, .int .i64 0, .int .i64 0] 37):=⟨_,rfl⟩;have hs3:w3.heap.size=W.heap.size+1+1:=by rw [hw3];simp
 have hz3:w3.heap[W.heap.size+1]?=some (.cells #[.int .i64 0, .int .i64 0, .int .i64 0] 37 (0,0)):=by rw [hw3];have:=blk_new (W.alloc (.cells #[.int .i64 u.f0, .int .i64 u.f1, .int .i64 u.f2] 37)) (.cells #[.int .i64 0, .int .i64 0, .int .i64 0] 37);simpa using this
 have hb3:Below W.heap.size W w3:=by rw [hw3];exact below_alloc (below_alloc (Below.refl _ _) _) _
 rw [←hw3,←hs3];clear hw3;have hn:=blk_new w3 (.cells #[.int .i64 u.f0, .int .i64 u.f1, .int .i64 u.f2, .int .i64 v.f0, .int .i64 v.f1, .int .i64 v.f2] 37);refine (vec_Add.calls (some ⟨_,0,none⟩) 2 [u,v] q1 q2 q3 _ (vec_two_row u v hn) (Nat.le_refl _) HQ.out).mono ?_;rintro e w1 ⟨rfl,hb⟩;have HB:=am_ (below_step (below_step hb3 (below_alloc (Below.refl _ _) _)) hb);have HZ:=am_ (blk_below (blk_alloc hz3 (.cells #[.int .i64 u.f0, .int .i64 u.f1, .int .i64 u.f2, .int .i64 v.f0, .int .i64 v.f1, .int .i64 v.f2] 37)) hb);have HS3:=Aside0.mk hs3;clear hb hn hb3 hz3 hs3 h0 h01 h02;have g0:=zz_ HZ 0;have g1:=zz_ HZ 1;have g2:=zz_ HZ 2;have z0:=blk_frozen HZ.out 0;have z1:=blk_frozen HZ.out 1;have z2:=blk_frozen HZ.out 2;have hs1:W.heap.size+1<w1.heap.size:=blk_lt HZ.out;go_wp2
 refine bodyPost_ret (results_cell_row rfl _ _ (W.heap.size+1) 37 #[.int .i64 q1, .int .i64 q2, .int .i64 q3] (0,0) _ rfl (blk_put (blk_put (blk_put HZ.out 0 _ rfl) 1 _ rfl) 2 _ rfl) Try.underlying37 rfl (by kernel_rfl)) rfl ?_;have hle:W.heap.size≤W.heap.size+1:=by omega
 exact ⟨rfl,below_set (below_set (below_set HB.out hle) hle) hle⟩
set_option maxHeartbeats 1000000 in
set_option maxRecDepth 100000 in
theorem shMove1_calls (W:World) (b:Nat) (v u:S37) (hb:W.heap[b]?=some (.cells #[.int .i64 v.f0, .int .i64 v.f1, .int .i64 v.f2] 37 (0,0))):
  Calls Try.prog 162 #[.agg #[.int .i64 u.f0, .int .i64 u.f1, .int .i64 u.f2], .pointer (some ⟨b,0,none⟩)] W fun e w'=>e= .returned (.agg #[.int .i64 (mvSub v u).f0, .int .i64 (mvSub v u).f1, .int .i64 (mvSub v u).f2])∧Below W.heap.size W w':=by
 have hu37:=Try.underlying37;obtain ⟨⟨q1,q2,q3⟩,hq⟩: ∃q:Int×Int×Int,vec_Sub.f u.f0 u.f1 u.f2 v.f0 v.f1 v.f2=some q:=⟨_,rfl⟩;rw [show mvSub v u=⟨q1,q2,q3⟩ from by have:=Option.some.inj hq;cases this;rfl];have HQ:=Aside0.mk hq;clear hq;have h0:=(blk_cell hb 0).trans rfl;have h01:=(blk_cell hb 1).trans rfl;have h02:=(blk_cell hb 2).trans rfl;have hl:b<W.heap.size:=blk_lt hb;clear hb;go_enter Try.func162,Try.ntmps162;go_wp2_with fail
 obtain ⟨w3,hw3⟩: ∃w3,w3=(W.alloc (.cells #[.int .i64 u.f0, .int .i64 u.f1, .int .i64 u.f2] 37)).alloc (.cells #[.int .i64 0, .int .i64 0, .int .i64 0] 37):=⟨_,rfl⟩;have hs3:w3.heap.size=W.heap.size+1+1:=by rw [hw3];simp
 have hz3:w3.heap[W.heap.size+1]?=some (.cells #[.int .i64 0, .int .i64 0, .int .i64 0] 37 (0,0)):=by rw [hw3];have:=blk_new (W.alloc (.cells #[.int .i64 u.f0, .int .i64 u.f1, .int .i64 u.f2] 37)) (.cells #[.int .i64 0, .int .i64 0, .int .i64 0] 37);simpa using this
 have hb3:Below W.heap.size W w3:=by rw [hw3];exact below_alloc (below_alloc (Below.refl _ _) _) _
 rw [←hw3];clear hw3;refine (vec_Sub.calls u.f0 u.f1 u.f2 v.f0 v.f1 v.f2 q1 q2 q3 _ HQ.out).mono ?_;rintro e w1 ⟨rfl,hb⟩;have HB:=am_ (below_step hb3 hb);have HZ:=am_ (blk_below hz3 hb);have HS3:=Aside0.mk hs3;clear hb hb3 hz3 hs3 h0 h01 h02;have g0:=zz_ HZ 0;have g1:=zz_ HZ 1;have g2:=zz_ HZ 2;have z0:=blk_frozen HZ.out 0;have z1:=blk_frozen HZ.out 1;have z2:=blk_frozen HZ.out 2;have hs1:W.heap.size+1<w1.heap.size:=blk_lt HZ.out;go_wp2
 refine bodyPost_ret (results_cell_row rfl _ _ (W.heap.size+1) 37 #[.int .i64 q1, .int .i64 q2, .int .i64 q3] (0,0) _ rfl (blk_put (blk_put (blk_put HZ.out 0 _ rfl) 1 _ rfl) 2 _ rfl) Try.underlying37 rfl (by kernel_rfl)) rfl ?_;have hle:W.heap.size≤W.heap.size+1:=by omega
 exact ⟨rfl,below_set (below_set (below_set HB.out hle) hle) hle⟩
def fitsF (k:Nat) (l:List S79) (from_:List ByteArray) (sub:S37):List ByteArray→Option Bool
  |[]=>some true
  | s :: us => (tree_Find.f l s).bind fun j => if 0 ≤ j ∧ j < (l.length : Int) then (slices_Contains_string_string.f k from_ s).bind fun c => if c = true then fitsF k l from_ sub us else
      (vec_Le.f (mvAdd sub (rd_T79 l j).f4).f0 (mvAdd sub (rd_T79 l j).f4).f1 (mvAdd sub (rd_T79 l j).f4).f2 (rd_T79 l j).f2.f0 (rd_T79 l j).f2.f1 (rd_T79 l j).f2.f2).bind fun b=>if b=true then fitsF k l from_ sub us else some false else none
theorem fitsF_mono (l:List S79) (from_:List ByteArray) (sub:S37) (k:Nat): ∀us,LeO (fitsF k l from_ sub us) (fitsF (k+1) l from_ sub us)
  |[]=>LeO.refl _
  | s :: us => by
    unfold fitsF;refine LeO.bind (LeO.refl _) (fun j=>LeO.ite (LeO.bind (slices_Contains_string_string.mono _ _ _) (fun c=>LeO.ite (fitsF_mono l from_ sub k us) (LeO.bind (LeO.refl _) (fun b=>LeO.ite (fitsF_mono l from_ sub k us) (LeO.refl _))))) (LeO.refl _))
def parF (p:ByteArray) (y:S79):S79:=⟨y.f0,p,y.f2,y.f3,y.f4,y.f5⟩
theorem shiftF_len (op:S37→S37): ∀(us:List ByteArray) (l r:List S79),shiftF op us l=some r→r.length=l.length
  |[],l,r,h=>by cases h;rfl
  | s :: us, l, r, h => by
    unfold shiftF at h;obtain ⟨j,_,h1⟩:=Option.bind_eq_some_iff.1 h
    split at h1
    · have := shiftF_len op us _ r h1
      rwa [List.length_set] at this
    cases h1
def shape_Move.f (k:Nat) (l0:List (S79)) (a1:ByteArray) (a2:ByteArray) (a3:Int):Option ((List (S79))×Int):=
 (shape_made.f l0 a1).bind fun p=>(guardF p.1 p.2 a3).bind fun e=>if e≠0 then some ([],e) else (tree_Up.f k l0 a2).bind fun ts=>(shape_change_parent.f p.1 p.2 a2).bind fun q=>if q=false then some ([],2) else
  (slices_Contains_string_string.f k ts a1).bind fun c=>if c=true then some ([],10) else (olderF p.1 p.2).bind fun o=>if o.1≠0 then some ([],o.1) else
   (tree_Up.f k l0 (rd_T79 o.2 p.2).f1).bind fun fs=>(fitsF k l0 fs (rd_T79 o.2 p.2).f4 ts).bind fun b=>if b=false then some ([],12) else
    (shiftF (mvSub (rd_T79 o.2 p.2).f4) fs o.2).bind fun l3=>(shiftF (mvAdd (rd_T79 o.2 p.2).f4) ts l3).bind fun l4=>some (l4.set p.2.toNat (parF a2 (rd_T79 l4 p.2)),0)
theorem shape_Move.mono: ∀a0 a1 a2 a3 k,LeO (shape_Move.f k a0 a1 a2 a3) (shape_Move.f (k+1) a0 a1 a2 a3):=by
 intro a0 a1 a2 a3 k;unfold shape_Move.f
 repeat' first
  |(with_reducible exact tree_Up.mono _ _ _)
  |(with_reducible exact slices_Contains_string_string.mono _ _ _)
  |(with_reducible exact fitsF_mono _ _ _ _ _)
  |(with_reducible exact LeO.refl _)
  |(with_reducible exact LeO.none _)
  |(with_reducible refine LeO.ite ?_ ?_)
  |(with_reducible refine LeO.bind ?_ (fun _=> ?_))
set_option maxHeartbeats 8000000 in
set_option maxRecDepth 100000 in
theorem shape_Move.calls (k:Nat) (A0:Option Addr) (c0:Nat) (l0:List (S79)) (a1:ByteArray) (a2:ByteArray) (a3:Int) (r1:List (S79)) (r2:Int) (w:World) (hr0:Kd.C k79 w A0 l0.length l0) (hc0:l0.length≤c0) (h:shape_Move.f k l0 a1 a2 a3=some (r1,r2)):
    Calls Try.prog 140 #[.slice A0 l0.length c0, .string a1, .string a2, .int .i64 a3] w fun e w'=> ∃v0_:Value,e= .returned (.tuple #[v0_, .int .i64 r2])∧Kd.R k79 79 w' w.heap.size (fun _=>True) v0_ r1∧Below w.heap.size w w':=by
  have hu197:=Try.underlying197;have hu195:=Try.underlying195;have hu79:=Try.underlying79;have hu37:=Try.underlying37;unfold shape_Move.f at h;obtain ⟨⟨out,j⟩,hmd,h1⟩:=Option.bind_eq_some_iff.1 h;clear h;obtain ⟨e0,hgd,h2⟩:=Option.bind_eq_some_iff.1 h1;clear h1;dsimp only at hgd h2;have HR:=Aside0.mk hr0;have HC:=Aside0.mk hc0;have HM:=Aside0.mk hmd;have HG:=Aside0.mk hgd;have HB:=am_ (Below.refl w.heap.size w);have HH:=Aside0.mk h2;clear hr0 hc0 hmd hgd h2;go_enter Try.func140,Try.ntmps140;go_wp2_with fail
  refine (shape_made.calls _ _ _ _ _ _ _ (Kd.C_below HR.out HB.out) HC.out HM.out).mono ?_;rintro e w3 ⟨v0,rfl,ho,hb⟩;have HO:=am_ (Kd.R_lower ho (below_size HB.out));replace HB:=am_ (below_step HB.out hb);clear ho hb;obtain ⟨A5,c5,rfl⟩: ∃A5 c5,v0= .slice A5 out.length c5:=Kd.R_slice HO.out;have HLT:=am_ (Kd.R_lt HO.out);go_wp2_with (first|((with_reducible refine gate_dst (N:=10) rfl ?_);refine bx_ (N:=10) (cs:=#[.slice none 0 0, .int .i64 0]) (t:=197) ?_;intro gb2 hg w4 hbox hb;replace HO:=am_ (Kd.R_below HO.out hb);have BK2:=am_ (hbox);have GE2:=am_ ((by rw [hg];exact below_size HB.out:w.heap.size≤gb2));replace HB:=am_ (below_step HB.out hb);have EQ2:=am_ (hg);clear hb hbox hg)|((with_reducible refine gate_store (t:=197) (p:=10) (v:= .tmp 21) rfl ?_);refine store_all BK2.out 197 (.tmp 10) (.tmp 21) rfl rfl rfl (.agg #[.slice A5 out.length c5, .int .i64 j]) [.slice A5 out.length c5, .int .i64 j] rfl rfl rfl (by kernel_rfl) rfl (by intro q hq;simp only [List.mem_cons,List.not_mem_nil,or_false] at hq;rcases hq with rfl|rfl<;>rfl) ?_;intro w5 hbk hg;replace HO:=am_ (R_put HO.out BK2.out (by decide) hg);replace HB:=am_ (below_put HB.out (below_size HB.out) hg GE2.out);replace BK2:=am_ (hbk);clear hbk hg;have cgb2_0:=zz_ BK2 0;have cgb2_1:=zz_ BK2 1))
  have NE2:=am_ (show some gb2≠(Value.slice A5 out.length c5).ownBlock from fun e=>by have:=HLT.out _ e.symm;have:=EQ2.out;omega);refine (shapeGuard_calls _ _ _ out j a3 e0 HO.out HG.out).mono ?_;rintro e w6 ⟨rfl,hb⟩;clear cgb2_0 cgb2_1;replace HO:=am_ (Kd.R_below HO.out hb);replace BK2:=am_ (blk_below BK2.out hb);replace HB:=am_ (below_step HB.out hb);clear hb;have cgb2_0:=zz_ BK2 0;have cgb2_1:=zz_ BK2 1;have h2:=HH.out;clear HH;by_cases c1:e0=0;rotate_left
  · rw [if_pos c1] at h2
    cases h2
    have q1:(r2==0)=false:=by simpa using c1
    go_wp2_with fail
    go_ret2
    exact ⟨_,rfl,Kd.R_nil _ _ _ _ _,HB.out⟩


  cases c1;rw [if_neg (by simp)] at h2;obtain ⟨ts,hts,h3⟩:=Option.bind_eq_some_iff.1 h2;obtain ⟨q,hq,h4⟩:=Option.bind_eq_some_iff.1 h3;clear h2 h3;have HTS:=Aside0.mk hts;have HQ:=Aside0.mk hq;have HH:=Aside0.mk h4;clear hts hq h4;go_wp2_with fail
  refine (tree_Up.calls k _ _ _ _ _ _ (Kd.C_below HR.out HB.out) HC.out HTS.out).mono ?_;rintro e w7 ⟨vt,rfl,hot,hb⟩;clear cgb2_0 cgb2_1;have HTO:=am_ (Kd.R_lower hot (below_size HB.out));replace HO:=am_ (Kd.R_below HO.out hb);replace BK2:=am_ (blk_below BK2.out hb);replace HB:=am_ (below_step HB.out hb);clear hb hot;have cgb2_0:=zz_ BK2 0;have cgb2_1:=zz_ BK2 1;obtain ⟨At,ct,rfl⟩: ∃At ct,vt= .slice At ts.length ct:=Kd.R_slice HTO.out;go_wp2_with fail
  refine (shape_change_parent.calls _ _ _ _ _ _ _ (Kd.R_reads' HO.out).2.2 (Kd.R_reads' HO.out).2.1 HQ.out).mono ?_;rintro e w8 ⟨rfl,hb⟩;clear cgb2_0 cgb2_1;replace HO:=am_ (Kd.R_below HO.out hb);replace HTO:=am_ (Kd.R_below HTO.out hb);replace BK2:=am_ (blk_below BK2.out hb);replace HB:=am_ (below_step HB.out hb);clear hb;have cgb2_0:=zz_ BK2 0;have cgb2_1:=zz_ BK2 1;have h4:=HH.out;clear HH
  cases q with
  | false =>
    rw [if_pos rfl] at h4;cases h4;go_wp2_with fail
    go_ret2
    exact ⟨_,rfl,Kd.R_nil _ _ _ _ _,HB.out⟩
  | true =>
    rw [if_neg (by simp)] at h4;obtain ⟨c,hc,h5⟩:=Option.bind_eq_some_iff.1 h4;have HCO:=Aside0.mk hc;have HH:=Aside0.mk h5;clear hc h4 h5;go_wp2_with fail
    refine (slices_Contains_string_string.calls k _ _ ts _ _ _ (Kd.R_reads' HTO.out).2.2 (Kd.R_reads' HTO.out).2.1 HCO.out).mono ?_;rintro e w9 ⟨rfl,hd⟩;have hb:=hd.below;clear cgb2_0 cgb2_1 hd;replace HO:=am_ (Kd.R_below HO.out hb);replace HTO:=am_ (Kd.R_below HTO.out hb);replace BK2:=am_ (blk_below BK2.out hb);replace HB:=am_ (below_step HB.out hb);clear hb;have cgb2_0:=zz_ BK2 0;have cgb2_1:=zz_ BK2 1;have h5:=HH.out;clear HH
    cases c with
    | true =>
      rw [if_pos rfl] at h5;cases h5;go_wp2_with fail
      go_ret2
      exact ⟨_,rfl,Kd.R_nil _ _ _ _ _,HB.out⟩
    | false =>
      rw [if_neg (by simp)] at h5;obtain ⟨⟨e1,l2⟩,hol,h6⟩:=Option.bind_eq_some_iff.1 h5;clear h5;have HOL:=Aside0.mk hol;have HH:=Aside0.mk h6;clear hol h6;go_wp2_with fail
      refine (shapeOlder_calls _ _ _ out l2 j e1 HO.out (below_size HB.out) HOL.out).mono ?_;rintro e w10 ⟨rfl,ho,ht⟩;clear cgb2_0 cgb2_1;replace HTO:=am_ (R_turned HTO.out HO.out (by decide) ht);replace BK2:=am_ (ht.block _ _ BK2.out NE2.out);replace HB:=am_ (HB.out.trans ht.below);replace HO:=am_ (ho);clear ho ht;have cgb2_0:=zz_ BK2 0;have cgb2_1:=zz_ BK2 1;have h6:=HH.out;clear HH;by_cases c2:e1=0;rotate_left
      · rw [if_pos c2] at h6
        cases h6
        have q2:(r2==0)=false:=by simpa using c2
        go_wp2_with fail
        go_ret2
        exact ⟨_,rfl,Kd.R_nil _ _ _ _ _,HB.out⟩
      cases c2;rw [if_neg (by simp)] at h6;obtain ⟨hj0,hj1⟩:=older_zero HOL.out;obtain ⟨gb,cap,hv0,hgb,hgl⟩:=sh_head HO.out (by have:=older_len HOL.out;omega);rw [older_len HOL.out] at hv0;cases hv0;have hcs:=sh_cells' HO.out (older_len HOL.out) j hj0 hj1;have HJ0:=Aside0.mk hj0;have HJ1:=Aside0.mk hj1;have HGB:=Aside0.mk hgb;have HGL:=Aside0.mk hgl;have HLEN:=am_ (older_len HOL.out);generalize hy:rd_T79 l2 j=y at hcs h6;have HY:=Aside0.mk hy;obtain ⟨fs,hfs,h7⟩:=Option.bind_eq_some_iff.1 h6;clear h6;have HFS:=Aside0.mk hfs;have HH:=Aside0.mk h7;have HCS:=Aside0.mk hcs;clear hj0 hj1 hgb hgl hy hfs h7 hcs;go_wp2_with fail
      refine (shapeItem_calls _ ⟨gb,0,none⟩ out.length c5 j HJ0.out HJ1.out).mono ?_;rintro e w11 ⟨rfl,hb⟩;clear cgb2_0 cgb2_1;have HCS1:=am_ (fun j' u hu=>(hb.cell (p:=⟨gb,j.toNat*12+j',none⟩) HGL.out).trans (HCS.out j' u hu));have HGL1:=am_ (Nat.lt_of_lt_of_le HGL.out hb.size);replace HO:=am_ (Kd.R_below HO.out hb);replace HTO:=am_ (Kd.R_below HTO.out hb);replace BK2:=am_ (blk_below BK2.out hb);replace HB:=am_ (below_step HB.out hb);clear hb HCS HGL;have cgb2_0:=zz_ BK2 0;have cgb2_1:=zz_ BK2 1;have k1:w11.cell? ⟨gb,j.toNat*12+1,none⟩=some (.string y.f1):=HCS1.out 1 _ rfl;go_wp2_with fail
      clear k1;refine (tree_Up.calls k _ _ _ _ _ _ (Kd.C_below HR.out HB.out) HC.out HFS.out).mono ?_;rintro e w12 ⟨vf,rfl,hof,hb⟩;clear cgb2_0 cgb2_1;have HFR:=am_ (Kd.R_lower hof (below_size HB.out));have HCS2:=am_ (fun j' u hu=>(hb.cell (p:=⟨gb,j.toNat*12+j',none⟩) HGL1.out).trans (HCS1.out j' u hu));have HGL2:=am_ (Nat.lt_of_lt_of_le HGL1.out hb.size);replace HO:=am_ (Kd.R_below HO.out hb);replace HTO:=am_ (Kd.R_below HTO.out hb);replace BK2:=am_ (blk_below BK2.out hb);replace HB:=am_ (below_step HB.out hb);clear hb hof HCS1 HGL1;have cgb2_0:=zz_ BK2 0;have cgb2_1:=zz_ BK2 1;obtain ⟨Af,cf,rfl⟩: ∃Af cf,vf= .slice Af fs.length cf:=Kd.R_slice HFR.out;go_wp2_with fail
      refine (shapeItem_calls _ ⟨gb,0,none⟩ out.length c5 j HJ0.out HJ1.out).mono ?_;rintro e w13 ⟨rfl,hb⟩;clear cgb2_0 cgb2_1;have HCS3:=am_ (fun j' u hu=>(hb.cell (p:=⟨gb,j.toNat*12+j',none⟩) HGL2.out).trans (HCS2.out j' u hu));have HGL3:=am_ (Nat.lt_of_lt_of_le HGL2.out hb.size);replace HO:=am_ (Kd.R_below HO.out hb);replace HTO:=am_ (Kd.R_below HTO.out hb);replace HFR:=am_ (Kd.R_below HFR.out hb);replace BK2:=am_ (blk_below BK2.out hb);replace HB:=am_ (below_step HB.out hb);clear hb HCS2 HGL2;have cgb2_0:=zz_ BK2 0;have cgb2_1:=zz_ BK2 1;have k8:w13.cell? ⟨gb,j.toNat*12+8,none⟩=some (.int .i64 y.f4.f0):=HCS3.out 8 _ rfl;have k9:w13.cell? ⟨gb,j.toNat*12+8+1,none⟩=some (.int .i64 y.f4.f1):=HCS3.out 9 _ rfl;have k10:w13.cell? ⟨gb,j.toNat*12+8+2,none⟩=some (.int .i64 y.f4.f2):=HCS3.out 10 _ rfl;generalize hsb:y.f4=sb at k8 k9 k10;have HSB:=Aside0.mk hsb;have GB2:=am_ (blk_lt BK2.out);have hm:ts.length≤9223372036854775807:=(Kd.R_reads' HTO.out).2.2.2.1;clear hsb;have GLT15:=am_ (show gb<w13.heap.size from HGL3.out)
      go_wp2_with (first|((with_reducible refine gate_dst (N:=15) rfl ?_);refine bx_ (N:=15) (cs:=#[.int .i64 0, .int .i64 0, .int .i64 0]) (t:=37) ?_;intro gb15 hg wa hbox hb;replace HO:=am_ (Kd.R_below HO.out hb);replace HTO:=am_ (Kd.R_below HTO.out hb);replace HFR:=am_ (Kd.R_below HFR.out hb);replace BK2:=am_ (blk_below BK2.out hb);have BK15:=am_ (hbox);have GE15:=am_ ((by rw [hg];exact below_size HB.out:w.heap.size≤gb15));replace HB:=am_ (below_step HB.out hb);have EQ15:=am_ (hg);clear hb hbox hg)|((with_reducible refine gate_store (t:=37) (p:=15) (v:= .tmp 56) rfl ?_);refine store_all BK15.out 37 (.tmp 15) (.tmp 56) rfl rfl rfl (.agg #[.int .i64 sb.f0, .int .i64 sb.f1, .int .i64 sb.f2]) [.int .i64 sb.f0, .int .i64 sb.f1, .int .i64 sb.f2] rfl rfl rfl (by kernel_rfl) rfl (by intro q hq;simp only [List.mem_cons,List.not_mem_nil,or_false] at hq;rcases hq with rfl|rfl|rfl<;>rfl) ?_;intro wb hbk hg;replace HO:=am_ (R_put HO.out BK15.out (by decide) hg);replace HTO:=am_ (R_put HTO.out BK15.out (by decide) hg);replace HFR:=am_ (R_put HFR.out BK15.out (by decide) hg);replace BK2:=am_ (blk_put_other BK2.out hg (by have:=blk_lt BK2.out;have:=EQ15.out;have:=GB2.out;omega));replace HB:=am_ (below_put HB.out (below_size HB.out) hg GE15.out);replace BK15:=am_ (hbk);clear hbk hg;have cgb15_0:=zz_ BK15 0;have cgb15_1:=zz_ BK15 1;have cgb15_2:=zz_ BK15 2))
      have h7:=HH.out;clear HH;rw [HSB.out] at h7;obtain ⟨bb,hfit,h8⟩:=Option.bind_eq_some_iff.1 h7;clear h7;have HFIT:=Aside0.mk hfit;have HH:=Aside0.mk h8;clear hfit h8 HCS3 HGL3 k8 k9 k10 GB2;have NE2:=am_ (show gb2≠gb from fun e=>NE2.out (by rw [e];rfl));have NE15:=am_ (show gb15≠gb from fun e=>by have:=GLT15.out;have:=EQ15.out;omega);go_loopg [17,18,59] ts.length (fun kq s17 s18 s59 wr=> ∃i:Nat,i≤ts.length∧ts.length - i≤kq∧s59= .int .i64 i∧Aside0 (fitsF k l0 fs sb (ts.drop i)=some bb)∧Aside0 (Below w.heap.size w wr)∧Aside0 (wr.heap[gb2]?=some (.cells #[.slice (some ⟨gb,0,none⟩) out.length c5, .int .i64 j] 197 (0,0)))∧Aside0 (wr.heap[gb15]?=some (.cells #[.int .i64 sb.f0, .int .i64 sb.f1, .int .i64 sb.f2] 37 (0,0)))∧Aside0 (Kd.R k79 79 wr w.heap.size (fun _=>True) (.slice (some ⟨gb,0,none⟩) out.length c5) l2)∧Aside0 (Kd.R Kd.string 9 wr w.heap.size (fun _=>True) (.slice At ts.length ct) ts)∧Aside0 (Kd.R Kd.string 9 wr w.heap.size (fun _=>True) (.slice Af fs.length cf) fs))
      case atStart=>exact ⟨0,by omega,by omega,rfl,HFIT,HB,BK2,BK15,HO,HTO,HFR⟩
      case round=>
        clear HFIT HB BK2 BK15 HO HTO HFR cgb2_0 cgb2_1 cgb15_0 cgb15_1 cgb15_2;obtain ⟨i,hi,hg,rfl,HFIT,HB,BK2,BK15,HO,HTO,HFR⟩:=hrel;by_cases hlt:i<ts.length;rotate_left
        · obtain rfl : i = ts.length := by omega
          have hf:=HFIT.out
          rw [List.drop_length] at hf
          cases hf
          have h8:=HH.out
          clear HH HFIT
          rw [if_neg (by simp)] at h8
          obtain ⟨l3,hs3,h9⟩:=Option.bind_eq_some_iff.1 h8
          obtain ⟨l4,hs4,h10⟩:=Option.bind_eq_some_iff.1 h9
          cases h10
          have HS3:=Aside0.mk hs3
          have HS4:=Aside0.mk hs4
          have cgb2_0:=zz_ BK2 0
          have cgb2_1:=zz_ BK2 1
          clear h8 h9 hs3 hs4
          go_wp2_with fail
          refine (shapeShift_calls 162 #[.pointer (some ⟨gb15,0,none⟩)] (mvSub sb) gb15 _ w.heap.size w.heap.size _ l2 l3 j Af cf fs _ (enters_of Try.func162 (by kernel_rfl) rfl) HO.out (below_size HB.out) BK15.out (fun e=>NE15.out (Option.some.inj e)) HFR.out (fun W' u hb=>shMove1_calls W' gb15 sb u hb) HS3.out).mono ?_
          rintro e ws1 ⟨rfl,ho,ht⟩
          clear cgb2_0 cgb2_1
          replace HTO:=am_ (R_turned HTO.out HO.out (by decide) ht);replace BK2:=am_ (ht.block _ _ BK2.out (fun e=>NE2.out (Option.some.inj e)));replace BK15:=am_ (ht.block _ _ BK15.out (fun e=>NE15.out (Option.some.inj e)));replace HB:=am_ (HB.out.trans ht.below);replace HO:=am_ (ho)
          clear ho ht HFR
          have cgb2_0:=zz_ BK2 0
          have cgb2_1:=zz_ BK2 1
          go_wp2_with fail
          refine (shapeShift_calls 164 #[.pointer (some ⟨gb15,0,none⟩)] (mvAdd sb) gb15 _ w.heap.size w.heap.size _ l3 l4 j At ct ts _ (enters_of Try.func164 (by kernel_rfl) rfl) HO.out (below_size HB.out) BK15.out (fun e=>NE15.out (Option.some.inj e)) HTO.out (fun W' u hb=>shMove2_calls W' gb15 sb u hb) HS4.out).mono ?_
          rintro e ws2 ⟨rfl,ho,ht⟩
          clear cgb2_0 cgb2_1
          replace BK2:=am_ (ht.block _ _ BK2.out (fun e=>NE2.out (Option.some.inj e)));replace HB:=am_ (HB.out.trans ht.below);replace HO:=am_ (ho)
          clear ho ht HTO BK15
          have cgb2_0:=zz_ BK2 0
          have cgb2_1:=zz_ BK2 1
          have hl4:l4.length=out.length:=by rw [shiftF_len _ _ _ _ HS4.out,shiftF_len _ _ _ _ HS3.out,HLEN.out]
          have hcs:=sh_cells' HO.out hl4 j HJ0.out HJ1.out
          generalize hyy:rd_T79 l4 j=yy at hcs
          have HYY:=Aside0.mk hyy
          have HCS:=Aside0.mk hcs
          have HGL:=am_ (show gb<ws2.heap.size from Kd.R_lt HO.out gb rfl)
          have HL4:=Aside0.mk hl4
          clear hcs hl4 hyy
          go_wp2_with fail
          refine (shapeItem_calls _ ⟨gb,0,none⟩ out.length c5 j HJ0.out HJ1.out).mono ?_
          rintro e ws3 ⟨rfl,hb⟩
          clear cgb2_0 cgb2_1
          have HCS1:=am_ (fun j' u hu=>(hb.cell (p:=⟨gb,j.toNat*12+j',none⟩) HGL.out).trans (HCS.out j' u hu))
          replace HO:=am_ (Kd.R_below HO.out hb);replace BK2:=am_ (blk_below BK2.out hb);replace HB:=am_ (below_step HB.out hb)
          clear hb HCS HGL
          have cgb2_0:=zz_ BK2 0
          have cgb2_1:=zz_ BK2 1
          go_wp2_with ((with_reducible refine gate_store (t:=9) (p:=97) (v:= .tmp 95) rfl ?_);refine Kd.R_store k79 (w0:=ws3) w.heap.size rfl rfl 9 (.tmp 97) (.tmp 95) rfl 79 (g:=gb) (n:=out.length) (cap:=c5) (o':=j.toNat*12+1) j 1 l4 (parF a2 yy) (.string a2) [.string a2] (shCells yy) (fun _=>True) (fun _=>False) rfl rfl rfl rfl ?ct ?c1 HO.out ?c2 ?c3 rfl HCS1.out (by show 1+1≤12;omega) ?cM (fun _ h=>h.elim) (Below.refl _ _) ?_;(case ct=>kernel_rfl);(case c1=>intro q hq;simp only [List.mem_cons,List.not_mem_nil,or_false] at hq;rcases hq with rfl;rfl);(case c2=>exact HJ0.out);(case c3=>exact HJ1.out);(case cM=>exact k79_mkM _ _ _ (parF a2 yy));intro ws4 ho hb hg;have HO9:=Aside0.mk ho;have HB9:=am_ (below_put HB.out (below_size HB.out) hg HGB.out);have BK9:=am_ (blk_put_other BK2.out hg NE2.out);clear cgb2_0 cgb2_1;have cgb2_0:=zz_ BK9 0;have cgb2_1:=zz_ BK9 1;clear ho hb hg)
          go_ret2
          refine ⟨_,rfl, ?_,HB9.out⟩
          show Kd.R k79 79 _ _ _ _ (l4.set j.toNat (parF a2 (rd_T79 l4 j)))
          rw [HYY.out]
          exact HO9.out
        have hltz:(i:Int)<(ts.length:Int):=by omega
        have hdr:ts.drop i=ts[i]::ts.drop (i+1):=List.drop_eq_getElem_cons hlt;have hst:rdOf ByteArray.empty ts (i:Int)=ts[i]:=by simp [rdOf,hlt]
        have hf:=HFIT.out;rw [hdr,←hst] at hf;unfold fitsF at hf;obtain ⟨jx,hjx,hf2⟩:=Option.bind_eq_some_iff.1 hf
        split at hf2
        case isFalse=>cases hf2
        case isTrue hjb=>
        obtain ⟨c,hcn,hf3⟩:=Option.bind_eq_some_iff.1 hf2;obtain ⟨ad,e1,h0⟩:=at_str (Kd.R_reads' HTO.out).2.2 (i:Int) (by omega) (by omega);cases e1;simp only [Int.toNat_natCast] at h0;have HJX:=Aside0.mk hjx;have HCN:=Aside0.mk hcn;have HF3:=Aside0.mk hf3;have HX0:=Aside0.mk hjb.1;have HX1:=Aside0.mk hjb.2;clear hdr hst hf hf2 hf3 hjx hcn HFIT hjb;go_wp2_with fail
        refine (tree_Find.calls _ _ l0 _ jx _ (Kd.C_below HR.out HB.out) HC.out HJX.out).mono ?_;rintro e wa1 ⟨rfl,hb⟩;clear h0;replace HO:=am_ (Kd.R_below HO.out hb);replace HTO:=am_ (Kd.R_below HTO.out hb);replace HFR:=am_ (Kd.R_below HFR.out hb);replace BK2:=am_ (blk_below BK2.out hb);replace BK15:=am_ (blk_below BK15.out hb);replace HB:=am_ (below_step HB.out hb);clear hb;obtain ⟨adx,e1,k0,k1,k2,k3,k4,k5,k6,k7,k8,k9,k10,k11⟩:=at_T79 (Kd.C_below HR.out HB.out) jx HX0.out HX1.out;cases e1;have q0:(0≤jx)=True:=eq_true HX0.out;have q1:(jx<(l0.length:Int))=True:=eq_true HX1.out;have hf3:=HF3.out;clear HF3;generalize hx:rd_T79 l0 jx=x at k0 k1 k2 k3 k4 k5 k6 k7 k8 k9 k10 k11 hf3;have HF3:=Aside0.mk hf3;have LT2:=am_ (blk_lt BK2.out);have LT15:=am_ (blk_lt BK15.out);clear hx hf3;have HO1:=am_ (Kd.R_mono (ok':=fun k_=>k_<wa1.heap.size) (Kd.R_bound HO.out) (fun _ hk=>hk.2.2.1));clear HO;have HO:=HO1;clear HO1
        go_wp2_with (first|((with_reducible refine gate_dst (N:=18) rfl ?_);refine bx_ (N:=18) (cs:=#[.string ⟨#[]⟩, .string ⟨#[]⟩, .int .i64 0, .int .i64 0, .int .i64 0, .int .i64 0, .int .i64 0, .int .i64 0, .int .i64 0, .int .i64 0, .int .i64 0, .int .i64 0]) (t:=79) ?_;intro gb18 hg we hbox hb;replace HO:=am_ (Kd.R_below HO.out hb);replace HTO:=am_ (Kd.R_below HTO.out hb);replace HFR:=am_ (Kd.R_below HFR.out hb);replace BK2:=am_ (blk_below BK2.out hb);replace BK15:=am_ (blk_below BK15.out hb);have BK18:=am_ (hbox);have GE18:=am_ ((by rw [hg];exact below_size HB.out:w.heap.size≤gb18));replace HB:=am_ (below_step HB.out hb);have EQ18:=am_ (hg);clear hb hbox hg)|((with_reducible refine gate_store (t:=79) (p:=18) (v:= .tmp 68) rfl ?_);refine store_all BK18.out 79 (.tmp 18) (.tmp 68) rfl rfl rfl (.agg #[.string x.f0, .string x.f1, .int .i64 x.f2.f0, .int .i64 x.f2.f1, .int .i64 x.f2.f2, .int .i64 x.f3.f0, .int .i64 x.f3.f1, .int .i64 x.f3.f2, .int .i64 x.f4.f0, .int .i64 x.f4.f1, .int .i64 x.f4.f2, .int .i64 x.f5]) [.string x.f0, .string x.f1, .int .i64 x.f2.f0, .int .i64 x.f2.f1, .int .i64 x.f2.f2, .int .i64 x.f3.f0, .int .i64 x.f3.f1, .int .i64 x.f3.f2, .int .i64 x.f4.f0, .int .i64 x.f4.f1, .int .i64 x.f4.f2, .int .i64 x.f5] rfl rfl rfl (by kernel_rfl) rfl (by intro q hq;simp only [List.mem_cons,List.not_mem_nil,or_false] at hq;rcases hq with rfl|rfl|rfl|rfl|rfl|rfl|rfl|rfl|rfl|rfl|rfl|rfl<;>rfl) ?_;intro wf hbk hg;replace HTO:=am_ (R_put HTO.out BK18.out (by decide) hg);replace HFR:=am_ (R_put HFR.out BK18.out (by decide) hg);replace BK2:=am_ (blk_put_other BK2.out hg (by have:=EQ18.out;have:=LT2.out;omega));replace BK15:=am_ (blk_put_other BK15.out hg (by have:=EQ18.out;have:=LT15.out;omega));replace HB:=am_ (below_put HB.out (below_size HB.out) hg GE18.out);replace HO:=am_ (Kd.R_mono (Kd.R_grown HO.out hg (fun k_ hk e=>by have:=EQ18.out;have:=Option.some.inj e;have:k_<wa1.heap.size:=hk;omega)) (fun _ _=>trivial));replace BK18:=am_ (hbk);clear hbk hg;have cgb18_0:=zz_ BK18 0;have cgb18_1:=zz_ BK18 1;have cgb18_2:=zz_ BK18 2;have cgb18_3:=zz_ BK18 3;have cgb18_4:=zz_ BK18 4;have cgb18_5:=zz_ BK18 5;have cgb18_6:=zz_ BK18 6;have cgb18_7:=zz_ BK18 7;have cgb18_8:=zz_ BK18 8;have cgb18_9:=zz_ BK18 9;have cgb18_10:=zz_ BK18 10;have cgb18_11:=zz_ BK18 11))
        clear k0 k1 k2 k3 k4 k5 k6 k7 k8 k9 k10 k11;have cgb15_0:=zz_ BK15 0;have cgb15_1:=zz_ BK15 1;have cgb15_2:=zz_ BK15 2;have hf3:=HF3.out;clear HF3
        cases c with
        | true =>
          rw [if_pos rfl] at hf3;have HF4:=Aside0.mk hf3;clear hf3;refine start_ (n:=15) (S:=fun w'=>w'.cell? ⟨gb18,2,none⟩=some (.int .i64 x.f2.f0)∧w'.cell? ⟨gb18,3,none⟩=some (.int .i64 x.f2.f1)∧w'.cell? ⟨gb18,4,none⟩=some (.int .i64 x.f2.f2)∧w'.cell? ⟨gb18,8,none⟩=some (.int .i64 x.f4.f0)∧w'.cell? ⟨gb18,9,none⟩=some (.int .i64 x.f4.f1)∧w'.cell? ⟨gb18,10,none⟩=some (.int .i64 x.f4.f2)∧w'.cell? ⟨gb15,0,none⟩=some (.int .i64 sb.f0)∧w'.cell? ⟨gb15,1,none⟩=some (.int .i64 sb.f1)∧w'.cell? ⟨gb15,2,none⟩=some (.int .i64 sb.f2)∧Below wf.heap.size wf w') (ds:=[]) (bt_ 15 0) (by kernel_rfl) rfl rfl ⟨cgb18_2,cgb18_3,cgb18_4,cgb18_8,cgb18_9,cgb18_10,cgb15_0,cgb15_1,cgb15_2,below_drew (Below.refl _ _)⟩ (fun hHeld=> ?_);refine pv_ (i:=0) (N:=some 69) (bt_ 15 1) ?_;refine pv_ (i:=1) (N:=some 70) (bt_ 15 3) ?_;refine one_ (i:=2) (N:=some 71) (bt_ 15 7) rfl rfl (by kernel_rfl) (by decide) (fun K hK=> ?_);refine goes_ Try.func160 (by kernel_rfl) rfl #[.slice Af fs.length cf, .string (rdOf ByteArray.empty ts i)] (by rfl) rfl rfl (by (try simp only [List.map_toArray,List.map_cons,List.map_nil]);rfl) ?_;refine (slices_Contains_string_string.calls k _ _ fs _ _ _ (Kd.R_reads' (Kd.R_below HFR.out (hHeld.2.2.2.2.2.2.2.2.2))).2.2 (Kd.R_reads' HFR.out).2.1 HCN.out).mono ?_;rintro e wd ⟨rfl,hd⟩;have hb:=hd.below;refine ⟨_,rfl, ?_⟩
          refine hK.out _ _ ⟨zh_ hb hHeld.1,zh_ hb hHeld.2.1,zh_ hb hHeld.2.2.1,zh_ hb hHeld.2.2.2.1,zh_ hb hHeld.2.2.2.2.1,zh_ hb hHeld.2.2.2.2.2.1,zh_ hb hHeld.2.2.2.2.2.2.1,zh_ hb hHeld.2.2.2.2.2.2.2.1,zh_ hb hHeld.2.2.2.2.2.2.2.2.1,below_step hHeld.2.2.2.2.2.2.2.2.2 hb⟩ (fun hHeld=> ?_);clear hK K hb hd;refine norm_ (a':= ?_) ?_ ?_;rotate_left
          · show Act.put _ (some 71) _ = _
            simp only [Act.put,List.setIfInBounds_toArray,List.set_cons_zero,List.set_cons_succ,i64_w,i32_w]
            rfl
          refine pv_ (i:=3) (N:=some 72) (bt_ 15 15) ?_;refine pv_ (i:=4) (N:=some 73) (bt_ 15 31) ?_;refine take_ (i:=5) (N:=some 74) (v:=undef) (a':= ?_) (bt_ 15 63) rfl rfl (by kernel_rfl) (fun _ _ _ h=>h) (Or.inr ⟨by rfl,rfl⟩) hHeld ?_ ?_;rotate_left;(simp only [Act.put,List.setIfInBounds_toArray,List.set_cons_zero,List.set_cons_succ,i64_w,i32_w];rfl);refine take_ (i:=6) (N:=some 75) (v:=undef) (a':= ?_) (bt_ 15 127) rfl rfl (by kernel_rfl) (fun _ _ _ h=>h) (Or.inr ⟨by rfl,rfl⟩) hHeld ?_ ?_;rotate_left;(simp only [Act.put,List.setIfInBounds_toArray,List.set_cons_zero,List.set_cons_succ,i64_w,i32_w];rfl);refine take_ (i:=7) (N:=some 76) (v:=undef) (a':= ?_) (bt_ 15 255) rfl rfl (by kernel_rfl) (fun _ _ _ h=>h) (Or.inr ⟨by rfl,rfl⟩) hHeld ?_ ?_;rotate_left;(simp only [Act.put,List.setIfInBounds_toArray,List.set_cons_zero,List.set_cons_succ,i64_w,i32_w];rfl);refine take_ (i:=8) (N:=some 77) (v:=undef) (a':= ?_) (bt_ 15 511) rfl rfl (by kernel_rfl) (fun _ _ _ h=>h) (Or.inr ⟨by rfl,rfl⟩) hHeld ?_ ?_;rotate_left;(simp only [Act.put,List.setIfInBounds_toArray,List.set_cons_zero,List.set_cons_succ,i64_w,i32_w];rfl);refine take_ (i:=9) (N:=some 78) (v:=undef) (a':= ?_) (bt_ 15 1023) rfl rfl (by kernel_rfl) (fun _ _ _ h=>h) (Or.inr ⟨by rfl,rfl⟩) hHeld ?_ ?_;rotate_left;(simp only [Act.put,List.setIfInBounds_toArray,List.set_cons_zero,List.set_cons_succ,i64_w,i32_w];rfl)
          refine take_ (i:=10) (N:=some 79) (v:=undef) (a':= ?_) (bt_ 15 2047) rfl rfl (by kernel_rfl) (fun _ _ _ h=>h) (Or.inr ⟨by rfl,rfl⟩) hHeld ?_ ?_;rotate_left;(simp only [Act.put,List.setIfInBounds_toArray,List.set_cons_zero,List.set_cons_succ,i64_w,i32_w];rfl);refine take_ (i:=11) (N:=some 80) (v:=undef) (a':= ?_) (bt_ 15 4095) rfl rfl (by kernel_rfl) (fun _ _ _ h=>h) (Or.inr ⟨by rfl,rfl⟩) hHeld ?_ ?_;rotate_left;(simp only [Act.put,List.setIfInBounds_toArray,List.set_cons_zero,List.set_cons_succ,i64_w,i32_w];rfl);refine take_ (i:=12) (N:=some 81) (v:=undef) (a':= ?_) (bt_ 15 8191) rfl rfl (by kernel_rfl) (fun _ _ _ h=>h) (Or.inr ⟨by rfl,rfl⟩) hHeld ?_ ?_;rotate_left;(simp only [Act.put,List.setIfInBounds_toArray,List.set_cons_zero,List.set_cons_succ,i64_w,i32_w];rfl);refine take_ (i:=13) (N:=some 82) (v:=undef) (a':= ?_) (bt_ 15 16383) rfl rfl (by kernel_rfl) (fun _ _ _ h=>h) (Or.inr ⟨by rfl,rfl⟩) hHeld ?_ ?_;rotate_left;(simp only [Act.put,List.setIfInBounds_toArray,List.set_cons_zero,List.set_cons_succ,i64_w,i32_w];rfl);refine pv_ (i:=14) (N:=some 83) (bt_ 15 32767) ?_;refine done_ (by kernel_rfl) ?_;have hBz:Below wf.heap.size wf wd:=hHeld.2.2.2.2.2.2.2.2.2;clear hHeld;replace HO:=am_ (Kd.R_below HO.out hBz);replace HTO:=am_ (Kd.R_below HTO.out hBz);replace HFR:=am_ (Kd.R_below HFR.out hBz);replace BK2:=am_ (blk_below BK2.out hBz);replace BK15:=am_ (blk_below BK15.out hBz);replace HB:=am_ (below_step HB.out hBz);clear hBz;go_wp2_with fail
          go_roundg (ts.length - (i+1))
          case measure=>omega
          case rel=>exact ⟨i+1,by omega,by omega,by go_num,HF4,HB,BK2,BK15,HO,HTO,HFR⟩
        | false =>
          rw [if_neg (by simp)] at hf3;obtain ⟨b,hle,hf4⟩:=Option.bind_eq_some_iff.1 hf3;obtain ⟨⟨q1,q2,q3⟩,hqv⟩: ∃q:Int×Int×Int,vec_Add.f [x.f4,sb]=some q:=⟨_,rfl⟩;rw [show mvAdd sb x.f4=⟨q1,q2,q3⟩ from by unfold mvAdd;rw [hqv];rfl] at hle;have HQV:=Aside0.mk hqv;have HLE:=Aside0.mk hle;have HF4:=Aside0.mk hf4;clear hf3 hle hf4 hqv;refine start_ (n:=15) (S:=fun w'=>w'.cell? ⟨gb18,2,none⟩=some (.int .i64 x.f2.f0)∧w'.cell? ⟨gb18,3,none⟩=some (.int .i64 x.f2.f1)∧w'.cell? ⟨gb18,4,none⟩=some (.int .i64 x.f2.f2)∧w'.cell? ⟨gb18,8,none⟩=some (.int .i64 x.f4.f0)∧w'.cell? ⟨gb18,9,none⟩=some (.int .i64 x.f4.f1)∧w'.cell? ⟨gb18,10,none⟩=some (.int .i64 x.f4.f2)∧w'.cell? ⟨gb15,0,none⟩=some (.int .i64 sb.f0)∧w'.cell? ⟨gb15,1,none⟩=some (.int .i64 sb.f1)∧w'.cell? ⟨gb15,2,none⟩=some (.int .i64 sb.f2)∧Below wf.heap.size wf w') (ds:=[]) (bt_ 15 0) (by kernel_rfl) rfl rfl ⟨cgb18_2,cgb18_3,cgb18_4,cgb18_8,cgb18_9,cgb18_10,cgb15_0,cgb15_1,cgb15_2,below_drew (Below.refl _ _)⟩ (fun hHeld=> ?_);refine pv_ (i:=0) (N:=some 69) (bt_ 15 1) ?_;refine pv_ (i:=1) (N:=some 70) (bt_ 15 3) ?_;refine one_ (i:=2) (N:=some 71) (bt_ 15 7) rfl rfl (by kernel_rfl) (by decide) (fun K hK=> ?_);refine goes_ Try.func160 (by kernel_rfl) rfl #[.slice Af fs.length cf, .string (rdOf ByteArray.empty ts i)] (by rfl) rfl rfl (by (try simp only [List.map_toArray,List.map_cons,List.map_nil]);rfl) ?_
          refine (slices_Contains_string_string.calls k _ _ fs _ _ _ (Kd.R_reads' (Kd.R_below HFR.out (hHeld.2.2.2.2.2.2.2.2.2))).2.2 (Kd.R_reads' HFR.out).2.1 HCN.out).mono ?_;rintro e wd ⟨rfl,hd⟩;have hb:=hd.below;refine ⟨_,rfl, ?_⟩;refine hK.out _ _ ⟨zh_ hb hHeld.1,zh_ hb hHeld.2.1,zh_ hb hHeld.2.2.1,zh_ hb hHeld.2.2.2.1,zh_ hb hHeld.2.2.2.2.1,zh_ hb hHeld.2.2.2.2.2.1,zh_ hb hHeld.2.2.2.2.2.2.1,zh_ hb hHeld.2.2.2.2.2.2.2.1,zh_ hb hHeld.2.2.2.2.2.2.2.2.1,below_step hHeld.2.2.2.2.2.2.2.2.2 hb⟩ (fun hHeld=> ?_);clear hK K hb hd;refine norm_ (a':= ?_) ?_ ?_;rotate_left
          · show Act.put _ (some 71) _ = _
            simp only [Act.put,List.setIfInBounds_toArray,List.set_cons_zero,List.set_cons_succ,i64_w,i32_w]
            rfl
          refine pv_ (i:=3) (N:=some 72) (bt_ 15 15) ?_;refine pv_ (i:=4) (N:=some 73) (bt_ 15 31) ?_;refine pv_ (i:=5) (N:=some 74) (bt_ 15 63) ?_;refine tv_ (i:=6) (N:=some 75) (bt_ 15 127) hHeld ?_;refine tv_ (i:=7) (N:=some 76) (bt_ 15 255) hHeld ?_;refine pv_ (i:=10) (N:=some 79) (bt_ 15 1279) ?_;refine tv_ (i:=11) (N:=some 80) (bt_ 15 3327) hHeld ?_;refine one_ (i:=8) (N:=some 77) (bt_ 15 3583) rfl rfl (by kernel_rfl) (by decide) (fun K hK=> ?_);obtain ⟨wz,hwz⟩: ∃wz,wz=wd.alloc (.cells #[.int .i64 x.f4.f0, .int .i64 x.f4.f1, .int .i64 x.f4.f2, .int .i64 sb.f0, .int .i64 sb.f1, .int .i64 sb.f2] 37):=⟨_,rfl⟩;refine value_ (v:= .slice (some ⟨wd.heap.size,0,none⟩) 2 2) (w1:=wz) (by rfl) rfl (by rw [hwz];first|(go_simp;done)|(go_simp;rfl)) ?_;have hb:Below wd.heap.size wd wz:=by rw [hwz];exact below_alloc (Below.refl _ _) _
          have BKV:=am_ (show wz.heap[wd.heap.size]?=some (.cells #[.int .i64 x.f4.f0, .int .i64 x.f4.f1, .int .i64 x.f4.f2, .int .i64 sb.f0, .int .i64 sb.f1, .int .i64 sb.f2] 37 (0,0)) from by rw [hwz];exact blk_new _ _);clear hwz;refine hK.out _ _ ⟨zh_ hb hHeld.1,zh_ hb hHeld.2.1,zh_ hb hHeld.2.2.1,zh_ hb hHeld.2.2.2.1,zh_ hb hHeld.2.2.2.2.1,zh_ hb hHeld.2.2.2.2.2.1,zh_ hb hHeld.2.2.2.2.2.2.1,zh_ hb hHeld.2.2.2.2.2.2.2.1,zh_ hb hHeld.2.2.2.2.2.2.2.2.1,below_step hHeld.2.2.2.2.2.2.2.2.2 hb⟩ (fun hHeld=> ?_);clear hK K hb;refine norm_ (a':= ?_) ?_ ?_;rotate_left
          · show Act.put _ (some 77) _ = _
            simp only [Act.put,List.setIfInBounds_toArray,List.set_cons_zero,List.set_cons_succ,i64_w,i32_w]
            rfl
          refine one_ (i:=9) (N:=some 78) (bt_ 15 4095) rfl rfl (by kernel_rfl) (by decide) (fun K hK=> ?_);refine goes_ Try.func115 (by kernel_rfl) rfl #[.slice (some ⟨wd.heap.size,0,none⟩) 2 2] (by rfl) rfl rfl (by (try simp only [List.map_toArray,List.map_cons,List.map_nil]);rfl) ?_;refine (vec_Add.calls (some ⟨_,0,none⟩) 2 [x.f4,sb] q1 q2 q3 _ (vec_two_row x.f4 sb BKV.out) (Nat.le_refl _) HQV.out).mono ?_;rintro e wy ⟨rfl,hb⟩;refine ⟨_,rfl, ?_⟩;refine hK.out _ _ ⟨zh_ hb hHeld.1,zh_ hb hHeld.2.1,zh_ hb hHeld.2.2.1,zh_ hb hHeld.2.2.2.1,zh_ hb hHeld.2.2.2.2.1,zh_ hb hHeld.2.2.2.2.2.1,zh_ hb hHeld.2.2.2.2.2.2.1,zh_ hb hHeld.2.2.2.2.2.2.2.1,zh_ hb hHeld.2.2.2.2.2.2.2.2.1,below_step hHeld.2.2.2.2.2.2.2.2.2 hb⟩ (fun hHeld=> ?_);clear hK K hb BKV;refine norm_ (a':= ?_) ?_ ?_;rotate_left
          · show Act.put _ (some 78) _ = _
            simp only [Act.put,List.setIfInBounds_toArray,List.set_cons_zero,List.set_cons_succ,i64_w,i32_w]
            rfl
          refine one_ (i:=12) (N:=some 81) (bt_ 15 8191) rfl rfl (by kernel_rfl) (by decide) (fun K hK=> ?_);refine goes_ Try.func114 (by kernel_rfl) rfl #[.agg #[.int .i64 q1, .int .i64 q2, .int .i64 q3], .agg #[.int .i64 x.f2.f0, .int .i64 x.f2.f1, .int .i64 x.f2.f2]] (by rfl) rfl rfl (by (try simp only [List.map_toArray,List.map_cons,List.map_nil]);rfl) ?_;refine (vec_Le.calls _ _ _ _ _ _ _ _ HLE.out).mono ?_;rintro e wx ⟨rfl,hb⟩;refine ⟨_,rfl, ?_⟩;refine hK.out _ _ ⟨zh_ hb hHeld.1,zh_ hb hHeld.2.1,zh_ hb hHeld.2.2.1,zh_ hb hHeld.2.2.2.1,zh_ hb hHeld.2.2.2.2.1,zh_ hb hHeld.2.2.2.2.2.1,zh_ hb hHeld.2.2.2.2.2.2.1,zh_ hb hHeld.2.2.2.2.2.2.2.1,zh_ hb hHeld.2.2.2.2.2.2.2.2.1,below_step hHeld.2.2.2.2.2.2.2.2.2 hb⟩ (fun hHeld=> ?_);clear hK K hb;refine norm_ (a':= ?_) ?_ ?_;rotate_left
          · show Act.put _ (some 81) _ = _
            simp only [Act.put,List.setIfInBounds_toArray,List.set_cons_zero,List.set_cons_succ,i64_w,i32_w]
            rfl
          refine pv_ (i:=13) (N:=some 82) (bt_ 15 16383) ?_;refine pv_ (i:=14) (N:=some 83) (bt_ 15 32767) ?_;refine done_ (by kernel_rfl) ?_;have hBz:Below wf.heap.size wf wx:=hHeld.2.2.2.2.2.2.2.2.2;clear hHeld;replace HO:=am_ (Kd.R_below HO.out hBz);replace HTO:=am_ (Kd.R_below HTO.out hBz);replace HFR:=am_ (Kd.R_below HFR.out hBz);replace BK2:=am_ (blk_below BK2.out hBz);replace BK15:=am_ (blk_below BK15.out hBz);replace HB:=am_ (below_step HB.out hBz);clear hBz;have hf4:=HF4.out;clear HF4
          cases b with
          | true =>
            rw [if_pos rfl] at hf4;have HF4:=Aside0.mk hf4;clear hf4;go_wp2_with fail
            go_roundg (ts.length - (i+1))
            case measure=>omega
            case rel=>exact ⟨i+1,by omega,by omega,by go_num,HF4,HB,BK2,BK15,HO,HTO,HFR⟩
          | false =>
            rw [if_neg (by simp)] at hf4;cases hf4;have h8:=HH.out;rw [if_pos rfl] at h8;cases h8;go_wp2_with fail
            go_ret2
            exact ⟨_,rfl,Kd.R_nil _ _ _ _ _,HB.out⟩
def tree_Below.l0:Nat→ByteArray→List ByteArray→List (S79)→Int→Int→Option (List ByteArray)
 |0,_,_,_,_,_=>none
 |k+1,x1,x5,x8,x9,x10=>if x10<x9 then (if 0≤x10 then (if x10<(x8.length:Int) then (if ((rd_T79 x8 x10).f1).toList=x1.toList then (if x5.length<8796093022208 then (tree_Below.l0 k x1 (x5++ [(rd_T79 x8 x10).f0]) x8 x9 (wrap64 (x10+1))) else (none)) else (tree_Below.l0 k x1 x5 x8 x9 (wrap64 (x10+1)))) else (none)) else (none)) else (some x5)
def tree_Below.f (k:Nat) (l0:List (S79)) (a1:ByteArray):Option (List ByteArray):=tree_Below.l0 k a1 ([]:List ByteArray) l0 (l0.length:Int) 0
theorem tree_Below.mono_l: ∀k,(∀y0 y1 y2 y3 y4,LeO (tree_Below.l0 k y0 y1 y2 y3 y4) (tree_Below.l0 (k+1) y0 y1 y2 y3 y4))
 |0=>fun _ _ _ _ _ r h=>by simp [tree_Below.l0] at h
 |k+1=>by
  have ih0:=tree_Below.mono_l k;intro y0 y1 y2 y3 y4;unfold tree_Below.l0
  repeat' with_reducible first|apply ih0|apply LeO.refl|apply LeO.none|apply LeO.ite|refine LeO.bind ?_ fun _=> ?_
theorem tree_Below.mono: ∀a0 a1 k,LeO (tree_Below.f k a0 a1) (tree_Below.f (k+1) a0 a1):=by
 intro a0 a1 k;have ih0:=tree_Below.mono_l k;unfold tree_Below.f
 repeat' with_reducible first|apply ih0|apply LeO.refl|apply LeO.none|apply LeO.ite|refine LeO.bind ?_ fun _=> ?_
set_option maxHeartbeats 8000000 in
set_option maxRecDepth 100000 in
theorem tree_Below.calls (k:Nat) (A0:Option Addr) (c0:Nat) (l0:List (S79)) (a1:ByteArray) (r:List ByteArray) (w:World) (hr0:Kd.C k79 w A0 l0.length l0) (hc0:l0.length≤c0) (h:tree_Below.f k l0 a1=some r):
  Calls Try.prog 165 #[.slice A0 l0.length c0, .string a1] w fun e w'=> ∃v0_:Value,e= .returned (v0_)∧Kd.R Kd.string 9 w' w.heap.size (fun _=>True) v0_ r∧Below w.heap.size w w':=by
 have hu79:=Try.underlying79;have HR0:=Aside0.mk hr0;have HC0:=Aside0.mk hc0;clear hr0 hc0;have HB:=am_ (Below.refl w.heap.size w);have H:(tree_Below.l0 k a1 ([]:List ByteArray) l0 (l0.length:Int) 0)=some r:=h;clear h;have H':=Aside0.mk H;clear H;go_enter Try.func165,Try.ntmps165;go_wp2
 go_loopg [5,10] k (fun kq v5 v10 w'=> ∃(x5_1:List ByteArray) (x10_1:Int),v10= .int .i64 x10_1∧Aside0 (tree_Below.l0 kq a1 x5_1 l0 (l0.length:Int) x10_1=some r)∧Aside0 (kq≤k)∧Aside0 (Kd.R Kd.string 9 w' w.heap.size (fun _=>True) v5 x5_1)∧Aside0 (Below w.heap.size w w'))
 case atStart=>exact ⟨(([]:List ByteArray)),(0),rf_,H',⟨Nat.le_refl _⟩,⟨by first|exact Kd.R_nil _ _ _ _ _|exact Kd.N_nil _ _ _ _ _|exact Kd.V_nil _ _ _ _ _|exact Kd.Q_nil _ _ _ _ _|exact Kd.S_nil _ _ _ _ _⟩,⟨zl0_ HB⟩⟩
 case round=>
  clear H';obtain ⟨x5_1,x10_1,rfl,HA,HK1,HO_5,HB⟩:=hrel
  cases gk with
  |zero=>exact absurd HA.out (by simp [tree_Below.l0])
  |succ k1=>
   have H:=HA.out;clear HA;simp only [tree_Below.l0] at H;by_cases c3:x10_1<(l0.length:Int);rotate_left
   ·rw [if_neg c3] at H;have c3b0:=decide_eq_false c3;clear c3;obtain rfl:=Option.some.inj H;go_wp2
    go_ret
    exact ⟨_,by first|rfl|(simp [errW_none,errW_some]<;>rfl)|(simp [*,errW_none,errW_some]<;>rfl),zr_ HO_5,zl0_ HB⟩

   rw [if_pos c3] at H;have c3b0:=decide_eq_true c3;clear c3;replace H:=zif_ H;obtain ⟨c4,H⟩:=H;have c4b0:=decide_eq_true c4;clear c4;replace H:=zif_ H;obtain ⟨c5,H⟩:=H;have c5b0:=decide_eq_true c5;clear c5;by_cases c6:((rd_T79 l0 x10_1).f1).toList=a1.toList;rotate_left
   ·rw [if_neg c6] at H;have c6b0:=beq_eq_false_iff_ne.mpr c6;have c6b1:=bne_iff_ne.mpr c6;have H':=Aside0.mk H;clear H;obtain ⟨p1,q1,ad1,e1,hx1_0,hx1_1,hx1_2,hx1_3,hx1_4,hx1_5,hx1_6,hx1_7,hx1_8,hx1_9,hx1_10,hx1_11⟩:=zat_ (at_T79 HR0.out x10_1);cases e1;replace hx1_0:=zx12_ HB hx1_0 hx1_1 hx1_2 hx1_3 hx1_4 hx1_5 hx1_6 hx1_7 hx1_8 hx1_9 hx1_10 hx1_11;clear hx1_1 hx1_2 hx1_3 hx1_4 hx1_5 hx1_6 hx1_7 hx1_8 hx1_9 hx1_10 hx1_11;obtain ⟨hx1_0,hx1_1,hx1_2,hx1_3,hx1_4,hx1_5,hx1_6,hx1_7,hx1_8,hx1_9,hx1_10,hx1_11⟩:=hx1_0
    go_wp2_with (first|((with_reducible refine gate_dst (N:=7) rfl ?_);refine bx_ (N:=7) (cs:=#[.string (⟨#[]⟩:ByteArray), .string (⟨#[]⟩:ByteArray), .int .i64 0, .int .i64 0, .int .i64 0, .int .i64 0, .int .i64 0, .int .i64 0, .int .i64 0, .int .i64 0, .int .i64 0, .int .i64 0]) (t:=79) ?_;intro gb2 hg w11 hbox hb;replace HO_5:=ob_ HO_5 hb;have BK2:=am_ (hbox);have GE2:=am_ ((zg0_ HB hg:w.heap.size≤gb2));replace HB:=am_ (below_step (zl0_ HB) hb);clear hb hbox hg;obtain ⟨hcz12_0,hcz12_1,hcz12_2,hcz12_3,hcz12_4,hcz12_5,hcz12_6,hcz12_7,hcz12_8,hcz12_9,hcz12_10,hcz12_11⟩:=x12_ BK2;have hfz12_0:=blk_frozen BK2.out 0;have hfz12_1:=blk_frozen BK2.out 1;have hfz12_2:=blk_frozen BK2.out 2;have hfz12_3:=blk_frozen BK2.out 3;have hfz12_4:=blk_frozen BK2.out 4;have hfz12_5:=blk_frozen BK2.out 5;have hfz12_6:=blk_frozen BK2.out 6;have hfz12_7:=blk_frozen BK2.out 7;have hfz12_8:=blk_frozen BK2.out 8;have hfz12_9:=blk_frozen BK2.out 9;have hfz12_10:=blk_frozen BK2.out 10;have hfz12_11:=blk_frozen BK2.out 11))
    go_roundg k1
    case measure=>have:=HK1.out;omega
    case rel=>exact ⟨(x5_1),(wrap64 (x10_1+1)),rf_,H',⟨by have:=HK1.out;omega⟩,⟨zy_ HO_5 BK2⟩,⟨zl1_ HB GE2⟩⟩
   rw [if_pos c6] at H;have c6b0:=beq_iff_eq.mpr c6;have c6b1:=bne_eq_false_iff_eq.mpr c6;clear c6;replace H:=zif_ H;obtain ⟨c7,H⟩:=H;have LMc7:=Aside0.mk c7;clear c7;obtain ⟨y3,hy3⟩: ∃y_:List ByteArray,y_=(x5_1++ [(rd_T79 l0 x10_1).f0]):=⟨_,rfl⟩;(first|replace H:=zsb_ hy3 H|rw [←hy3] at H);have Ny3:=Aside0.mk hy3;clear hy3;have H':=Aside0.mk H;clear H;obtain ⟨p1,q1,ad1,e1,hx1_0,hx1_1,hx1_2,hx1_3,hx1_4,hx1_5,hx1_6,hx1_7,hx1_8,hx1_9,hx1_10,hx1_11⟩:=zat_ (at_T79 HR0.out x10_1);cases e1;replace hx1_0:=zx12_ HB hx1_0 hx1_1 hx1_2 hx1_3 hx1_4 hx1_5 hx1_6 hx1_7 hx1_8 hx1_9 hx1_10 hx1_11;clear hx1_1 hx1_2 hx1_3 hx1_4 hx1_5 hx1_6 hx1_7 hx1_8 hx1_9 hx1_10 hx1_11;obtain ⟨hx1_0,hx1_1,hx1_2,hx1_3,hx1_4,hx1_5,hx1_6,hx1_7,hx1_8,hx1_9,hx1_10,hx1_11⟩:=hx1_0
   go_wp2_with (first|((with_reducible refine gate_dst (N:=7) rfl ?_);refine bx_ (N:=7) (cs:=#[.string (⟨#[]⟩:ByteArray), .string (⟨#[]⟩:ByteArray), .int .i64 0, .int .i64 0, .int .i64 0, .int .i64 0, .int .i64 0, .int .i64 0, .int .i64 0, .int .i64 0, .int .i64 0, .int .i64 0]) (t:=79) ?_;intro gb2 hg w8 hbox hb;replace HO_5:=ob_ HO_5 hb;have BK2:=am_ (hbox);have GE2:=am_ ((zg0_ HB hg:w.heap.size≤gb2));replace HB:=am_ (below_step (zl0_ HB) hb);clear hb hbox hg;obtain ⟨hcz9_0,hcz9_1,hcz9_2,hcz9_3,hcz9_4,hcz9_5,hcz9_6,hcz9_7,hcz9_8,hcz9_9,hcz9_10,hcz9_11⟩:=x12_ BK2;have hfz9_0:=blk_frozen BK2.out 0;have hfz9_1:=blk_frozen BK2.out 1;have hfz9_2:=blk_frozen BK2.out 2;have hfz9_3:=blk_frozen BK2.out 3;have hfz9_4:=blk_frozen BK2.out 4;have hfz9_5:=blk_frozen BK2.out 5;have hfz9_6:=blk_frozen BK2.out 6;have hfz9_7:=blk_frozen BK2.out 7;have hfz9_8:=blk_frozen BK2.out 8;have hfz9_9:=blk_frozen BK2.out 9;have hfz9_10:=blk_frozen BK2.out 10;have hfz9_11:=blk_frozen BK2.out 11)|((with_reducible refine gate_builtin (b:= .append) (xs:=#[.tmp 18, .tmp 21]) rfl ?_);at_builtin;refine Kd.R_append Kd.string (w0:=w) w.heap.size rfl (.tmp 18) (.tmp 21) 85 9 (.string ⟨#[]⟩) 16 rfl Try.underlying85 info9 rfl (by decide) (by omega) u5 x5_1 ((rd_T79 l0 x10_1).f0) [.string ((rd_T79 l0 x10_1).f0)] (fun _=>True) (fun _=>False) rfl (by first|(go_simp;done)|(go_simp;rfl)) ?aP (fun _ hk=>hk.elim) ?aF ?aO ?aB ?aS ?aL ?_;(case aP=>exact rfl);(case aB=>exact (zl1_ HB GE2));(case aF=>exact (fun _ _=>trivial));(case aO=>exact (by refine zt_ ?_;exact zy_ HO_5 BK2));(case aS=>exact (below_size (zl1_ HB GE2)));(case aL=>have:=LMc7.out;omega);intro v4 w10 ho hb hg hat;rw [←Ny3.out] at ho;have n0_:=am_ (blk_grown (g:=gb2) (o:= .cells #[.string ((rd_T79 l0 x10_1).f0), .string ((rd_T79 l0 x10_1).f1), .int .i64 ((rd_T79 l0 x10_1).f2.f0), .int .i64 ((rd_T79 l0 x10_1).f2.f1), .int .i64 ((rd_T79 l0 x10_1).f2.f2), .int .i64 ((rd_T79 l0 x10_1).f3.f0), .int .i64 ((rd_T79 l0 x10_1).f3.f1), .int .i64 ((rd_T79 l0 x10_1).f3.f2), .int .i64 ((rd_T79 l0 x10_1).f4.f0), .int .i64 ((rd_T79 l0 x10_1).f4.f1), .int .i64 ((rd_T79 l0 x10_1).f4.f2), .int .i64 ((rd_T79 l0 x10_1).f5)] 79 (0,0)) (zw_ BK2) hg (Kd.R_ne HO_5.out BK2.out (by decide)));have n1_:=am_ (hb);have n2_:=am_ (ho);clear BK2;clear HB;clear HO_5;have BK2:=n0_;have HB:=n1_;have HO5:=n2_;clear n0_ n1_ n2_;clear ho hb hg hat))
   go_roundg k1
   case measure=>have:=HK1.out;omega
   case rel=>exact ⟨(y3),(wrap64 (x10_1+1)),rf_,H',⟨by have:=HK1.out;omega⟩,am_ (zr_ HO5),⟨zl1_ HB GE2⟩⟩
set_option maxHeartbeats 4000000 in
set_option maxRecDepth 100000 in
theorem sliDelete_cells (w:World) (g n c i:Nat) (cur:Array Value) (h:w.heap[g]?=some (.cells cur 79 (0,0))) (hcs:cur.size=c*12) (hn:n≤c) (hm:c≤9223372036854775807) (hi:i<n) (h1: ∀u∈cur.toList.take (n*12),u.oneCell'=true):
    Calls Try.prog 166 #[.slice (some ⟨g,0,none⟩) n c, .int .i64 i, .int .i64 (i+1)] w fun e w'=>e= .returned (.slice (some ⟨g,0,none⟩) (n - 1) c)∧
      w'=(w.drew.setCells g (i*12) ((cur.toList.take (n*12)).drop ((i+1)*12))).setCells g ((n - 1)*12) zCells:=by
  have hz1: ¬((i:Int)=(i:Int)+1):=by omega
  obtain ⟨news,hnews⟩: ∃news,news=(cur.toList.take (n*12)).drop ((i+1)*12):=⟨_,rfl⟩;have hsz:n*12≤cur.size:=by rw [hcs];exact Nat.mul_le_mul_right _ hn
  have hlen:news.length=(n - (i+1))*12:=by
    rw [hnews,List.length_drop,List.length_take,Array.length_toList]
    omega
  have hget: ∀t u,news[t]?=some u→w.cell? ⟨g,(i+1)*12+t,none⟩=some u:=by
    intro t u hu;rw [hnews,List.getElem?_drop,List.getElem?_take] at hu
    split at hu
    · exact plain_cell h hu
    cases hu
  obtain ⟨A,hA,hsrc⟩: ∃A:Addr,(if c=i+1 then some (⟨g,0,none⟩:Addr) else some ⟨g,(i+1)*12,none⟩)=some A∧Aside0 (∀t u,news[t]?=some u→w.drew.cell? (A.add t)=some u):=by
    by_cases hc:c=i+1
    · refine ⟨⟨g, 0, none⟩, by simp [hc], ⟨fun t u hu => ?_⟩⟩
      have h0:news.length=0:=by rw [hlen,show n - (i+1)=0 by omega]
      rw [List.length_eq_zero_iff.1 h0] at hu
      simp at hu
    refine ⟨⟨g,(i+1)*12,none⟩,by simp [hc],⟨fun t u hu=> ?_⟩⟩;rw [Addr.add_lit];exact hget t u hu
  have s1:=Aside0.mk hlen;have HN:=Aside0.mk hnews
  have s2:Aside0 (∀u∈news,u.oneCell'=true):=⟨by
    intro u hu;rw [hnews] at hu;exact h1 u (List.mem_of_mem_drop hu)⟩
  have s3:Aside0 (∀t,t<news.length→(w.drew.cell? ⟨g,0+i*12+t,none⟩).isSome=true∧w.drew.frozen? ⟨g,0+i*12+t,none⟩=false):=⟨by
    intro t ht;rw [hlen] at ht;rw [Nat.zero_add];exact ⟨plain_there (w:=w.drew) (blk_drew h) (by omega),blk_frozen (w:=w.drew) (blk_drew h) _⟩⟩
  obtain ⟨W1,hW1⟩: ∃W1,W1=w.drew.setCells g (0+i*12) news:=⟨_,rfl⟩;have hW:=Aside0.mk hW1;obtain ⟨i0,hi0,hz0,hzs,hzb⟩:=info_parts info79;have HI:=Aside0.mk hi0;have HS:=Aside0.mk hzs
  have hW1b: ∃cur',W1.heap[g]?=some (.cells cur' 79 (0,0))∧cur'.size=cur.size:=by
    obtain ⟨cur',x,y,_⟩:=setCells_row news (0+i*12) w.drew cur (blk_drew h) (by rw [hlen];omega);exact ⟨cur',by rw [hW1];exact x,y⟩
  obtain ⟨cur',hc1,hc2⟩:=hW1b
  have hcl: ∀ty o' n' c',o'=(n - 1)*12→n'=1→(Builtin.clear_ #[46] ty #[.slice (some ⟨g,o',none⟩) n' c']).run Try.prog W1= .ok (.tuple #[]) (W1.setCells g ((n - 1)*12) zCells):=by
    rintro ty o' n' c' rfl rfl;exact run_clear_one W1 _ 79 ty _ zCells Try.underlying46 Try.zeroValue79 (by kernel_rfl) (by intro u hu;simp only [zCells,List.mem_cons,List.not_mem_nil,or_false] at hu;rcases hu with rfl|rfl|rfl|rfl|rfl|rfl|rfl|rfl|rfl|rfl|rfl|rfl<;>rfl) g _ c' (fun j hj=>plain_there hc1 (by rw [hc2];have:zCells.length=12:=rfl;omega)) (fun j hj=>blk_frozen hc1 _)
  have HCL:=Aside0.mk hcl;have hic:i≤c:=by omega
  have hjc:i+1≤n:=by omega
  have mixed:Try.prog.follows .mixedOrders=true:=by kernel_rfl
  have hz2:(0:Int)≤(i:Int)+1:=by omega
  have hz3:(i:Int)+1≤(n:Int):=by omega
  clear hW1 hnews hget hlen h1 hi0 hzs hz0 hzb hcl hc1 hc2 h hcs hsz;go_enter Try.func166,Try.ntmps166;go_wp2_with fail
  go_region_law_o (refine step_append_room rfl (.tmp 22) (.tmp 25) 46 rfl 79 i0 12 Try.underlying46 HI.out HS.out g 0 i c (by simp [Act.eval,Act.put]) A (n - (i+1)) (c - (i+1)) news (by simp [Act.eval,Act.put]) s1.out hsrc.out s2.out (by omega) s3.out ?_;rw [←hW.out])
  go_wp2_with fail
  rw [HCL.out _ _ _ _ (by omega) (by omega)];go_wp2
  go_ret
  refine ⟨by rw [show i+(n - (i+1))=n - 1 by omega];rfl, ?_⟩;rw [hW.out,Nat.zero_add,HN.out]
theorem sliDelete_calls (w:World) (base:Nat) (v:Value) (l:List S79) (i:Nat) (hr:Kd.R k79 79 w base (fun _=>True) v l) (hi:i<l.length):
  Calls Try.prog 166 #[v, .int .i64 i, .int .i64 (i+1)] w fun e w'=> ∃v',e= .returned v'∧Kd.R k79 79 w' base (fun _=>True) v' (l.take i++l.drop (i+1))∧Below base w w':=by
 obtain ⟨g,c,rfl,hg,hgl⟩:=sh_head hr (by omega)
 obtain ⟨_,_,hnc,hcm,cur,hh,hcs,ht⟩:=R_cells hr
 refine (sliDelete_cells w g l.length c i cur hh hcs hnc hcm hi (by rw [ht];exact flat_one l)).mono ?_
 rintro e w' ⟨rfl,rfl⟩
 have hlc:l.length*12≤cur.size:=by rw [hcs];exact Nat.mul_le_mul_right _ hnc
 rw [ht,flat_drop l (i+1) (by omega)]
 have hl1:(flat (l.drop (i+1))).length=(l.length - (i+1))*12:=by rw [flat_lenI,List.length_drop]
 obtain ⟨cur1,h1,s1,t1⟩:=setCells_row (flat (l.drop (i+1))) (i*12) w.drew cur (blk_drew hh) (by rw [hl1];omega)
 obtain ⟨cur2,h2,s2,t2⟩:=setCells_row zCells ((l.length - 1)*12) _ cur1 h1 (by rw [s1];show _+12≤_;omega)
 have hll:(l.take i++l.drop (i+1)).length=l.length - 1:=by simp;omega
 refine ⟨_,rfl, ?_,Below.setCells_ (Below.setCells_ (below_drew (Below.refl _ _)) hg _ _) hg _ _⟩
 have:=R_of_cells (l:=l.take i++l.drop (i+1)) hg (by rw [hll];omega) hcm h2 (by rw [s2,s1,hcs]) (by
  rw [hll,t2,t1,List.append_assoc,List.take_append_of_le_length (by simp [hl1,Array.length_toList];omega),List.take_take,Nat.min_self,
   List.take_append_of_le_length (by simp [hl1,Array.length_toList];omega),flat_append,←flat_take l i (by omega),←ht,List.take_take,Nat.min_eq_left (by omega)]
  exact List.take_of_length_le (by simp [hl1,Array.length_toList];omega))
 rw [hll] at this
 exact this
def shape_Delete.f (k:Nat) (l0:List (S79)) (a1:ByteArray) (a2:Int):Option ((List (S79))×Int):=
 (shape_made.f l0 a1).bind fun p=>(guardF p.1 p.2 a2).bind fun e=>if e≠0 then some ([],e) else (tree_Below.f k l0 a1).bind fun b=>if (b.length:Int)>0 then some ([],13) else
  if (rd_T79 p.1 p.2).f3.f0=0∧(rd_T79 p.1 p.2).f3.f1=0∧(rd_T79 p.1 p.2).f3.f2=0 then some (p.1.take p.2.toNat++p.1.drop (p.2.toNat+1),0) else some ([],13)
theorem shape_Delete.mono: ∀a0 a1 a2 k,LeO (shape_Delete.f k a0 a1 a2) (shape_Delete.f (k+1) a0 a1 a2):=by
 intro a0 a1 a2 k;unfold shape_Delete.f
 repeat' with_reducible first|apply tree_Below.mono|apply LeO.refl|apply LeO.none|apply LeO.ite|refine LeO.bind ?_ fun _=> ?_
theorem guard_zero {l:List S79} {j ver:Int} (h:guardF l j ver=some 0):0≤j∧j<(l.length:Int):=by
  unfold guardF at h
  split at h
  · cases h
  split at h
  · omega
  cases h
set_option maxHeartbeats 8000000 in
set_option maxRecDepth 100000 in
theorem shape_Delete.calls (k:Nat) (A0:Option Addr) (c0:Nat) (l0:List (S79)) (a1:ByteArray) (a2:Int) (r1:List (S79)) (r2:Int) (w:World) (hr0:Kd.C k79 w A0 l0.length l0) (hc0:l0.length≤c0) (h:shape_Delete.f k l0 a1 a2=some (r1,r2)):
    Calls Try.prog 141 #[.slice A0 l0.length c0, .string a1, .int .i64 a2] w fun e w'=> ∃v0_:Value,e= .returned (.tuple #[v0_, .int .i64 r2])∧Kd.R k79 79 w' w.heap.size (fun _=>True) v0_ r1∧Below w.heap.size w w':=by
  have hu197:=Try.underlying197;have hu195:=Try.underlying195;have hu79:=Try.underlying79;have hu37:=Try.underlying37;unfold shape_Delete.f at h;obtain ⟨⟨out,j⟩,hmd,h1⟩:=Option.bind_eq_some_iff.1 h;clear h;obtain ⟨e0,hgd,h2⟩:=Option.bind_eq_some_iff.1 h1;clear h1;dsimp only at hgd h2
  have hlim:out.length<1256584717458:=by
    unfold shape_made.f slices_Clone_Item.f at hmd
    split at hmd
    rotate_left
    · cases hmd
    obtain ⟨_,h1,h2⟩:=Option.bind_eq_some_iff.1 hmd;obtain ⟨_,h3,h4⟩:=Option.bind_eq_some_iff.1 h2;cases h4;cases h1
    assumption
  have HR:=Aside0.mk hr0;have HC:=Aside0.mk hc0;have HM:=Aside0.mk hmd;have HG:=Aside0.mk hgd;have HL:=Aside0.mk hlim;have HB:=am_ (Below.refl w.heap.size w);have HH:=Aside0.mk h2;clear hr0 hc0 hmd hgd h2 hlim;go_enter Try.func141,Try.ntmps141;go_wp2_with fail
  refine (shape_made.calls _ _ _ _ _ _ _ (Kd.C_below HR.out HB.out) HC.out HM.out).mono ?_;rintro e w3 ⟨v0,rfl,ho,hb⟩;have HO:=am_ (Kd.R_lower ho (below_size HB.out));have HLT:=am_ (Kd.R_lt ho);replace HB:=am_ (below_step HB.out hb);clear ho hb;obtain ⟨A5,c5,rfl⟩: ∃A5 c5,v0= .slice A5 out.length c5:=Kd.R_slice HO.out;go_wp2_with (first|((with_reducible refine gate_dst (N:=8) rfl ?_);refine bx_ (N:=8) (cs:=#[.slice none 0 0, .int .i64 0]) (t:=197) ?_;intro gb2 hg w4 hbox hb;replace HO:=am_ (Kd.R_below HO.out hb);have BK2:=am_ (hbox);have GE2:=am_ ((by rw [hg];exact below_size HB.out:w.heap.size≤gb2));replace HB:=am_ (below_step HB.out hb);have EQ2:=am_ (hg);clear hb hbox hg)|((with_reducible refine gate_store (t:=197) (p:=8) (v:= .tmp 12) rfl ?_);refine store_all BK2.out 197 (.tmp 8) (.tmp 12) rfl rfl rfl (.agg #[.slice A5 out.length c5, .int .i64 j]) [.slice A5 out.length c5, .int .i64 j] rfl rfl rfl (by kernel_rfl) rfl (by intro q hq;simp only [List.mem_cons,List.not_mem_nil,or_false] at hq;rcases hq with rfl|rfl<;>rfl) ?_;intro w5 hbk hg;replace HO:=am_ (R_put HO.out BK2.out (by decide) hg);replace HB:=am_ (below_put HB.out (below_size HB.out) hg GE2.out);replace BK2:=am_ (hbk);clear hbk hg;have cgb2_0:=zz_ BK2 0;have cgb2_1:=zz_ BK2 1))
  refine (shapeGuard_calls _ _ _ out j a2 e0 HO.out HG.out).mono ?_;rintro e w6 ⟨rfl,hb⟩;clear cgb2_0 cgb2_1;replace HO:=am_ (Kd.R_below HO.out hb);replace BK2:=am_ (blk_below BK2.out hb);replace HB:=am_ (below_step HB.out hb);clear hb;have cgb2_0:=zz_ BK2 0;have cgb2_1:=zz_ BK2 1;have h2:=HH.out;clear HH;by_cases c1:e0=0;rotate_left
  · rw [if_pos c1] at h2
    cases h2
    have q1:(r2==0)=false:=by simpa using c1
    go_wp2_with fail
    go_ret2
    exact ⟨_,rfl,Kd.R_nil _ _ _ _ _,HB.out⟩


  cases c1;rw [if_neg (by simp)] at h2;obtain ⟨hj0,hj1⟩:=guard_zero HG.out;obtain ⟨bl,hbl,h3⟩:=Option.bind_eq_some_iff.1 h2;have HBL:=Aside0.mk hbl;have HH:=Aside0.mk h3;clear h2 h3 hbl;go_wp2_with fail
  refine (tree_Below.calls k _ _ _ _ _ _ (Kd.C_below HR.out HB.out) HC.out HBL.out).mono ?_;rintro e w7 ⟨vb,rfl,hob,hb⟩;clear cgb2_0 cgb2_1;replace HO:=am_ (Kd.R_below HO.out hb);replace BK2:=am_ (blk_below BK2.out hb);replace HB:=am_ (below_step HB.out hb);have cgb2_0:=zz_ BK2 0;have cgb2_1:=zz_ BK2 1;obtain ⟨Ab,cb,rfl⟩:=Kd.R_slice hob;clear hb hob;have h3:=HH.out;clear HH;by_cases c2:(bl.length:Int)>0
  · rw [if_pos c2] at h3
    cases h3
    have q2:(0<bl.length)=True:=eq_true (by omega)
    clear c2
    go_wp2_with fail
    go_ret2
    exact ⟨_,rfl,Kd.R_nil _ _ _ _ _,HB.out⟩
  rw [if_neg c2] at h3;obtain rfl:bl=[]:=List.length_eq_zero_iff.1 (by omega);clear c2;obtain ⟨gb,cap,hv0,hgb,hgl⟩:=sh_head HO.out (by omega);cases hv0;have hcs:=sh_cells HO.out j hj0 hj1;have HCS:=Aside0.mk hcs;have HGL:=Aside0.mk hgl;have HJ0:=Aside0.mk hj0;have HJ1:=Aside0.mk hj1;have HH:=Aside0.mk h3;clear hcs hgl h3 hgb hj0 hj1;go_wp2_with fail
  refine (shapeItem_calls _ ⟨gb,0,none⟩ out.length c5 j HJ0.out HJ1.out).mono ?_;rintro e w8 ⟨rfl,hb⟩;clear cgb2_0 cgb2_1;have k5:=(hb.cell (p:=⟨gb,j.toNat*12+5,none⟩) HGL.out).trans (HCS.out 5 _ rfl);have k6:=(hb.cell (p:=⟨gb,j.toNat*12+6,none⟩) HGL.out).trans (HCS.out 6 _ rfl);have k7:=(hb.cell (p:=⟨gb,j.toNat*12+7,none⟩) HGL.out).trans (HCS.out 7 _ rfl);replace HO:=am_ (Kd.R_below HO.out hb);replace BK2:=am_ (blk_below BK2.out hb);replace HB:=am_ (below_step HB.out hb);have cgb2_0:=zz_ BK2 0;have cgb2_1:=zz_ BK2 1;have h3:=HH.out;clear HH hb HCS;generalize rd_T79 out j=y at k5 k6 k7 h3;by_cases c3:y.f3.f0=0∧y.f3.f1=0∧y.f3.f2=0
  · rw [if_pos c3] at h3
    cases h3
    obtain ⟨q3,q4,q5⟩:=c3
    rw [q3] at k5
    rw [q4] at k6
    rw [q5] at k7
    go_wp2_with fail
    have ej:((j.toNat:Nat):Int)=j:=Int.toNat_of_nonneg HJ0.out
    have hl:=HL.out
    have hj1:=HJ1.out
    refine calls_of_args (args':=#[.slice (some ⟨gb,0,none⟩) out.length c5, .int .i64 (j.toNat:Int), .int .i64 ((j.toNat:Int)+1)]) (by rw [ej,show wrap64 (j+1)=j+1 from by unfold wrap64;omega]) ((sliDelete_calls _ w.heap.size _ out j.toNat HO.out (by omega)).mono ?_)
    rintro e w9 ⟨v1,rfl,ho,hb⟩
    have HO9:=Aside0.mk ho
    have HB9:=am_ (HB.out.trans hb)
    clear ho hb
    go_wp2_with fail
    go_ret2
    exact ⟨_,rfl,HO9.out,HB9.out⟩
  rw [if_neg c3] at h3;cases h3;by_cases q3:y.f3.f0=0;rotate_left
  · have q3b : (y.f3.f0 == 0) = false := by simpa using q3
    clear c3
    go_wp2_with fail
    go_ret2
    exact ⟨_,rfl,Kd.R_nil _ _ _ _ _,HB.out⟩
  rw [q3] at k5;by_cases q4:y.f3.f1=0;rotate_left
  · have q4b : (y.f3.f1 == 0) = false := by simpa using q4
    clear c3
    go_wp2_with fail
    go_ret2
    exact ⟨_,rfl,Kd.R_nil _ _ _ _ _,HB.out⟩
  rw [q4] at k6;have q5: ¬y.f3.f2=0:=fun e=>c3 ⟨q3,q4,e⟩
  have q5b:(y.f3.f2==0)=false:=by simpa using q5
  clear c3;go_wp2_with fail
  go_ret2
  exact ⟨_,rfl,Kd.R_nil _ _ _ _ _,HB.out⟩
def shape_Do.f (k:Nat) (l0:List (S79)) (a1_0:Int) (a1_1:ByteArray) (a1_2:ByteArray) (a1_3:Int) (a1_4:Int) (a1_5:Int) (a2:Int):Option ((List (S79))×Int):=if a1_0=1 then ((shape_Create.f l0 a1_1 a1_2 a1_3 a1_4 a1_5).bind fun bt2=>(some (bt2.1,bt2.2))) else (if a1_0=2 then ((shape_Limit.f l0 a1_1 a1_3 a1_4 a1_5 a2).bind fun bt6=>(some (bt6.1,bt6.2))) else (if a1_0=3 then ((shape_Move.f k l0 a1_1 a1_2 a2).bind fun bt10=>(some (bt10.1,bt10.2))) else (if a1_0=4 then ((shape_Delete.f k l0 a1_1 a2).bind fun bt14=>(some (bt14.1,bt14.2))) else (some (([]:List (S79)),1)))))
theorem shape_Do.mono: ∀a0 a1 a2 a3 a4 a5 a6 a7 k,LeO (shape_Do.f k a0 a1 a2 a3 a4 a5 a6 a7) (shape_Do.f (k+1) a0 a1 a2 a3 a4 a5 a6 a7):=by
 intro a0 a1 a2 a3 a4 a5 a6 a7 k;unfold shape_Do.f
 repeat' with_reducible first|apply shape_Delete.mono|apply shape_Move.mono|apply LeO.refl|apply LeO.none|apply LeO.ite|refine LeO.bind ?_ fun _=> ?_
set_option maxHeartbeats 8000000 in
set_option maxRecDepth 100000 in
theorem shape_Do.calls (k:Nat) (A0:Option Addr) (c0:Nat) (l0:List (S79)) (a1_0:Int) (a1_1:ByteArray) (a1_2:ByteArray) (a1_3:Int) (a1_4:Int) (a1_5:Int) (a2:Int) (r1:List (S79)) (r2:Int) (w:World) (hr0:Kd.C k79 w A0 l0.length l0) (hc0:l0.length≤c0) (h:shape_Do.f k l0 a1_0 a1_1 a1_2 a1_3 a1_4 a1_5 a2=some (r1,r2)):
  Calls Try.prog 105 #[.slice A0 l0.length c0, .agg #[.int .i64 a1_0, .string a1_1, .string a1_2, .int .i64 a1_3, .int .i64 a1_4, .int .i64 a1_5], .int .i64 a2] w fun e w'=> ∃v0_:Value,e= .returned (.tuple #[v0_, .int .i64 r2])∧Kd.R k79 79 w' w.heap.size (fun _=>True) v0_ r1∧Below w.heap.size w w':=by
 have hu76:=Try.underlying76;have hu37:=Try.underlying37;have HR0:=Aside0.mk hr0;have HC0:=Aside0.mk hc0;clear hr0 hc0;have HB:=am_ (Below.refl w.heap.size w);have H:(if a1_0=1 then ((shape_Create.f l0 a1_1 a1_2 a1_3 a1_4 a1_5).bind fun bt2=>(some (bt2.1,bt2.2))) else (if a1_0=2 then ((shape_Limit.f l0 a1_1 a1_3 a1_4 a1_5 a2).bind fun bt6=>(some (bt6.1,bt6.2))) else (if a1_0=3 then ((shape_Move.f k l0 a1_1 a1_2 a2).bind fun bt10=>(some (bt10.1,bt10.2))) else (if a1_0=4 then ((shape_Delete.f k l0 a1_1 a2).bind fun bt14=>(some (bt14.1,bt14.2))) else (some (([]:List (S79)),1))))))=some (r1,r2):=h;clear h;by_cases c4:a1_0=1
 ·rw [if_pos c4] at H;have c4b0:=beq_iff_eq.mpr c4;have c4b1:=bne_eq_false_iff_eq.mpr c4;clear c4;replace H:=zbd_ H;obtain ⟨⟨t2,t5⟩,A5,H⟩:=H;try dsimp only at H
  simp only [Option.some.injEq,Prod.mk.injEq] at H;obtain ⟨rfl,rfl⟩:=H;go_enter Try.func105,Try.ntmps105;go_wp2_with (first|((with_reducible refine gate_dst (N:=4) rfl ?_);refine bx_ (N:=4) (cs:=#[.int .i64 a1_0, .string a1_1, .string a1_2, .int .i64 a1_3, .int .i64 a1_4, .int .i64 a1_5]) (t:=76) ?_;intro gb1 hg w6 hbox hb;have BK1:=am_ (hbox);have GE1:=am_ ((zg0_ HB hg:w.heap.size≤gb1));replace HB:=am_ (below_step (zl0_ HB) hb);clear hb hbox hg;obtain ⟨hcz7_0,hcz7_1,hcz7_2,hcz7_3,hcz7_4,hcz7_5⟩:=x6_ BK1;have hfz7_0:=blk_frozen BK1.out 0;have hfz7_1:=blk_frozen BK1.out 1;have hfz7_2:=blk_frozen BK1.out 2;have hfz7_3:=blk_frozen BK1.out 3;have hfz7_4:=blk_frozen BK1.out 4;have hfz7_5:=blk_frozen BK1.out 5)|((with_reducible refine gate_callee (f:=138) rfl ?_);refine gl_ (some 19) Try.func138 #[.slice A0 l0.length c0, .string a1_1, .string a1_2, .agg #[.int .i64 a1_3, .int .i64 a1_4, .int .i64 a1_5]] ?_;(with_reducible refine (shape_Create.calls _ _ l0 a1_1 a1_2 a1_3 a1_4 a1_5 t2 t5 _ ?side1 ?side2 A5.out).mono ?_);(case side1=>exact zc_ (Kd.C_below HR0.out HB.out));(case side2=>exact HC0.out);rintro e w8 ⟨v3,rfl,ho0,hb⟩;refine ⟨_,rfl, ?_⟩;have HO4:=am_ (Kd.R_lower ho0 (below_size (zl1_ HB GE1)));replace BK1:=bb_ BK1 hb;replace HB:=am_ (below_step (zl1_ HB GE1) hb);(try clear hb ho0)))
  go_ret2
  exact ⟨_,by first|rfl|(simp [errW_none,errW_some]<;>rfl)|(simp [*,errW_none,errW_some]<;>rfl),zr_ HO4,zl1_ HB GE1⟩
 rw [if_neg c4] at H;have c4b0:=beq_eq_false_iff_ne.mpr c4;have c4b1:=bne_iff_ne.mpr c4;by_cases c9:a1_0=2
 ·rw [if_pos c9] at H;have c9b0:=beq_iff_eq.mpr c9;have c9b1:=bne_eq_false_iff_eq.mpr c9;clear c9;replace H:=zbd_ H;obtain ⟨⟨t6,t9⟩,A10,H⟩:=H;try dsimp only at H
  simp only [Option.some.injEq,Prod.mk.injEq] at H;obtain ⟨rfl,rfl⟩:=H;go_enter Try.func105,Try.ntmps105;go_wp2_with (first|((with_reducible refine gate_dst (N:=4) rfl ?_);refine bx_ (N:=4) (cs:=#[.int .i64 a1_0, .string a1_1, .string a1_2, .int .i64 a1_3, .int .i64 a1_4, .int .i64 a1_5]) (t:=76) ?_;intro gb1 hg w11 hbox hb;have BK1:=am_ (hbox);have GE1:=am_ ((zg0_ HB hg:w.heap.size≤gb1));replace HB:=am_ (below_step (zl0_ HB) hb);clear hb hbox hg;obtain ⟨hcz12_0,hcz12_1,hcz12_2,hcz12_3,hcz12_4,hcz12_5⟩:=x6_ BK1;have hfz12_0:=blk_frozen BK1.out 0;have hfz12_1:=blk_frozen BK1.out 1;have hfz12_2:=blk_frozen BK1.out 2;have hfz12_3:=blk_frozen BK1.out 3;have hfz12_4:=blk_frozen BK1.out 4;have hfz12_5:=blk_frozen BK1.out 5)|((with_reducible refine gate_callee (f:=139) rfl ?_);refine gl_ (some 30) Try.func139 #[.slice A0 l0.length c0, .string a1_1, .agg #[.int .i64 a1_3, .int .i64 a1_4, .int .i64 a1_5], .int .i64 a2] ?_;(with_reducible refine (shape_Limit.calls _ _ l0 a1_1 a1_3 a1_4 a1_5 a2 t6 t9 _ ?side1 ?side2 A10.out).mono ?_);(case side1=>exact zc_ (Kd.C_below HR0.out HB.out));(case side2=>exact HC0.out);rintro e w13 ⟨v7,rfl,ho0,hb⟩;refine ⟨_,rfl, ?_⟩;have HO8:=am_ (Kd.R_lower ho0 (below_size (zl1_ HB GE1)));replace BK1:=bb_ BK1 hb;replace HB:=am_ (below_step (zl1_ HB GE1) hb);(try clear hb ho0)))
  go_ret2
  exact ⟨_,by first|rfl|(simp [errW_none,errW_some]<;>rfl)|(simp [*,errW_none,errW_some]<;>rfl),zr_ HO8,zl1_ HB GE1⟩
 rw [if_neg c9] at H;have c9b0:=beq_eq_false_iff_ne.mpr c9;have c9b1:=bne_iff_ne.mpr c9;by_cases c14:a1_0=3
 ·rw [if_pos c14] at H;have c14b0:=beq_iff_eq.mpr c14;have c14b1:=bne_eq_false_iff_eq.mpr c14;clear c14;replace H:=zbd_ H;obtain ⟨⟨t10,t11⟩,A15,H⟩:=H;try dsimp only at H
  simp only [Option.some.injEq,Prod.mk.injEq] at H;obtain ⟨rfl,rfl⟩:=H;go_enter Try.func105,Try.ntmps105;go_wp2_with (first|((with_reducible refine gate_dst (N:=4) rfl ?_);refine bx_ (N:=4) (cs:=#[.int .i64 a1_0, .string a1_1, .string a1_2, .int .i64 a1_3, .int .i64 a1_4, .int .i64 a1_5]) (t:=76) ?_;intro gb1 hg w16 hbox hb;have BK1:=am_ (hbox);have GE1:=am_ ((zg0_ HB hg:w.heap.size≤gb1));replace HB:=am_ (below_step (zl0_ HB) hb);clear hb hbox hg;obtain ⟨hcz17_0,hcz17_1,hcz17_2,hcz17_3,hcz17_4,hcz17_5⟩:=x6_ BK1;have hfz17_0:=blk_frozen BK1.out 0;have hfz17_1:=blk_frozen BK1.out 1;have hfz17_2:=blk_frozen BK1.out 2;have hfz17_3:=blk_frozen BK1.out 3;have hfz17_4:=blk_frozen BK1.out 4;have hfz17_5:=blk_frozen BK1.out 5)|((with_reducible refine gate_callee (f:=140) rfl ?_);refine gl_ (some 41) Try.func140 #[.slice A0 l0.length c0, .string a1_1, .string a1_2, .int .i64 a2] ?_;(with_reducible refine (shape_Move.calls k _ _ l0 a1_1 a1_2 a2 t10 t11 _ ?side1 ?side2 A15.out).mono ?_);(case side1=>exact zc_ (Kd.C_below HR0.out HB.out));(case side2=>exact HC0.out);rintro e w18 ⟨v12,rfl,ho0,hb⟩;refine ⟨_,rfl, ?_⟩;have HO13:=am_ (Kd.R_lower ho0 (below_size (zl1_ HB GE1)));replace BK1:=bb_ BK1 hb;replace HB:=am_ (below_step (zl1_ HB GE1) hb);(try clear hb ho0)))
  go_ret2
  exact ⟨_,by first|rfl|(simp [errW_none,errW_some]<;>rfl)|(simp [*,errW_none,errW_some]<;>rfl),zr_ HO13,zl1_ HB GE1⟩
 rw [if_neg c14] at H;have c14b0:=beq_eq_false_iff_ne.mpr c14;have c14b1:=bne_iff_ne.mpr c14;by_cases c19:a1_0=4;rotate_left
 ·rw [if_neg c19] at H;have c19b0:=beq_eq_false_iff_ne.mpr c19;have c19b1:=bne_iff_ne.mpr c19;simp only [Option.some.injEq,Prod.mk.injEq] at H;obtain ⟨rfl,rfl⟩:=H;go_enter Try.func105,Try.ntmps105;go_wp2_with (first|((with_reducible refine gate_dst (N:=4) rfl ?_);refine bx_ (N:=4) (cs:=#[.int .i64 a1_0, .string a1_1, .string a1_2, .int .i64 a1_3, .int .i64 a1_4, .int .i64 a1_5]) (t:=76) ?_;intro gb1 hg w24 hbox hb;have BK1:=am_ (hbox);have GE1:=am_ ((zg0_ HB hg:w.heap.size≤gb1));replace HB:=am_ (below_step (zl0_ HB) hb);clear hb hbox hg;obtain ⟨hcz25_0,hcz25_1,hcz25_2,hcz25_3,hcz25_4,hcz25_5⟩:=x6_ BK1;have hfz25_0:=blk_frozen BK1.out 0;have hfz25_1:=blk_frozen BK1.out 1;have hfz25_2:=blk_frozen BK1.out 2;have hfz25_3:=blk_frozen BK1.out 3;have hfz25_4:=blk_frozen BK1.out 4;have hfz25_5:=blk_frozen BK1.out 5))
  go_ret2
  exact ⟨_,by first|rfl|(simp [errW_none,errW_some]<;>rfl)|(simp [*,errW_none,errW_some]<;>rfl),by first|exact Kd.R_nil _ _ _ _ _|exact Kd.N_nil _ _ _ _ _|exact Kd.V_nil _ _ _ _ _|exact Kd.Q_nil _ _ _ _ _|exact Kd.S_nil _ _ _ _ _,zl1_ HB GE1⟩

 rw [if_pos c19] at H;have c19b0:=beq_iff_eq.mpr c19;have c19b1:=bne_eq_false_iff_eq.mpr c19;clear c19;replace H:=zbd_ H;obtain ⟨⟨t14,t15⟩,A20,H⟩:=H;try dsimp only at H
 simp only [Option.some.injEq,Prod.mk.injEq] at H;obtain ⟨rfl,rfl⟩:=H;go_enter Try.func105,Try.ntmps105;go_wp2_with (first|((with_reducible refine gate_dst (N:=4) rfl ?_);refine bx_ (N:=4) (cs:=#[.int .i64 a1_0, .string a1_1, .string a1_2, .int .i64 a1_3, .int .i64 a1_4, .int .i64 a1_5]) (t:=76) ?_;intro gb1 hg w21 hbox hb;have BK1:=am_ (hbox);have GE1:=am_ ((zg0_ HB hg:w.heap.size≤gb1));replace HB:=am_ (below_step (zl0_ HB) hb);clear hb hbox hg;obtain ⟨hcz22_0,hcz22_1,hcz22_2,hcz22_3,hcz22_4,hcz22_5⟩:=x6_ BK1;have hfz22_0:=blk_frozen BK1.out 0;have hfz22_1:=blk_frozen BK1.out 1;have hfz22_2:=blk_frozen BK1.out 2;have hfz22_3:=blk_frozen BK1.out 3;have hfz22_4:=blk_frozen BK1.out 4;have hfz22_5:=blk_frozen BK1.out 5)|((with_reducible refine gate_callee (f:=141) rfl ?_);refine gl_ (some 50) Try.func141 #[.slice A0 l0.length c0, .string a1_1, .int .i64 a2] ?_;(with_reducible refine (shape_Delete.calls k _ _ l0 a1_1 a2 t14 t15 _ ?side1 ?side2 A20.out).mono ?_);(case side1=>exact zc_ (Kd.C_below HR0.out HB.out));(case side2=>exact HC0.out);rintro e w23 ⟨v16,rfl,ho0,hb⟩;refine ⟨_,rfl, ?_⟩;have HO17:=am_ (Kd.R_lower ho0 (below_size (zl1_ HB GE1)));replace BK1:=bb_ BK1 hb;replace HB:=am_ (below_step (zl1_ HB GE1) hb);(try clear hb ho0)))
 go_ret2
 exact ⟨_,by first|rfl|(simp [errW_none,errW_some]<;>rfl)|(simp [*,errW_none,errW_some]<;>rfl),zr_ HO17,zl1_ HB GE1⟩
def apply_going_next.f (l0_0:List (S84)) (l0_1:List (S76)) (a0_2:Int):Option (Int×ByteArray×ByteArray×Int×Int×Int×Bool):=if a0_2<0 then (some (0,(⟨#[]⟩:ByteArray),(⟨#[]⟩:ByteArray),0,0,0,false)) else (if a0_2≥(l0_1.length:Int) then (some (0,(⟨#[]⟩:ByteArray),(⟨#[]⟩:ByteArray),0,0,0,false)) else (if 0≤a0_2 then (if a0_2<(l0_1.length:Int) then (some ((rd_T76 l0_1 a0_2).f0,(rd_T76 l0_1 a0_2).f1,(rd_T76 l0_1 a0_2).f2,(rd_T76 l0_1 a0_2).f3.f0,(rd_T76 l0_1 a0_2).f3.f1,(rd_T76 l0_1 a0_2).f3.f2,true)) else (none)) else (none)))
set_option maxHeartbeats 8000000 in
set_option maxRecDepth 100000 in
theorem apply_going_next.calls (A0_0:Option Addr) (c0_0:Nat) (l0_0:List (S84)) (A0_1:Option Addr) (c0_1:Nat) (l0_1:List (S76)) (a0_2:Int) (r1:Int) (r2:ByteArray) (r3:ByteArray) (r4:Int) (r5:Int) (r6:Int) (r7:Bool) (w:World) (hr0_0:Kd.C k84 w A0_0 l0_0.length l0_0) (hc0_0:l0_0.length≤c0_0) (hr0_1:Kd.C k76 w A0_1 l0_1.length l0_1) (hc0_1:l0_1.length≤c0_1) (h:apply_going_next.f l0_0 l0_1 a0_2=some (r1,r2,r3,r4,r5,r6,r7)):
  Calls Try.prog 103 #[.agg #[.slice A0_0 l0_0.length c0_0, .slice A0_1 l0_1.length c0_1, .int .i64 a0_2]] w fun e w'=>e= .returned (.tuple #[.agg #[.int .i64 r1, .string r2, .string r3, .int .i64 r4, .int .i64 r5, .int .i64 r6], .bool r7])∧Below w.heap.size w w':=by
 have hu150:=Try.underlying150;have hu76:=Try.underlying76;have HR0_0:=Aside0.mk hr0_0;have HC0_0:=Aside0.mk hc0_0;clear hr0_0 hc0_0;have HR0_1:=Aside0.mk hr0_1;have HC0_1:=Aside0.mk hc0_1;clear hr0_1 hc0_1;have HB:=am_ (Below.refl w.heap.size w);have H:(if a0_2<0 then (some (0,(⟨#[]⟩:ByteArray),(⟨#[]⟩:ByteArray),0,0,0,false)) else (if a0_2≥(l0_1.length:Int) then (some (0,(⟨#[]⟩:ByteArray),(⟨#[]⟩:ByteArray),0,0,0,false)) else (if 0≤a0_2 then (if a0_2<(l0_1.length:Int) then (some ((rd_T76 l0_1 a0_2).f0,(rd_T76 l0_1 a0_2).f1,(rd_T76 l0_1 a0_2).f2,(rd_T76 l0_1 a0_2).f3.f0,(rd_T76 l0_1 a0_2).f3.f1,(rd_T76 l0_1 a0_2).f3.f2,true)) else (none)) else (none))))=some (r1,r2,r3,r4,r5,r6,r7):=h;clear h;by_cases c2:a0_2<0
 ·rw [if_pos c2] at H;have c2b0:=decide_eq_true c2;clear c2;simp only [Option.some.injEq,Prod.mk.injEq] at H;obtain ⟨rfl,rfl,rfl,rfl,rfl,rfl,rfl⟩:=H;go_enter Try.func103,Try.ntmps103;go_wp2_with (first|((with_reducible refine gate_dst (N:=1) rfl ?_);(try (refine gate_guard (by rfl) ?_;dsimp only));refine bx_ (N:=1) (cs:=#[.slice A0_0 l0_0.length c0_0, .slice A0_1 l0_1.length c0_1, .int .i64 a0_2]) (t:=150) ?_;intro gb1 hg w3 hbox hb;have BK1:=am_ (hbox);have GE1:=am_ ((zg0_ HB hg:w.heap.size≤gb1));replace HB:=am_ (below_step (zl0_ HB) hb);clear hb hbox hg)|((with_reducible refine gate_dst (N:=2) rfl ?_);(try (refine gate_guard (by rfl) ?_;dsimp only));refine bx_ (N:=2) (cs:=#[.int .i64 0, .string (⟨#[]⟩:ByteArray), .string (⟨#[]⟩:ByteArray), .int .i64 0, .int .i64 0, .int .i64 0]) (t:=76) ?_;intro gb2 hg w4 hbox hb;have BK2:=am_ (hbox);have GE2:=am_ ((zg1_ HB GE1 hg:w.heap.size≤gb2));replace HB:=am_ (below_step (zl1_ HB GE1) hb);have NB1_2:=am_ ((zn_ BK1 hg:gb1≠gb2));have NB2_1:=am_ ((zm_ BK1 hg:gb2≠gb1));replace BK1:=bb_ BK1 hb;clear hb hbox hg;have hnb5:=NB1_2.out;have hnc5:=NB2_1.out;obtain ⟨hcz6_0,hcz6_1,hcz6_2,hfz6_0,hfz6_1,hfz6_2⟩:=y3_ BK1;obtain ⟨hcz7_0,hcz7_1,hcz7_2,hcz7_3,hcz7_4,hcz7_5⟩:=x6_ BK2;have hfz7_0:=blk_frozen BK2.out 0;have hfz7_1:=blk_frozen BK2.out 1;have hfz7_2:=blk_frozen BK2.out 2;have hfz7_3:=blk_frozen BK2.out 3;have hfz7_4:=blk_frozen BK2.out 4;have hfz7_5:=blk_frozen BK2.out 5))
  refine bodyPost_ret (results_ct rfl _ _ gb2 76 #[.int .i64 0, .string (⟨#[]⟩:ByteArray), .string (⟨#[]⟩:ByteArray), .int .i64 0, .int .i64 0, .int .i64 0] (0,0) _ rfl (zw_ BK2) Try.underlying76 rfl (by kernel_rfl)) rfl ?_;exact ⟨by first|rfl|(simp [errW_none,errW_some]<;>rfl)|(simp [*,errW_none,errW_some]<;>rfl),zl2_ HB GE1 GE2⟩
 rw [if_neg c2] at H;have c2b0:=decide_eq_false c2;clear c2;by_cases c8:a0_2≥(l0_1.length:Int)
 ·rw [if_pos c8] at H;have c8b0:decide ((l0_1.length:Int)≤a0_2)=true:=decide_eq_true c8;clear c8;simp only [Option.some.injEq,Prod.mk.injEq] at H;obtain ⟨rfl,rfl,rfl,rfl,rfl,rfl,rfl⟩:=H;go_enter Try.func103,Try.ntmps103;go_wp2_with (first|((with_reducible refine gate_dst (N:=1) rfl ?_);(try (refine gate_guard (by rfl) ?_;dsimp only));refine bx_ (N:=1) (cs:=#[.slice A0_0 l0_0.length c0_0, .slice A0_1 l0_1.length c0_1, .int .i64 a0_2]) (t:=150) ?_;intro gb1 hg w9 hbox hb;have BK1:=am_ (hbox);have GE1:=am_ ((zg0_ HB hg:w.heap.size≤gb1));replace HB:=am_ (below_step (zl0_ HB) hb);clear hb hbox hg)|((with_reducible refine gate_dst (N:=2) rfl ?_);(try (refine gate_guard (by rfl) ?_;dsimp only));refine bx_ (N:=2) (cs:=#[.int .i64 0, .string (⟨#[]⟩:ByteArray), .string (⟨#[]⟩:ByteArray), .int .i64 0, .int .i64 0, .int .i64 0]) (t:=76) ?_;intro gb2 hg w10 hbox hb;have BK2:=am_ (hbox);have GE2:=am_ ((zg1_ HB GE1 hg:w.heap.size≤gb2));replace HB:=am_ (below_step (zl1_ HB GE1) hb);have NB1_2:=am_ ((zn_ BK1 hg:gb1≠gb2));have NB2_1:=am_ ((zm_ BK1 hg:gb2≠gb1));replace BK1:=bb_ BK1 hb;clear hb hbox hg;have hnb11:=NB1_2.out;have hnc11:=NB2_1.out;obtain ⟨hcz12_0,hcz12_1,hcz12_2,hfz12_0,hfz12_1,hfz12_2⟩:=y3_ BK1;obtain ⟨hcz13_0,hcz13_1,hcz13_2,hcz13_3,hcz13_4,hcz13_5⟩:=x6_ BK2;have hfz13_0:=blk_frozen BK2.out 0;have hfz13_1:=blk_frozen BK2.out 1;have hfz13_2:=blk_frozen BK2.out 2;have hfz13_3:=blk_frozen BK2.out 3;have hfz13_4:=blk_frozen BK2.out 4;have hfz13_5:=blk_frozen BK2.out 5))
  refine bodyPost_ret (results_ct rfl _ _ gb2 76 #[.int .i64 0, .string (⟨#[]⟩:ByteArray), .string (⟨#[]⟩:ByteArray), .int .i64 0, .int .i64 0, .int .i64 0] (0,0) _ rfl (zw_ BK2) Try.underlying76 rfl (by kernel_rfl)) rfl ?_;exact ⟨by first|rfl|(simp [errW_none,errW_some]<;>rfl)|(simp [*,errW_none,errW_some]<;>rfl),zl2_ HB GE1 GE2⟩
 rw [if_neg c8] at H;have c8b0:decide ((l0_1.length:Int)≤a0_2)=false:=decide_eq_false c8;clear c8;by_cases c14:0≤a0_2;rotate_left
 ·rw [if_neg c14] at H;exact absurd H (by simp)

 rw [if_pos c14] at H;have c14b0:=decide_eq_true c14;clear c14;replace H:=zif_ H;obtain ⟨c15,H⟩:=H;have c15b0:=decide_eq_true c15;clear c15;simp only [Option.some.injEq,Prod.mk.injEq] at H;obtain ⟨rfl,rfl,rfl,rfl,rfl,rfl,rfl⟩:=H;go_enter Try.func103,Try.ntmps103
 go_wp2_with (first|((with_reducible refine gate_dst (N:=1) rfl ?_);(try (refine gate_guard (by rfl) ?_;dsimp only));refine bx_ (N:=1) (cs:=#[.slice A0_0 l0_0.length c0_0, .slice A0_1 l0_1.length c0_1, .int .i64 a0_2]) (t:=150) ?_;intro gb1 hg w16 hbox hb;have BK1:=am_ (hbox);have GE1:=am_ ((zg0_ HB hg:w.heap.size≤gb1));replace HB:=am_ (below_step (zl0_ HB) hb);clear hb hbox hg)|((with_reducible refine gate_dst (N:=2) rfl ?_);(try (refine gate_guard (by rfl) ?_;dsimp only));refine bx_ (N:=2) (cs:=#[.int .i64 0, .string (⟨#[]⟩:ByteArray), .string (⟨#[]⟩:ByteArray), .int .i64 0, .int .i64 0, .int .i64 0]) (t:=76) ?_;intro gb2 hg w17 hbox hb;have BK2:=am_ (hbox);have GE2:=am_ ((zg1_ HB GE1 hg:w.heap.size≤gb2));replace HB:=am_ (below_step (zl1_ HB GE1) hb);have NB1_2:=am_ ((zn_ BK1 hg:gb1≠gb2));have NB2_1:=am_ ((zm_ BK1 hg:gb2≠gb1));replace BK1:=bb_ BK1 hb;clear hb hbox hg;have hnb18:=NB1_2.out;have hnc18:=NB2_1.out;obtain ⟨hcz19_0,hcz19_1,hcz19_2,hfz19_0,hfz19_1,hfz19_2⟩:=y3_ BK1;have p3:0≤(a0_2:Int):=of_decide_eq_true zq_;have q3:a0_2<(l0_1.length:Int):=of_decide_eq_true zq_;obtain ⟨ad3,e3,hx3_0,hx3_1,hx3_2,hx3_3,hx3_4,hx3_5⟩:=at_T76 HR0_1.out a0_2 p3 q3;cases e3;replace hx3_0:=zx6_ HB hx3_0 hx3_1 hx3_2 hx3_3 hx3_4 hx3_5;clear hx3_1 hx3_2 hx3_3 hx3_4 hx3_5;obtain ⟨hx3_0,hx3_1,hx3_2,hx3_3,hx3_4,hx3_5⟩:=hx3_0;replace p3:=eq_true p3;replace q3:=eq_true q3;obtain ⟨hcz20_0,hcz20_1,hcz20_2,hcz20_3,hcz20_4,hcz20_5⟩:=x6_ BK2;have hfz20_0:=blk_frozen BK2.out 0;have hfz20_1:=blk_frozen BK2.out 1;have hfz20_2:=blk_frozen BK2.out 2;have hfz20_3:=blk_frozen BK2.out 3;have hfz20_4:=blk_frozen BK2.out 4;have hfz20_5:=blk_frozen BK2.out 5))
 refine bodyPost_ret (results_ct rfl _ _ gb2 76 #[.int .i64 ((rd_T76 l0_1 a0_2).f0), .string ((rd_T76 l0_1 a0_2).f1), .string ((rd_T76 l0_1 a0_2).f2), .int .i64 ((rd_T76 l0_1 a0_2).f3.f0), .int .i64 ((rd_T76 l0_1 a0_2).f3.f1), .int .i64 ((rd_T76 l0_1 a0_2).f3.f2)] (0,0) _ rfl (zw_ BK2) Try.underlying76 rfl (by kernel_rfl)) rfl ?_;exact ⟨by first|rfl|(simp [errW_none,errW_some]<;>rfl)|(simp [*,errW_none,errW_some]<;>rfl),zl2_ HB GE1 GE2⟩
def effect_find.f (l:List S79) (n:ByteArray):Option (ByteArray×ByteArray×Int×Int×Int×Int×Int×Int×Int×Int×Int×Int×Bool):=(tree_Find.f l n).bind fun t=>if t≥0 then (if t<(l.length:Int) then some ((rd_T79 l t).f0,(rd_T79 l t).f1,(rd_T79 l t).f2.f0,(rd_T79 l t).f2.f1,(rd_T79 l t).f2.f2,(rd_T79 l t).f3.f0,(rd_T79 l t).f3.f1,(rd_T79 l t).f3.f2,(rd_T79 l t).f4.f0,(rd_T79 l t).f4.f1,(rd_T79 l t).f4.f2,(rd_T79 l t).f5,true) else none) else some ((⟨#[]⟩:ByteArray),(⟨#[]⟩:ByteArray),0,0,0,0,0,0,0,0,0,0,false)
set_option maxHeartbeats 8000000 in
set_option maxRecDepth 100000 in
theorem effFind_calls (A:Option Addr) (c:Nat) (l:List S79) (n:ByteArray) (r2 r3:ByteArray) (r4 r5 r6 r7 r8 r9 r10 r11 r12 r13:Int) (r14:Bool) (w:World) (hr:Kd.C k79 w A l.length l) (hc:l.length≤c) (h:effect_find.f l n=some (r2,r3,r4,r5,r6,r7,r8,r9,r10,r11,r12,r13,r14)):
    Calls Try.prog 137 #[.slice A l.length c, .string n] w fun e w'=>e= .returned (.agg #[.slice A l.length c, .string r2, .string r3, .int .i64 r4, .int .i64 r5, .int .i64 r6, .int .i64 r7, .int .i64 r8, .int .i64 r9, .int .i64 r10, .int .i64 r11, .int .i64 r12, .int .i64 r13, .bool r14])∧Below w.heap.size w w':=by
  have hu180:=Try.underlying180;have hu178:=Try.underlying178;have hu79:=Try.underlying79;obtain ⟨t,ht,h⟩:=Option.bind_eq_some_iff.1 h;have HR:=Aside0.mk hr;have HC:=Aside0.mk hc;have HT:=Aside0.mk ht;have HH:=Aside0.mk h;have HB:=am_ (Below.refl w.heap.size w);clear hr hc ht h;go_enter Try.func137,Try.ntmps137
  go_wp2_with (first|((with_reducible refine gate_dst (N:=4) rfl ?_);refine bx_ (N:=4) (cs:=#[.slice none 0 0, .string ⟨#[]⟩, .string ⟨#[]⟩, .int .i64 0, .int .i64 0, .int .i64 0, .int .i64 0, .int .i64 0, .int .i64 0, .int .i64 0, .int .i64 0, .int .i64 0, .int .i64 0, .bool false]) (t:=180) ?_;intro gb4 hg w1 hbox hb;have BK4:=am_ (hbox);have GE4:=am_ ((by rw [hg];exact below_size HB.out:w.heap.size≤gb4));replace HB:=am_ (below_step HB.out hb);have EQ4:=am_ (hg);clear hb hbox hg)|((with_reducible refine gate_dst (N:=5) rfl ?_);refine bx_ (N:=5) (cs:=#[.slice none 0 0, .string ⟨#[]⟩, .string ⟨#[]⟩, .int .i64 0, .int .i64 0, .int .i64 0, .int .i64 0, .int .i64 0, .int .i64 0, .int .i64 0, .int .i64 0, .int .i64 0, .int .i64 0, .bool false]) (t:=180) ?_;intro gb5 hg w2 hbox hb;have NE:=am_ (show gb4≠gb5 from by have:=blk_lt BK4.out;rw [hg];exact Nat.ne_of_lt this);replace BK4:=am_ (blk_below BK4.out hb);have BK5:=am_ (hbox);have GE5:=am_ ((by rw [hg];exact below_size HB.out:w.heap.size≤gb5));replace HB:=am_ (below_step HB.out hb);have EQ5:=am_ (hg);clear hb hbox hg;have cgb5_0:=zz_ BK5 0;have cgb5_1:=zz_ BK5 1;have cgb5_2:=zz_ BK5 2;have cgb5_3:=zz_ BK5 3;have cgb5_4:=zz_ BK5 4;have cgb5_5:=zz_ BK5 5;have cgb5_6:=zz_ BK5 6;have cgb5_7:=zz_ BK5 7;have cgb5_8:=zz_ BK5 8;have cgb5_9:=zz_ BK5 9;have cgb5_10:=zz_ BK5 10;have cgb5_11:=zz_ BK5 11;have cgb5_12:=zz_ BK5 12;have cgb5_13:=zz_ BK5 13)|((with_reducible refine gate_store (t:=180) (p:=5) (v:= .tmp 9) rfl ?_);refine store_all BK5.out 180 (.tmp 5) (.tmp 9) rfl rfl rfl (.agg #[.slice A l.length c, .string ⟨#[]⟩, .string ⟨#[]⟩, .int .i64 0, .int .i64 0, .int .i64 0, .int .i64 0, .int .i64 0, .int .i64 0, .int .i64 0, .int .i64 0, .int .i64 0, .int .i64 0, .bool false]) [.slice A l.length c, .string ⟨#[]⟩, .string ⟨#[]⟩, .int .i64 0, .int .i64 0, .int .i64 0, .int .i64 0, .int .i64 0, .int .i64 0, .int .i64 0, .int .i64 0, .int .i64 0, .int .i64 0, .bool false] rfl rfl rfl (by kernel_rfl) rfl (by intro q hq;simp only [List.mem_cons,List.not_mem_nil,or_false] at hq;rcases hq with rfl|rfl|rfl|rfl|rfl|rfl|rfl|rfl|rfl|rfl|rfl|rfl|rfl|rfl<;>rfl) ?_;intro w3 hbk hg;clear cgb5_0 cgb5_1 cgb5_2 cgb5_3 cgb5_4 cgb5_5 cgb5_6 cgb5_7 cgb5_8 cgb5_9 cgb5_10 cgb5_11 cgb5_12 cgb5_13;replace BK4:=am_ (blk_put_other BK4.out hg (NE.out));replace HB:=am_ (below_put HB.out (below_size HB.out) hg GE5.out);replace BK5:=am_ (hbk);clear hbk hg;have cgb5_0:=zz_ BK5 0;have cgb5_1:=zz_ BK5 1;have cgb5_2:=zz_ BK5 2;have cgb5_3:=zz_ BK5 3;have cgb5_4:=zz_ BK5 4;have cgb5_5:=zz_ BK5 5;have cgb5_6:=zz_ BK5 6;have cgb5_7:=zz_ BK5 7;have cgb5_8:=zz_ BK5 8;have cgb5_9:=zz_ BK5 9;have cgb5_10:=zz_ BK5 10;have cgb5_11:=zz_ BK5 11;have cgb5_12:=zz_ BK5 12;have cgb5_13:=zz_ BK5 13))
  refine (tree_Find.calls _ _ l n t _ (Kd.C_below HR.out HB.out) HC.out HT.out).mono ?_;rintro e w4 ⟨rfl,hb⟩;have n0_:=am_ (blk_below BK4.out hb);have n1_:=am_ (blk_below BK5.out hb);have n2_:=am_ (below_step HB.out hb);clear BK4 BK5 HB hb cgb5_0 cgb5_1 cgb5_2 cgb5_3 cgb5_4 cgb5_5 cgb5_6 cgb5_7 cgb5_8 cgb5_9 cgb5_10 cgb5_11 cgb5_12 cgb5_13;have BK4:=n0_;have BK5:=n1_;have HB:=n2_;clear n0_ n1_ n2_;have h:=HH.out;clear HH;by_cases c1:t≥0;rotate_left
  · rw [if_neg c1] at h
    have c1b:decide (0≤t)=false:=decide_eq_false c1
    simp only [Option.some.injEq,Prod.mk.injEq] at h
    obtain ⟨rfl,rfl,rfl,rfl,rfl,rfl,rfl,rfl,rfl,rfl,rfl,rfl,rfl⟩:=h
    clear c1
    have cgb5_0:=zz_ BK5 0
    have cgb5_1:=zz_ BK5 1
    have cgb5_2:=zz_ BK5 2
    have cgb5_3:=zz_ BK5 3
    have cgb5_4:=zz_ BK5 4
    have cgb5_5:=zz_ BK5 5
    have cgb5_6:=zz_ BK5 6
    have cgb5_7:=zz_ BK5 7
    have cgb5_8:=zz_ BK5 8
    have cgb5_9:=zz_ BK5 9
    have cgb5_10:=zz_ BK5 10
    have cgb5_11:=zz_ BK5 11
    have cgb5_12:=zz_ BK5 12
    have cgb5_13:=zz_ BK5 13
    go_wp2_with (first|((with_reducible refine gate_store (t:=180) (p:=4) (v:= .tmp 21) rfl ?_);refine store_all BK4.out 180 (.tmp 4) (.tmp 21) rfl rfl rfl (.agg #[.slice A l.length c, .string ⟨#[]⟩, .string ⟨#[]⟩, .int .i64 0, .int .i64 0, .int .i64 0, .int .i64 0, .int .i64 0, .int .i64 0, .int .i64 0, .int .i64 0, .int .i64 0, .int .i64 0, .bool false]) [.slice A l.length c, .string ⟨#[]⟩, .string ⟨#[]⟩, .int .i64 0, .int .i64 0, .int .i64 0, .int .i64 0, .int .i64 0, .int .i64 0, .int .i64 0, .int .i64 0, .int .i64 0, .int .i64 0, .bool false] rfl rfl rfl (by kernel_rfl) rfl (by intro q hq;simp only [List.mem_cons,List.not_mem_nil,or_false] at hq;rcases hq with rfl|rfl|rfl|rfl|rfl|rfl|rfl|rfl|rfl|rfl|rfl|rfl|rfl|rfl<;>rfl) ?_;intro w7 hbk hg;replace BK5:=am_ (blk_put_other BK5.out hg (fun e=>NE.out e.symm));replace HB:=am_ (below_put HB.out (below_size HB.out) hg GE4.out);replace BK4:=am_ (hbk);clear hbk hg))
    refine bodyPost_ret (results_cell_row rfl _ _ gb4 180 #[.slice A l.length c, .string ⟨#[]⟩, .string ⟨#[]⟩, .int .i64 0, .int .i64 0, .int .i64 0, .int .i64 0, .int .i64 0, .int .i64 0, .int .i64 0, .int .i64 0, .int .i64 0, .int .i64 0, .bool false] (0,0) _ rfl BK4.out Try.underlying180 rfl (by kernel_rfl)) rfl ?_
    exact ⟨rfl,HB.out⟩


  rw [if_pos c1] at h;have c1b:decide (0≤t)=true:=decide_eq_true c1;by_cases c2:t<(l.length:Int);rotate_left
  · rw [if_neg c2] at h
    cases h
  rw [if_pos c2] at h;simp only [Option.some.injEq,Prod.mk.injEq] at h;obtain ⟨rfl,rfl,rfl,rfl,rfl,rfl,rfl,rfl,rfl,rfl,rfl,rfl,rfl⟩:=h;have p6:0≤t:=c1;have q6:t<(l.length:Int):=c2;obtain ⟨ad,e6,k0,k1,k2,k3,k4,k5,k6,k7,k8,k9,k10,k11⟩:=at_T79 HR.out t p6 q6;cases e6;have k0:=zx_ HB k0;have k1:=zx_ HB k1;have k2:=zx_ HB k2;have k3:=zx_ HB k3;have k4:=zx_ HB k4;have k5:=zx_ HB k5;have k6:=zx_ HB k6;have k7:=zx_ HB k7;have k8:=zx_ HB k8;have k9:=zx_ HB k9;have k10:=zx_ HB k10;have k11:=zx_ HB k11;replace p6:=eq_true p6;replace q6:=eq_true q6;clear c1 c2;have cgb5_0:=zz_ BK5 0;have cgb5_1:=zz_ BK5 1;have cgb5_2:=zz_ BK5 2;have cgb5_3:=zz_ BK5 3;have cgb5_4:=zz_ BK5 4;have cgb5_5:=zz_ BK5 5;have cgb5_6:=zz_ BK5 6;have cgb5_7:=zz_ BK5 7;have cgb5_8:=zz_ BK5 8;have cgb5_9:=zz_ BK5 9;have cgb5_10:=zz_ BK5 10;have cgb5_11:=zz_ BK5 11;have cgb5_12:=zz_ BK5 12;have cgb5_13:=zz_ BK5 13
  go_wp2_with (first|((with_reducible refine gate_store (t:=79) (p:=19) (v:= .tmp 18) rfl ?_);refine store_part BK5.out 79 (.tmp 19) (.tmp 18) rfl rfl rfl 1 (.agg #[.string (rd_T79 l t).f0, .string (rd_T79 l t).f1, .int .i64 (rd_T79 l t).f2.f0, .int .i64 (rd_T79 l t).f2.f1, .int .i64 (rd_T79 l t).f2.f2, .int .i64 (rd_T79 l t).f3.f0, .int .i64 (rd_T79 l t).f3.f1, .int .i64 (rd_T79 l t).f3.f2, .int .i64 (rd_T79 l t).f4.f0, .int .i64 (rd_T79 l t).f4.f1, .int .i64 (rd_T79 l t).f4.f2, .int .i64 (rd_T79 l t).f5]) [.string (rd_T79 l t).f0, .string (rd_T79 l t).f1, .int .i64 (rd_T79 l t).f2.f0, .int .i64 (rd_T79 l t).f2.f1, .int .i64 (rd_T79 l t).f2.f2, .int .i64 (rd_T79 l t).f3.f0, .int .i64 (rd_T79 l t).f3.f1, .int .i64 (rd_T79 l t).f3.f2, .int .i64 (rd_T79 l t).f4.f0, .int .i64 (rd_T79 l t).f4.f1, .int .i64 (rd_T79 l t).f4.f2, .int .i64 (rd_T79 l t).f5] [.slice (some ad) l.length c, .string (rd_T79 l t).f0, .string (rd_T79 l t).f1, .int .i64 (rd_T79 l t).f2.f0, .int .i64 (rd_T79 l t).f2.f1, .int .i64 (rd_T79 l t).f2.f2, .int .i64 (rd_T79 l t).f3.f0, .int .i64 (rd_T79 l t).f3.f1, .int .i64 (rd_T79 l t).f3.f2, .int .i64 (rd_T79 l t).f4.f0, .int .i64 (rd_T79 l t).f4.f1, .int .i64 (rd_T79 l t).f4.f2, .int .i64 (rd_T79 l t).f5, .bool false] rfl rfl rfl (by kernel_rfl) (Nat.le_of_ble_eq_true (by kernel_rfl)) (by intro q hq;simp only [List.mem_cons,List.not_mem_nil,or_false] at hq;rcases hq with rfl|rfl|rfl|rfl|rfl|rfl|rfl|rfl|rfl|rfl|rfl|rfl<;>rfl) (by kernel_rfl) ?_;intro w5 hbk hg;clear cgb5_0 cgb5_1 cgb5_2 cgb5_3 cgb5_4 cgb5_5 cgb5_6 cgb5_7 cgb5_8 cgb5_9 cgb5_10 cgb5_11 cgb5_12 cgb5_13;replace BK4:=am_ (blk_put_other BK4.out hg (NE.out));replace HB:=am_ (below_put HB.out (below_size HB.out) hg GE5.out);replace BK5:=am_ (hbk);clear hbk hg;have cgb5_0:=zz_ BK5 0;have cgb5_1:=zz_ BK5 1;have cgb5_2:=zz_ BK5 2;have cgb5_3:=zz_ BK5 3;have cgb5_4:=zz_ BK5 4;have cgb5_5:=zz_ BK5 5;have cgb5_6:=zz_ BK5 6;have cgb5_7:=zz_ BK5 7;have cgb5_8:=zz_ BK5 8;have cgb5_9:=zz_ BK5 9;have cgb5_10:=zz_ BK5 10;have cgb5_11:=zz_ BK5 11;have cgb5_12:=zz_ BK5 12;have cgb5_13:=zz_ BK5 13)|((with_reducible refine gate_store (t:=4) (p:=20) (v:= .const (.bool true)) rfl ?_);refine store_part BK5.out 4 (.tmp 20) (.const (.bool true)) rfl rfl rfl 13 (.bool true) [.bool true] [.slice (some ad) l.length c, .string (rd_T79 l t).f0, .string (rd_T79 l t).f1, .int .i64 (rd_T79 l t).f2.f0, .int .i64 (rd_T79 l t).f2.f1, .int .i64 (rd_T79 l t).f2.f2, .int .i64 (rd_T79 l t).f3.f0, .int .i64 (rd_T79 l t).f3.f1, .int .i64 (rd_T79 l t).f3.f2, .int .i64 (rd_T79 l t).f4.f0, .int .i64 (rd_T79 l t).f4.f1, .int .i64 (rd_T79 l t).f4.f2, .int .i64 (rd_T79 l t).f5, .bool true] rfl rfl rfl (by kernel_rfl) (Nat.le_of_ble_eq_true (by kernel_rfl)) (by intro q hq;simp only [List.mem_cons,List.not_mem_nil,or_false] at hq;rcases hq with rfl<;>rfl) (by kernel_rfl) ?_;intro w6 hbk hg;clear cgb5_0 cgb5_1 cgb5_2 cgb5_3 cgb5_4 cgb5_5 cgb5_6 cgb5_7 cgb5_8 cgb5_9 cgb5_10 cgb5_11 cgb5_12 cgb5_13;replace BK4:=am_ (blk_put_other BK4.out hg (NE.out));replace HB:=am_ (below_put HB.out (below_size HB.out) hg GE5.out);replace BK5:=am_ (hbk);clear hbk hg;have cgb5_0:=zz_ BK5 0;have cgb5_1:=zz_ BK5 1;have cgb5_2:=zz_ BK5 2;have cgb5_3:=zz_ BK5 3;have cgb5_4:=zz_ BK5 4;have cgb5_5:=zz_ BK5 5;have cgb5_6:=zz_ BK5 6;have cgb5_7:=zz_ BK5 7;have cgb5_8:=zz_ BK5 8;have cgb5_9:=zz_ BK5 9;have cgb5_10:=zz_ BK5 10;have cgb5_11:=zz_ BK5 11;have cgb5_12:=zz_ BK5 12;have cgb5_13:=zz_ BK5 13)|((with_reducible refine gate_store (t:=180) (p:=4) (v:= .tmp 21) rfl ?_);refine store_all BK4.out 180 (.tmp 4) (.tmp 21) rfl rfl rfl (.agg #[.slice (some ad) l.length c, .string (rd_T79 l t).f0, .string (rd_T79 l t).f1, .int .i64 (rd_T79 l t).f2.f0, .int .i64 (rd_T79 l t).f2.f1, .int .i64 (rd_T79 l t).f2.f2, .int .i64 (rd_T79 l t).f3.f0, .int .i64 (rd_T79 l t).f3.f1, .int .i64 (rd_T79 l t).f3.f2, .int .i64 (rd_T79 l t).f4.f0, .int .i64 (rd_T79 l t).f4.f1, .int .i64 (rd_T79 l t).f4.f2, .int .i64 (rd_T79 l t).f5, .bool true]) [.slice (some ad) l.length c, .string (rd_T79 l t).f0, .string (rd_T79 l t).f1, .int .i64 (rd_T79 l t).f2.f0, .int .i64 (rd_T79 l t).f2.f1, .int .i64 (rd_T79 l t).f2.f2, .int .i64 (rd_T79 l t).f3.f0, .int .i64 (rd_T79 l t).f3.f1, .int .i64 (rd_T79 l t).f3.f2, .int .i64 (rd_T79 l t).f4.f0, .int .i64 (rd_T79 l t).f4.f1, .int .i64 (rd_T79 l t).f4.f2, .int .i64 (rd_T79 l t).f5, .bool true] rfl rfl rfl (by kernel_rfl) rfl (by intro q hq;simp only [List.mem_cons,List.not_mem_nil,or_false] at hq;rcases hq with rfl|rfl|rfl|rfl|rfl|rfl|rfl|rfl|rfl|rfl|rfl|rfl|rfl|rfl<;>rfl) ?_;intro w7 hbk hg;replace BK5:=am_ (blk_put_other BK5.out hg (fun e=>NE.out e.symm));replace HB:=am_ (below_put HB.out (below_size HB.out) hg GE4.out);replace BK4:=am_ (hbk);clear hbk hg))
  refine bodyPost_ret (results_cell_row rfl _ _ gb4 180 #[.slice (some ad) l.length c, .string (rd_T79 l t).f0, .string (rd_T79 l t).f1, .int .i64 (rd_T79 l t).f2.f0, .int .i64 (rd_T79 l t).f2.f1, .int .i64 (rd_T79 l t).f2.f2, .int .i64 (rd_T79 l t).f3.f0, .int .i64 (rd_T79 l t).f3.f1, .int .i64 (rd_T79 l t).f3.f2, .int .i64 (rd_T79 l t).f4.f0, .int .i64 (rd_T79 l t).f4.f1, .int .i64 (rd_T79 l t).f4.f2, .int .i64 (rd_T79 l t).f5, .bool true] (0,0) _ rfl BK4.out Try.underlying180 rfl (by kernel_rfl)) rfl ?_;exact ⟨rfl,HB.out⟩
end Go.Proofs.Ytahidkjncljkaaa.Print
